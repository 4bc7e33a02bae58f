/- A part of the proof that PairChecks returns true for every input; no condition of its own. -/
import Derived.Test.YtblnjkjjedanaaaGreatDoorTaj
set_option linter.all false
set_option maxHeartbeats 100000000
set_option maxRecDepth 100000
open List renaming length_append->aMf,getD_eq_getElem?_getD->aQP,getElem?_append_left->aNq,getElem?_append_right->aTZ,append_assoc->aRd,take_length->aQV,length_set->aO8,getElem?_eq_getElem->aL5,getElem?_cons_succ->aPd,take->aUr,length_map->aTV,drop->aUs,drop_zero->aPp,getElem?_eq_none->aK4,mem_singleton->aMh,length_take->aMo,length_cons->aMm,mem_append->aLV,getElem?_set_ne->aNh,length_zipWith->aSY,zipWith->aSR,length_drop->aQ6,cons_append->aPr
open Rat renaming intCast_mul->aUo,divInt->aSu,zero_mul->aUu
open Nat renaming add_sub_cancel_left->aUp,lt_of_lt_of_le->aNt,pow_add->aQ3,le_refl->aKR,lt_of_le_of_lt->aQQ,add_assoc->aKU,lt_trichotomy->aUt,le_trans->aNm,gcd_pos_of_pos_left->aSS,mul_le_mul->aQY,pow_le_pow_right->aQT,mul_assoc->aPv,lt_succ_of_lt->aUv,gcd_dvd_right->aUw,reduceLT->aa,reduceEqDiff->ae,reduceAdd->ah,reduceLeDiff->ai,reduceBEq->aj,reduceMul->ak
open Int renaming natAbs_mul->aUq,natAbs_natCast->aSv,reduceLE->an,reduceLT->ao,reduceToNat->aq,reduceAdd->aA,reduceNeg->aB,reduceBEq->aD
open Option renaming getD_some->aMp
open Bool renaming and_self->aPt
namespace Go.Proofs.YtblnjkjjedanaaaGreatDoor
open Go Dv Dv.b7
variable{E:Env}[C:Ctx E]
theorem afz{T l:Hp}{L j o:Nat}(h:T.length=L):cellAt (T++l) (L+j) o=cellAt l j o:=by subst h;rw[iX,iX,aTZ (by omega),aUp]
theorem agk{T l:Hp}{L o:Nat}(h:T.length=L):cellAt (T++l) L o=cellAt l 0 o:=afz (j:=0) h
theorem afR{n:Nat}{T l:Hp}{L j o:Nat}(h:T.length=L):lZ n (T++l) (L+j) o=lZ n l j o:=by subst h;rw[lW,lW,aTZ (by omega),aUp]
theorem aj6{n:Nat}{T l:Hp}{L o:Nat}(h:T.length=L):lZ n (T++l) L o=lZ n l 0 o:=afR (j:=0) h
theorem aeC{n:Nat}{xs:List AV}{T l:Hp}{L j o:Nat}(h:T.length=L):mK n xs (T++l) (L+j) o=mK n xs l j o:=by subst h;rw[kH,kH,aTZ (by omega),aUp]
theorem aiq{n:Nat}{xs:List AV}{T l:Hp}{L o:Nat}(h:T.length=L):mK n xs (T++l) L o=mK n xs l 0 o:=aeC (j:=0) h
theorem De{T l:Hp}{L j:Nat}{x:cz}(h:T.length=L)(hj:j<=l.length):eE (T++l) (L+j) x=T++eE l j x:=by
 subst h;unfold eE;rw[aMf];by_cases h:j<l.length
 ·rw[if_pos (by omega),if_pos h]
  have:=List.set_append_right (s:=T) (t:=l) (i:=T.length+j) (x:=x) (by omega)
  rw[aUp]at this;exact this
 ·rw[if_neg (by omega),if_neg h,aRd]
section
variable{T l:Hp}{L:Nat}{x a b c d e f:cz}(h:T.length=L)
include h
theorem ap1:eE T L x=T++[x]:=by subst h;exact ep
theorem aqS:eE (T++a::l) L x=T++x::l:=De (j:=0) h (by simp)
theorem al4:eE (T++a::b::l) (L+1) x=T++a::x::l:=by rw[De h (by simp)];simp[eE]
theorem aqv:eE (T++a::b::c::l) (L+2) x=T++a::b::x::l:=by rw[De h (by simp)];simp[eE]
theorem aqE:eE (T++a::b::c::d::l) (L+3) x=T++a::b::c::x::l:=by rw[De h (by simp)];simp[eE]
theorem arG:eE (T++a::b::c::d::e::l) (L+4) x=T++a::b::c::d::x::l:=by rw[De h (by simp)];simp[eE]
theorem sb{j:Nat}:(T++l)[L+j]?=l[j]?:=by subst h;rw[aTZ (by omega),aUp]
theorem jU:(T++l)[L]?=l[0]?:=sb (j:=0) h
end
theorem V5:AV.aH.cells=[.aH]:=rfl
theorem XP{cs:List AV}{n:Nat}:(AV.aK cs n).cells=[.aK cs n]:=rfl
theorem XV{b o n s k:Nat}:(AV.aI b o n s k).cells=[.aI b o n s k]:=rfl
theorem acF{cs:List AV}{n:Nat}:df (AV.aK cs n)=true:=rfl
theorem acZ{b o n s k:Nat}:df (AV.aI b o n s k)=true:=rfl
theorem ade:df AV.aH=true:=rfl
theorem apg{T l:Hp}{L:Nat}{x y0 y1 y2 y3 y4 y5:cz}(h:T.length=L):eE (T++y0::y1::y2::y3::y4::y5::l) (L+5) x=T++y0::y1::y2::y3::y4::x::l:=by rw[De h (by simp)];simp[eE]
theorem aly{T l:Hp}{L:Nat}{x y0 y1 y2 y3 y4 y5 y6:cz}(h:T.length=L):eE (T++y0::y1::y2::y3::y4::y5::y6::l) (L+6) x=T++y0::y1::y2::y3::y4::y5::x::l:=by rw[De h (by simp)];simp[eE]
theorem ans{T l:Hp}{L:Nat}{x y0 y1 y2 y3 y4 y5 y6 y7:cz}(h:T.length=L):eE (T++y0::y1::y2::y3::y4::y5::y6::y7::l) (L+7) x=T++y0::y1::y2::y3::y4::y5::y6::x::l:=by rw[De h (by simp)];simp[eE]
theorem ahC{b o:Nat}:MU (.b9 b o)=some (.b9 b o):=rfl
theorem aj9{cs:List AV}{o:Nat}:MU (.eX cs o)=some (.eX cs o):=rfl
theorem Yy{H l:Hp}{bs:List Nat}(hb:∀b∈bs,b<H.length):(cE.marks bs).app (H++l)=Dv.mark H bs++l:=by
 show Dv.mark (H++l) bs=_
 refine List.ext_getElem? fun k=>?_
 by_cases hk:k<H.length
 ·rw[ik,aNq hk,aNq (by rw[lX];exact hk),ik]
 ·rw[ik,aTZ (by omega),aTZ (by rw[lX];omega),lX,if_neg (fun h=>hk (hb k h))]
theorem amY{n j k:Nat}:(n+j==n+k)=(j==k):=by rw[Bool.eq_iff_iff,beq_iff_eq,beq_iff_eq];omega
theorem azC{n k:Nat}:(0==n+(k+1))=false:=beq_eq_false_iff_ne.2 (by omega)
theorem Mr{cs xs:List AV}{o n:Nat}(hx:xs.length=n)(h:o+n<=cs.length):aUr n (aUs o (cH cs o xs))=xs:=by unfold cH;rw[aRd,List.drop_append_of_le_length (by rw[aMo];omega),List.drop_take_self,List.nil_append,<-hx,List.take_left'];rfl
theorem Oc{cs xs:List AV}{o n:Nat}(hx:xs.length=n)(h:o+n<=cs.length):(cH cs o xs).length=cs.length:=by unfold cH;simp only[aMf,aMo,aQ6];omega
theorem lU{T l:Hp}{b o:Nat}(h:b<T.length):cellAt (T++l) b o=cellAt T b o:=by rw[iX,iX,aNq h]
theorem pC{n:Nat}{T l:Hp}{b o:Nat}(h:b<T.length):lZ n (T++l) b o=lZ n T b o:=by rw[lW,lW,aNq h]
theorem sJ{n:Nat}{xs:List AV}{T l:Hp}{b o:Nat}(h:b<T.length):mK n xs (T++l) b o=mK n xs T b o:=by rw[kH,kH,aNq h]
theorem rW{T l:Hp}{b:Nat}{x:cz}(h:b<T.length):eE (T++l) b x=T.set b x++l:=by unfold eE;rw[if_pos (by rw[aMf];omega)];exact List.set_append_left b x h
theorem kR{H:Hp}{b o:Nat}{st:gu}{cs:List AV}(h:H[b]?=some (.cells st cs))(hd:st≠ .dead):cellAt H b o=cs[o]?:=by rw[iX,h];simp only;rw[if_neg hd]
theorem pk{n:Nat}{H:Hp}{b o:Nat}{st:gu}{cs:List AV}(h:H[b]?=some (.cells st cs))(hd:st≠ .dead):lZ n H b o=if o+n<=cs.length then some (.agg ((cs.drop o).take n))else none:=by rw[lW,h];simp only;rw[if_neg hd]
theorem pn{n:Nat}{xs:List AV}{H:Hp}{b o:Nat}{cs:List AV}(h:H[b]?=some (.cells .live cs)):mK n xs H b o=if(xs.length==n&&(decide (o+n<=cs.length)&&xs.all df))=true then some (.cells .live (cH cs o xs))else none:=by rw[kH,h]
end Go.Proofs.YtblnjkjjedanaaaGreatDoor
namespace Go.Proofs.YtblnjkjjedanaaaGreatDoor
open Go Dv
variable{E:Env}[C:Ctx E]
def dJ:=dZ (dZ @afz (And.intro @agk @afR) @aj6 (And.intro @aeC @aiq)) (dZ @ap1 (And.intro @aqS @al4) (And.intro @aqv @aqE) (And.intro @arG @apg)) (dZ @aly (And.intro @ans @sb) (And.intro @jU @amY) (And.intro @azC @ahC)) (dZ @aj9 (And.intro @V5 @XP) (And.intro @XV @acF) (And.intro @acZ @ade))
end Go.Proofs.YtblnjkjjedanaaaGreatDoor
namespace Go.Proofs.kY
abbrev FV:=Nat->Rat
def nU(f:Nat->Rat):Nat->Rat
 |0=>0
 |i+1=>nU f i+f i
theorem AF{f g:Nat->Rat}:∀{n:Nat},(∀i,i<n->f i=g i)->nU f n=nU g n
 |0,_=>rfl
 |n+1,h=>by rw[nU,nU,AF (fun i hi=>h i (by omega)),h n (by omega)]
theorem jx{f:Nat->Rat}:∀{n:Nat},(∀i,i<n->f i=0)->nU f n=0
 |0,_=>rfl
 |n+1,h=>by rw[nU,jx (fun i hi=>h i (by omega)),h n (by omega)];exact Rat.add_zero 0
theorem BP{f g h:Nat->Rat}{q:Rat}:∀{n:Nat},(∀i,i<n->h i=f i+q*g i)->nU h n=nU f n+q*nU g n
 |0,_=>by simp only[nU];grind
 |n+1,e=>by
  have:=BP (n:=n) (fun i hi=>e i (by omega))
  have:=e n (by omega)
  simp only[nU]
  grind
theorem mQ{f:Nat->Rat}{k:Nat}:∀{n:Nat},k<n->(∀i,i<n->i≠k->f i=0)->nU f n=f k
 |0,h,_=>by omega
 |n+1,h,e=>by
  by_cases hk:k=n
  ·subst hk;rw[nU,jx (fun i hi=>e i (by omega) (by omega))]
   grind
  ·rw[nU,mQ (by omega) (fun i hi=>e i (by omega)),e n (by omega) (by omega)]
   grind
theorem MX{f:Nat->Rat}{k l:Nat}:∀{n:Nat},k<n->l<n->k≠l->(∀i,i<n->i≠k->i≠l->f i=0)->nU f n=f k+f l
 |0,h,_,_,_=>by omega
 |n+1,h,h',G7,e=>by
  by_cases hk:k=n
  ·subst hk;rw[nU,mQ (k:=l) (by omega) (fun i hi dY=>e i (by omega) (by omega) dY)]
   grind
  ·by_cases hl:l=n
   ·subst hl;rw[nU,mQ (k:=k) (by omega) (fun i hi dY=>e i (by omega) dY (by omega))]
   ·rw[nU,MX (by omega) (by omega) G7 (fun i hi=>e i (by omega)),e n (by omega) (by omega) (by omega)]
    grind
def ip(n:Nat)(a x:FV):Rat:=nU (fun c=>a c*x c) n
theorem x8{n:Nat}{a x y z:FV}{q:Rat}(h:∀c,z c=x c+q*y c):ip n a z=ip n a x+q*ip n a y:=by
 unfold ip;exact BP (fun i _=>by rw[h];grind)
theorem yj{n:Nat}{a x:FV}:ip n a x=ip n x a:=by unfold ip;exact AF (fun i _=>by grind)
theorem wO{n:Nat}{a b x y:FV}(h:∀c,a c=b c)(h':∀c,x c=y c):ip n a x=ip n b y:=by unfold ip;exact AF (fun i _=>by rw[h,h'])
inductive gy(S:FV->Prop):FV->Prop
 |zero {x:FV} (h:∀c,x c=0):gy S x
 |step {x a y:FV} (q:Rat) (hx:gy S x) (ha:S a) (h:∀c,y c=x c+q*a c):gy S y
theorem gy.of{S:FV->Prop}{a:FV}(h:S a):gy S a:=.step (x:=fun _=>0) 1 (.zero (fun _=>rfl)) h (fun c=>by grind)
theorem gy.ext{S:FV->Prop}{x y:FV}(h:gy S x)(e:∀c,y c=x c):gy S y:=by
 cases h with
 |zero h=>exact .zero (fun c=>by rw[e,h])
 |step q hx ha h=>exact .step q hx ha (fun c=>by rw[e,h])
theorem gy.uB{S:FV->Prop}{x y z:FV}(q:Rat)(hx:gy S x)(hy:gy S y)(e:∀c,z c=x c+q*y c):gy S z:=by
 induction hy generalizing z with
 |zero h=>exact hx.ext (fun c=>by rw[e,h];grind)
 |@step u a v p hu ha hv ih=>
  exact .step (x:=fun c=>x c+q*u c) (q*p) (ih (fun c=>rfl)) ha (fun c=>by rw[e,hv];grind)
theorem gy.trans{S T:FV->Prop}(h:∀a,S a->gy T a){x:FV}(hx:gy S x):gy T x:=by
 induction hx with
 |zero h=>exact .zero h
 |step q _ ha e ih=>exact gy.uB q ih (h _ ha) e
structure Lsp(W:FV->Prop):Prop where
 zero:∀x:FV,(∀c,x c=0)->W x
 uB:∀(x y z:FV) (q:Rat),W x->W y->(∀c,z c=x c+q*y c)->W z
theorem Lsp.ext{W:FV->Prop}(h:Lsp W){x y:FV}(hx:W x)(e:∀c,y c=x c):W y:=h.uB x (fun _=>0) y 0 hx (h.zero _ (fun _=>rfl)) (fun c=>by rw[e];grind)
theorem Lsp.spn{W S:FV->Prop}(h:Lsp W)(hs:∀a,S a->W a){x:FV}(hx:gy S x):W x:=by
 induction hx with
 |zero e=>exact h.zero _ e
 |step q _ ha e ih=>exact h.uB _ _ _ q ih (hs _ ha) e
theorem oZ(S:FV->Prop):Lsp (gy S):=⟨fun _ h=>.zero h,fun _ _ _ q hx hy e=>hx.uB q hy e⟩
theorem Lsp.lin{W:FV->Prop}(h:Lsp W){f:Nat->FV}(q:Nat->Rat):∀{m:Nat},(∀i,i<m->W (f i))->W (fun c=>nU (fun i=>q i*f i c) m)
 |0,_=>h.zero _ (fun _=>rfl)
 |m+1,hf=>h.uB _ _ _ (q m) (Lsp.lin h q (fun i hi=>hf i (by omega))) (hf m (by omega)) (fun c=>rfl)
def SR(m:Nat)(f:Nat->FV):FV->Prop:=fun a=>∃i,i<m/\∀c,a c=f i c
theorem SR.get{m:Nat}{f:Nat->FV}{i:Nat}(h:i<m):SR m f (f i):=⟨i,h,fun _=>rfl⟩
theorem Kt{m:Nat}{f:Nat->FV}{x:FV}(h:gy (SR m f) x):∃q:Nat->Rat,∀c,x c=nU (fun i=>q i*f i c) m:=by
 induction h with
 |zero h=>exact⟨fun _=>0,fun c=>by rw[h,jx];intro i _;grind⟩
 |@step x a y p hx ha hy ih=>
  obtain⟨q,hq⟩:=ih;obtain⟨i,hi,e⟩:=ha;refine⟨fun j=>q j+p*(if j=i then 1 else 0),fun c=>?_⟩;have h1:=BP (f:=fun i=>q i*f i c) (g:=fun j=>(if j=i then 1 else 0)*f j c) (h:=fun j=>(q j+p*(if j=i then 1 else 0))*f j c) (q:=p) (n:=m) (fun j _=>by grind);have h2:=mQ (f:=fun j=>(if j=i then 1 else 0)*f j c) (k:=i) hi (fun j _ hj=>by grind);rw[hy,hq,e,h1,h2]
  grind
def uS(n m:Nat)(f:Nat->FV):FV->Prop:=fun x=>(∀c,n<=c->x c=0)/\∀i,i<m->ip n (f i) x=0
theorem At(n m:Nat)(f:Nat->FV):Lsp (uS n m f) where
 zero x h:=⟨fun c _=>h c,fun i _=>jx (fun c _=>by rw[h];grind)⟩
 uB x y z q hx hy e:=⟨fun c hc=>by rw[e,hx.1 c hc,hy.1 c hc];grind,fun i hi=>by rw[x8 e,hx.2 i hi,hy.2 i hi];grind⟩
structure rN(n m:Nat)(f:Nat->FV)(P:Nat->Nat)(W:FV->Prop):Prop where
 lt:∀i,i<m->P i<n
 mono:∀i j,i<j->j<m->P i<P j
 one:∀i j,i<m->j<m->f i (P j)=if i=j then 1 else 0
 low:∀i c,i<m->c<P i->f i c=0
 mem:∀i,i<m->W (f i)
 gen:∀x,W x->(∀i,i<m->x (P i)=0)->∀c,x c=0
theorem rN.comb{n m:Nat}{f:Nat->FV}{P:Nat->Nat}{W:FV->Prop}(h:rN n m f P W)(hW:Lsp W){x:FV}(hx:W x)(c:Nat):x c=nU (fun i=>x (P i)*f i c) m:=by
 have h1:W (fun c=>x c+(-1)*nU (fun i=>x (P i)*f i c) m):=hW.uB _ _ _ (-1) hx (hW.lin (fun i=>x (P i)) h.mem) (fun c=>rfl);have h2:=h.gen _ h1 (fun j hj=>by
  rw[mQ (k:=j) hj (fun i hi dY=>by rw[h.one i j hi hj,if_neg dY];grind),h.one j j hj hj,if_pos rfl]
  grind) c
 try simp only at h2
 grind
theorem rN.lead{n m:Nat}{f:Nat->FV}{P:Nat->Nat}{W:FV->Prop}(h:rN n m f P W)(hW:Lsp W){x:FV}(hx:W x){p:Nat}(hp:x p≠0)(hl:∀c,c<p->x c=0):∃i,i<m/\P i=p:=by
 by_cases hex:∃i,i<m/\x (P i)≠0
 ·have RD:∃i,(i<m/\x (P i)≠0)/\∀j,j<i->¬(j<m/\x (P j)≠0):=by
   obtain⟨i,hi⟩:=hex;induction i using Nat.strongRecOn with
   |ind i ih=>
    by_cases hc:∃j,j<i/\j<m/\x (P j)≠0
    ·obtain⟨j,hj,VU⟩:=hc;exact ih j hj VU
    ·exact⟨i,hi,fun j hj VU=>hc ⟨j,hj,VU⟩⟩
  obtain⟨i,⟨hi,dY⟩,hmn⟩:=RD;refine⟨i,hi,?_⟩;have h1:¬P i<p:=fun iH=>dY (hl _ iH)
  have h2:¬p<P i:=by
   intro iH;apply hp;rw[h.comb hW hx p];apply jx;intro j hj;by_cases Ow:j<i
   ·have:x (P j)=0:=Classical.byContradiction (fun hh=>hmn j Ow ⟨hj,hh⟩)
    rw[this];grind
   ·have:p<P j:=by
     by_cases e:i=j
     ·rw[<-e];exact iH
     ·exact Nat.lt_trans iH (h.mono i j (by omega) hj)
    rw[h.low j p hj this];grind
  omega
 ·exact absurd (h.gen x hx (fun i hi=>Classical.byContradiction (fun hh=>hex ⟨i,hi,hh⟩)) p) hp
theorem DJ{m m':Nat}{P P':Nat->Nat}(h:∀i j,i<j->j<m->P i<P j)(h':∀i j,i<j->j<m'->P' i<P' j)(a:∀i,i<m->∃j,j<m'/\P' j=P i)(b:∀i,i<m'->∃j,j<m/\P j=P' i):∀i,i<m->i<m'/\P i=P' i:=by
 intro i;induction i using Nat.strongRecOn with
 |ind i ih=>
  intro hi;obtain⟨i',AK,e⟩:=a i hi;have h1:i<=i':=by
   apply Classical.byContradiction;intro hn
   have:=(ih i' (by omega) (by omega)).2
   have:=h i' i (by omega) hi
   omega
  refine⟨by omega,?_⟩;by_cases h2:i=i'
  ·subst h2;exact e.symm
  ·have h3:=h' i i' (by omega) AK;obtain⟨j,hj,ej⟩:=b i (by omega);have h4:j<i:=by
    apply Classical.byContradiction;intro hn;by_cases e2:i=j
    ·subst e2;omega
    ·have:=h i j (by omega) hj
     omega
   have h5:=(ih j h4 hj).2
   have:=h' j i h4 (by omega)
   omega
theorem rN.uniq{n m m':Nat}{f f':Nat->FV}{P P':Nat->Nat}{W:FV->Prop}(h:rN n m f P W)(h':rN n m' f' P' W)(hW:Lsp W):m=m'/\(∀i,i<m->P i=P' i)/\∀i,i<m->∀c,f i c=f' i c:=by
 have A:∀{m m':Nat} {f f':Nat->FV} {P P':Nat->Nat},rN n m f P W->rN n m' f' P' W->∀i,i<m->∃j,j<m'/\P' j=P i:=by
  intro m m' f f' P P' h h' i hi;exact h'.lead hW (h.mem i hi) (by rw[h.one i i hi hi,if_pos rfl];decide) (fun c hc=>h.low i c hi hc)
 have s1:=DJ h.mono h'.mono (A h h') (A h' h);have s2:=DJ h'.mono h.mono (A h' h) (A h h');have hm:m=m':=by
  rcases aUt m m' with hh|hh|hh
  ·have:=(s2 m hh).1;omega
  ·exact hh
  ·have:=(s1 m' hh).1;omega
 subst hm;refine⟨rfl,fun i hi=>(s1 i hi).2,fun i hi c=>?_⟩;have h1:W (fun c=>f i c+(-1)*f' i c):=hW.uB _ _ _ (-1) (h.mem i hi) (h'.mem i hi) (fun c=>rfl);have h2:=h.gen _ h1 (fun j hj=>by
  rw[h.one i j hi hj,(s1 j hj).2,h'.one i j hi hj]
  grind) c
 try simp only at h2
 grind
theorem rN.congr{n m:Nat}{f:Nat->FV}{P:Nat->Nat}{W V:FV->Prop}(h:rN n m f P W)(e:∀x,W x↔V x):rN n m f P V:=
 ⟨h.lt,h.mono,h.one,h.low,fun i hi=>(e _).1 (h.mem i hi),fun x hx=>h.gen x ((e x).2 hx)⟩
theorem rN.spn{n m:Nat}{f:Nat->FV}{P:Nat->Nat}{W:FV->Prop}(h:rN n m f P W)(hW:Lsp W){x:FV}:W x↔gy (SR m f) x:=by refine⟨fun hx=>?_,fun hx=>hW.spn (fun a ⟨i,hi,e⟩=>hW.ext (h.mem i hi) e) hx⟩;exact((oZ (SR m f)).lin (fun i=>x (P i)) (fun i hi=>gy.of (SR.get hi))).ext (h.comb hW hx)
structure St(n M k r:Nat)(sn:Nat->Nat)(f:Nat->FV)(P:Nat->Nat)(W:FV->Prop):Prop where
 le:r<=M
 lt:∀i,i<r->P i<k
 mono:∀i j,i<j->j<r->P i<P j
 one:∀i j,i<M->j<r->f i (sn (P j))=if i=j then 1 else 0
 low:∀i t,i<r->t<P i->f i (sn t)=0
 zero:∀i t,r<=i->i<M->t<k->f i (sn t)=0
 span:∀x,W x↔gy (SR M f) x
theorem St.start{n M:Nat}{sn:Nat->Nat}{f:Nat->FV}:St n M 0 0 sn f (fun _=>0) (gy (SR M f)):=
 ⟨by omega,fun i h=>by omega,fun i j _ h=>by omega,fun i j _ h=>by omega,fun i j h=>by omega,fun i j _ _ h=>by omega,fun x=>Iff.rfl⟩
theorem St.skip{n M k r:Nat}{sn:Nat->Nat}{f:Nat->FV}{P:Nat->Nat}{W:FV->Prop}(h:St n M k r sn f P W)(hz:∀i,r<=i->i<M->f i (sn k)=0):St n M (k+1) r sn f P W:=
 ⟨h.le,fun i hi=>aUv (h.lt i hi),h.mono,h.one,h.low,fun i t h1 h2 h3=>by
  by_cases e:t=k
  ·subst e;exact hz i h1 h2
  ·exact h.zero i t h1 h2 (by omega),h.span⟩
theorem St.swap{n M k r i:Nat}{sn:Nat->Nat}{f:Nat->FV}{P:Nat->Nat}{W:FV->Prop}(h:St n M k r sn f P W)(hi:r<=i)(hM:i<M){g:Nat->FV}(hg:∀j,j<M->∀c,g j c=if j=r then f i c else if j=i then f r c else f j c):St n M k r sn g P W:=by
 have hrM:r<M:=by omega
 refine⟨h.le,h.lt,h.mono,fun a j ha hj=>?_,fun a t ha ht=>?_,fun a t ha hb ht=>?_,fun x=>?_⟩
 ·rw[hg a ha];have h1:=h.one i j hM hj;have h2:=h.one r j hrM hj;have h3:=h.one a j ha hj;rw[h1,h2,h3]
  grind
 ·rw[hg a (by omega),if_neg (by omega),if_neg (by omega)];exact h.low a t ha ht
 ·rw[hg a hb]
  split
  ·exact h.zero i t hi hM ht
  ·split
   ·exact h.zero r t (by omega) hrM ht
   ·exact h.zero a t ha hb ht
 ·rw[h.span];refine⟨gy.trans ?_,gy.trans ?_⟩
  ·rintro a ⟨j,hj,e⟩;by_cases h1:j=r
   ·exact(gy.of (SR.get hM)).ext (fun c=>by rw[e,hg i hM c,h1];grind)
   ·by_cases h2:j=i
    ·exact(gy.of (SR.get hrM)).ext (fun c=>by rw[e,hg r hrM c,h2];grind)
    ·exact(gy.of (SR.get hj)).ext (fun c=>by rw[e,hg j hj c,if_neg h1,if_neg h2])
  ·rintro a ⟨j,hj,e⟩;by_cases h1:j=r
   ·exact(gy.of (SR.get hM)).ext (fun c=>by rw[e,hg j hj c,if_pos h1])
   ·by_cases h2:j=i
    ·exact(gy.of (SR.get hrM)).ext (fun c=>by rw[e,hg j hj c,if_neg h1,if_pos h2])
    ·exact(gy.of (SR.get hj)).ext (fun c=>by rw[e,hg j hj c,if_neg h1,if_neg h2])
theorem St.EM{n M k r:Nat}{sn:Nat->Nat}{f:Nat->FV}{P:Nat->Nat}{W:FV->Prop}(h:St n M k r sn f P W)(hM:r<M)(dY:f r (sn k)≠0){g:Nat->FV}(hg:∀j,j<M->∀c,g j c=if j=r then f r c/f r (sn k)else f j c-f j (sn k)*(f r c/f r (sn k))):St n M (k+1) (r+1) sn g (fun j=>if j=r then k else P j) W:=by
 have I9:∀t,t<k->f r (sn t)=0:=fun t ht=>h.zero r t (by omega) hM ht
 have d0:(0:Rat)/f r (sn k)=0:=by grind
 have hP:∀i,i<r->(fun j=>if j=r then k else P j) i=P i:=fun i hi=>if_neg (by omega)
 refine⟨by omega,fun i hi=>?_,fun i j G8 hj=>?_,fun a j ha hj=>?_,fun a t ha ht=>?_,fun a t ha hb ht=>?_,fun x=>?_⟩
 ·split
  ·omega
  ·exact aUv (h.lt i (by omega))
 ·rw[if_neg (by omega:¬i=r)]
  split
  ·exact h.lt i (by omega)
  ·exact h.mono i j G8 (by omega)
 ·rw[hg a ha];by_cases UB:j=r
  ·rw[if_pos UB];subst UB
   split
   ·grind
   ·grind
  ·rw[if_neg UB];have h1:=h.one a j ha (by omega);rw[I9 _ (h.lt j (by omega)),h1]
   split
   ·rename_i e;subst e;rw[if_neg (fun e=>UB e.symm)];exact d0
   ·rw[d0];grind
 ·try simp only at ht
  rw[hg a (by omega)];by_cases har:a=r
  ·rw[if_pos har]at ht⊢;rw[I9 t ht];exact d0
  ·rw[if_neg har]at ht⊢;rw[h.low a t (by omega) ht,I9 t (Nat.lt_trans ht (h.lt a (by omega))),d0]
   grind
 ·rw[hg a hb,if_neg (by omega)];by_cases Ok:t=k
  ·subst Ok;grind
  ·rw[h.zero a t (by omega) hb (by omega),I9 t (by omega),d0];grind
 ·rw[h.span];have gr:∀c,g r c=f r c/f r (sn k):=fun c=>by rw[hg r hM,if_pos rfl]
  have gj:∀j,j<M->j≠r->∀c,g j c=f j c-f j (sn k)*(f r c/f r (sn k)):=fun j hj dY c=>by rw[hg j hj,if_neg dY]
  refine⟨gy.trans ?_,gy.trans ?_⟩
  ·rintro a ⟨j,hj,e⟩;by_cases h1:j=r
   ·exact gy.uB (x:=fun _=>0) (f r (sn k)) (.zero fun _=>rfl) (gy.of (SR.get hM)) (fun c=>by rw[e,h1,gr];grind)
   ·exact gy.uB (f j (sn k)) (gy.of (SR.get hj)) (gy.of (SR.get hM)) (fun c=>by rw[e,gr,gj j hj h1];grind)
  ·rintro a ⟨j,hj,e⟩;by_cases h1:j=r
   ·exact gy.uB (x:=fun _=>0) (f r (sn k))⁻¹ (.zero fun _=>rfl) (gy.of (SR.get hM)) (fun c=>by rw[e,h1,gr];grind)
   ·exact gy.uB (-(f j (sn k)/f r (sn k))) (gy.of (SR.get hj)) (gy.of (SR.get hM)) (fun c=>by rw[e,gj j hj h1];grind)
def CB(b M:Nat)(f:Nat->FV):Prop:=∃(D:Int) (A:Nat->Nat->Int),D≠0/\D.natAbs<=2^b/\∀i,i<M->∀c,f i c=(A i c:Rat)/(D:Rat)/\(A i c).natAbs<=2^b
theorem CB.mono{b b' M:Nat}{f:Nat->FV}(h:CB b M f)(hb:b<=b'):CB b' M f:=by
 obtain⟨D,A,h0,h1,h2⟩:=h
 have:=aQT (n:=2) (by omega) hb
 exact⟨D,A,h0,by omega,fun i hi c=>⟨(h2 i hi c).1,by have:=(h2 i hi c).2;omega⟩⟩
theorem CB.le{b M M':Nat}{f:Nat->FV}(h:CB b M f)(hM:M'<=M):CB b M' f:=by obtain⟨D,A,h0,h1,h2⟩:=h;exact⟨D,A,h0,h1,fun i hi=>h2 i (by omega)⟩
theorem kE{a b x y:Nat}(h:a<=x)(k:b<=y):a*b<=x*y:=aQY h k
theorem QZ{b:Nat}:2^(2*b+1)=2*(2^b*2^b):=by rw[show 2*b+1=1+(b+b)by omega,aQ3,aQ3]
theorem fH{D:Int}(h:D≠0):(D:Rat)≠0:=by intro e;exact h (by exact_mod_cast e)
theorem CB.EM{b M k r:Nat}{f g:Nat->FV}(h:CB b M f)(hM:r<M)(dY:f r k≠0)(hg:∀j,j<M->∀c,g j c=if j=r then f r c/f r k else f j c-f j k*(f r c/f r k)):CB (2*b+1) M g:=by
 obtain⟨D,A,h0,h1,h2⟩:=h;have hD:=fH h0;have hA:A r k≠0:=by
  intro e;apply dY;rw[(h2 r hM k).1,e]
  grind
 have hAq:=fH hA;refine⟨D*A r k,fun i c=>if i=r then D*A r c else A i c*A r k-A i k*A r c,Int.mul_ne_zero h0 hA,?_,fun i hi c=>⟨?_,?_⟩⟩
 ·rw[aUq,QZ]
  have:=kE h1 (h2 r hM k).2
  omega
 ·rw[hg i hi];by_cases e:i=r
  ·simp only[if_pos e];rw[(h2 r hM c).1,(h2 r hM k).1,aUo,aUo]
   grind
  ·simp only[if_neg e];rw[(h2 r hM c).1,(h2 r hM k).1,(h2 i hi c).1,(h2 i hi k).1,Rat.intCast_sub,aUo,aUo,aUo]
   grind
 ·simp only
  split
  ·rw[aUq,QZ]
   have:=kE h1 (h2 r hM c).2
   omega
  ·have e1:=kE (h2 i hi c).2 (h2 r hM k).2;have e2:=kE (h2 i hi k).2 (h2 r hM c).2;rw[<-aUq]at e1 e2;rw[QZ];omega
theorem CB.swap{b M:Nat}{f g:Nat->FV}(h:CB b M f)(s:Nat->Nat)(hs:∀j,j<M->s j<M)(hg:∀j,j<M->∀c,g j c=f (s j) c):CB b M g:=by
 obtain⟨D,A,h0,h1,h2⟩:=h;exact⟨D,fun i=>A (s i),h0,h1,fun i hi c=>by rw[hg i hi];exact h2 _ (hs i hi) c⟩
def gB(b r:Nat):Nat:=2^r*(b+1)-1
theorem adG{b:Nat}:gB b 0=b:=by unfold gB;omega
theorem abx{b r:Nat}:2*gB b r+1=gB b (r+1):=by unfold gB;have h:0<2^r*(b+1):=Nat.mul_pos (Nat.pow_pos (by omega)) (by omega);rw[Nat.pow_succ,show 2^r*2*(b+1)=2*(2^r*(b+1))by rw[Nat.mul_comm (2^r) 2,aPv]];omega
theorem Kp{n M b:Nat}{sn:Nat->Nat}{f0:Nat->FV}(h0:CB b M f0)(hw:∀i,i<M->∀c,n<=c->f0 i c=0):∀k,∃r f P,St n M k r sn f P (gy (SR M f0))/\CB (gB b r) M f/\(∀i,i<M->∀c,n<=c->f i c=0)
 |0=>⟨0,f0,fun _=>0,.start,by rw[adG];exact h0,hw⟩
 |k+1=>by
  obtain⟨r,f,P,hs,hc,hz⟩:=Kp h0 hw k;by_cases hex:∃i,r<=i/\i<M/\f i (sn k)≠0
  ·obtain⟨i,hi,hM,dY⟩:=hex;have s1:St n M k r sn (fun j=>if j=r then f i else if j=i then f r else f j) P (gy (SR M f0)):=hs.swap hi hM (fun j hj c=>by(repeat' split)<;>rfl);have c1:CB (gB b r) M (fun j=>if j=r then f i else if j=i then f r else f j):=hc.swap (fun j=>if j=r then i else if j=i then r else j) (fun j hj=>by(repeat' split)<;>omega) (fun j hj c=>by(repeat' split)<;>rfl);have amg:(if r=r then f i else if r=i then f r else f r) (sn k)≠0:=by rw[if_pos rfl];exact dY
   have hz1:∀j,j<M->∀c,n<=c->(if j=r then f i else if j=i then f r else f j) c=0:=by
    intro j hj c hc
    split
    ·exact hz i hM c hc
    ·split
     ·exact hz r (by omega) c hc
     ·exact hz j hj c hc
   have s2:=s1.EM (by omega) amg (fun j hj c=>rfl);have c2:=c1.EM (r:=r) (k:=sn k) (by omega) amg (fun j hj c=>rfl);rw[abx]at c2;refine⟨r+1,_,_,s2,c2,fun j hj c hc=>?_⟩;have z1:=hz i hM c hc;have z2:=hz1 j hj c hc;simp only[if_true];by_cases UB:j=r
   ·rw[if_pos UB,z1];grind
   ·rw[if_neg UB,z2,z1];grind
  ·exact⟨r,f,P,hs.skip (fun i hi hM=>Classical.byContradiction (fun hh=>hex ⟨i,hi,hM,hh⟩)),hc,hz⟩
theorem St.fin{n M k r:Nat}{sn:Nat->Nat}{f:Nat->FV}{P:Nat->Nat}{W:FV->Prop}(h:St n M k r sn f P W)(hz:∀i,r<=i->i<M->∀c,f i c=0)(x:FV):W x↔gy (SR r f) x:=by
 rw[h.span];refine⟨gy.trans ?_,gy.trans ?_⟩
 ·rintro a ⟨j,hj,e⟩;by_cases h1:j<r
  ·exact(gy.of (SR.get h1)).ext e
  ·exact .zero (fun c=>by rw[e,hz j (by omega) hj c])
 ·rintro a ⟨j,hj,e⟩;exact(gy.of (SR.get (aNt hj h.le))).ext e
theorem St.comb{n M k r:Nat}{sn:Nat->Nat}{f:Nat->FV}{P:Nat->Nat}{W:FV->Prop}(h:St n M k r sn f P W){x:FV}(hx:gy (SR r f) x)(c:Nat):x c=nU (fun i=>x (sn (P i))*f i c) r:=by
 obtain⟨q,hq⟩:=Kt hx;rw[hq c];refine AF (fun i hi=>?_);rw[hq (sn (P i)),mQ (k:=i) hi (fun j hj dY=>by rw[h.one j i (by have:=h.le;omega) hi,if_neg dY];grind),h.one i i (by have:=h.le;omega) hi,if_pos rfl]
 grind
theorem St.ech{n M k r:Nat}{f:Nat->FV}{P:Nat->Nat}{W:FV->Prop}(h:St n M k r (fun t=>t) f P W)(hk:k<=n)(hz:∀i,r<=i->i<M->∀c,f i c=0):rN n r f P W:=by
 have hle:=h.le;refine⟨fun i hi=>by have:=h.lt i hi;omega,h.mono,fun i j hi hj=>h.one i j (by omega) hj,fun i c hi hc=>h.low i c hi hc,fun i hi=>(h.fin hz _).2 (gy.of (SR.get hi)),fun x hx h0 c=>?_⟩;rw[h.comb ((h.fin hz x).1 hx) c];exact jx (fun i hi=>by rw[h0 i hi];grind)
def mF(n:Nat)(t:Nat):Nat:=n-1-t
theorem EV:∀(k r:Nat) (P:Nat->Nat),(∀i,i<r->P i<k)->(∀i j,i<j->j<r->P i<P j)->∃F:Nat->Nat,r<=k/\(∀j,j<k-r->F j<k/\∀i,i<r->P i≠F j)/\(∀i j,i<j->j<k-r->F i<F j)/\∀t,t<k->(∃i,i<r/\P i=t)∨∃j,j<k-r/\F j=t
 |0,r,P,h,_=>⟨fun _=>0,by
   rcases Nat.eq_zero_or_pos r with e|e
   ·omega
   ·have:=h 0 e;omega,fun j hj=>by omega,fun i j _ hj=>by omega,fun t ht=>by omega⟩
 |k+1,r,P,h,hm=>by
  by_cases hl:0<r/\P (r-1)=k
  ·obtain⟨F,h1,h2,h3,h4⟩:=EV k (r-1) P (fun i hi=>by have:=hm i (r-1) hi (by omega);omega) (fun i j G8 hj=>hm i j G8 (by omega));refine⟨F,by omega,fun j hj=>?_,fun i j G8 hj=>h3 i j G8 (by omega),fun t ht=>?_⟩
   ·have:=h2 j (by omega)
    refine⟨by omega,fun i hi=>?_⟩;by_cases e:i=r-1
    ·subst e;omega
    ·exact this.2 i (by omega)
   ·by_cases e:t=k
    ·exact .inl ⟨r-1,by omega,by omega⟩
    ·rcases h4 t (by omega)with⟨i,hi,e⟩|⟨j,hj,e⟩
     ·exact .inl ⟨i,by omega,e⟩
     ·exact .inr ⟨j,by omega,e⟩
  ·have iH:∀i,i<r->P i<k:=by
    intro i hi;have h1:=h i hi;apply Classical.byContradiction;intro hn;by_cases e:i=r-1
    ·exact hl ⟨by omega,by subst e;omega⟩
    ·have:=hm i (r-1) (by omega) (by omega)
     have:=h (r-1) (by omega)
     omega
   obtain⟨F,h1,h2,h3,h4⟩:=EV k r P iH hm;refine⟨fun j=>if j=k-r then k else F j,by omega,fun j hj=>?_,fun i j G8 hj=>?_,fun t ht=>?_⟩
   ·simp only
    split
    ·exact⟨by omega,fun i hi=>by have:=iH i hi;omega⟩
    ·have:=h2 j (by omega)
     exact⟨by omega,this.2⟩
   ·simp only;rw[if_neg (by omega:¬i=k-r)]
    split
    ·exact(h2 i (by omega)).1
    ·exact h3 i j G8 (by omega)
   ·by_cases e:t=k
    ·exact .inr ⟨k-r,by omega,by simp only[if_true];exact e.symm⟩
    ·rcases h4 t (by omega)with⟨i,hi,e⟩|⟨j,hj,e⟩
     ·exact .inl ⟨i,hi,e⟩
     ·exact .inr ⟨j,by omega,by simp only;rw[if_neg (by omega)];exact e⟩
theorem xR{n t:Nat}(h:t<n):mF n t<n:=by unfold mF;omega
theorem qY{n t:Nat}(h:t<n):mF n (mF n t)=t:=by unfold mF;omega
open Classical in
noncomputable def A6(n r:Nat)(f:Nat->FV)(P F:Nat->Nat)(k:Nat):FV:=fun c=>if h:∃i,i<r/\mF n (P i)=c then-f (Classical.choose h) (F k)else if c=F k then 1 else 0
theorem Qz{n M r:Nat}{f:Nat->FV}{P:Nat->Nat}{W:FV->Prop}(h:St n M n r (mF n) f P W)(hw:∀i,i<M->∀c,n<=c->f i c=0){b:Nat}(hb:CB b M f):
  ∃g F,rN n (n-r) g F (uS n r f)/\r<=n/\CB b (n-r) g/\(∀k,k<n-r->∀c,n<=c->g k c=0)/\∀y,uS n (n-r) g y↔gy (SR r f) y:=by
 obtain⟨F0,hrn,hF1,hF2,hF3⟩:=EV n r P h.lt h.mono;have hle:=h.le;have hFd:∃F:Nat->Nat,∀k,F k=mF n (F0 (n-r-1-k)):=⟨_,fun k=>rfl⟩;obtain⟨F,hFe⟩:=hFd;have Ps:∀k,k<n-r->F k<n:=fun k hk=>by rw[hFe];exact xR (hF1 _ (by omega)).1
 have hFm:∀i j,i<j->j<n-r->F i<F j:=by
  intro i j G8 hj;rw[hFe,hFe]
  have:=hF2 (n-r-1-j) (n-r-1-i) (by omega) (by omega)
  have:=(hF1 (n-r-1-i) (by omega)).1
  unfold mF;omega
 have hFP:∀k i,k<n-r->i<r->mF n (P i)≠F k:=by intro k i hk hi e;rw[hFe]at e;have h1:=hF1 (n-r-1-k) (by omega);have h2:=h.lt i hi;apply h1.2 i hi;rw[<-qY h2,e,qY h1.1]
 have TO:∀c,c<n->(∃i,i<r/\mF n (P i)=c)∨∃k,k<n-r/\F k=c:=by
  intro c hc;rcases hF3 (mF n c) (xR hc)with⟨i,hi,e⟩|⟨j,hj,e⟩
  ·exact .inl ⟨i,hi,by rw[e,qY hc]⟩
  ·exact .inr ⟨n-r-1-j,by omega,by rw[hFe,show n-r-1-(n-r-1-j)=j by omega,e,qY hc]⟩
 have apM:∀i j,i<r->j<r->mF n (P i)=mF n (P j)->i=j:=by
  intro i j hi hj e;have h1:=h.lt i hi;have h2:=h.lt j hj;have e2:P i=P j:=by unfold mF at e;omega
  rcases aUt i j with hh|hh|hh
  ·have:=h.mono i j hh hj;omega
  ·exact hh
  ·have:=h.mono j i hh hi;omega
 have gP:∀k i,i<r->A6 n r f P F k (mF n (P i))= -f i (F k):=by intro k i hi;unfold A6;have hx:∃j,j<r/\mF n (P j)=mF n (P i):=⟨i,hi,rfl⟩;rw[dif_pos hx];have h1:=Classical.choose_spec hx;rw[apM _ _ h1.1 hi h1.2]
 have gF:∀k l,l<n-r->A6 n r f P F k (F l)=if F l=F k then 1 else 0:=by intro k l hl;unfold A6;rw[dif_neg];rintro⟨i,hi,e⟩;exact hFP l i hl hi e
 have gZ:∀k,k<n-r->∀c,n<=c->A6 n r f P F k c=0:=by
  intro k hk c hc;unfold A6;rw[dif_neg,if_neg]
  ·have:=Ps k hk;omega
  ·rintro⟨i,hi,e⟩
   have:=xR (h.lt i hi)
   omega
 have so:∀i j,i<r->j<r->f i (mF n (P j))=if i=j then 1 else 0:=fun i j hi hj=>h.one i j (by omega) hj
 have al7:∀i j,i<n-r->j<n-r->F i=F j->i=j:=by
  intro i j hi hj e;rcases aUt i j with hh|hh|hh
  ·have:=hFm i j hh hj;omega
  ·exact hh
  ·have:=hFm j i hh hi;omega
 have ipf:∀j x,j<r->(∀k,k<n-r->f j (F k)*x (F k)=0)->ip n (f j) x=x (mF n (P j)):=by
  intro j x hj hx;unfold ip;rw[mQ (k:=mF n (P j)) (xR (h.lt j hj)),so j j hj hj,if_pos rfl,Rat.one_mul];intro c hc dY;rcases TO c hc with⟨i,hi,e⟩|⟨k,hk,e⟩
  ·rw[<-e,so j i hj hi,if_neg (fun e2=>dY (by rw[<-e,e2])),aUu]
  ·rw[<-e];exact hx k hk
 have Pt:∀k j,k<n-r->j<r->ip n (f j) (A6 n r f P F k)=0:=by
  intro k j hk hj;unfold ip;rw[MX (k:=mF n (P j)) (l:=F k) (xR (h.lt j hj)) (Ps k hk) (hFP k j hk hj),gP k j hj,gF k k hk,so j j hj hj,if_pos rfl,if_pos rfl]
  ·grind
  ·intro c hc h1 h2;rcases TO c hc with⟨i,hi,e⟩|⟨l,hl,e⟩
   ·rw[<-e,so j i hj hi,if_neg (fun e2=>h1 (by rw[<-e,e2])),aUu]
   ·rw[<-e,gF k l hl,if_neg (fun e2=>h2 (by rw[<-e,e2])),Rat.mul_zero]
 have aib:rN n (n-r) (A6 n r f P F) F (uS n r f):=by
  refine⟨Ps,hFm,fun i j hi hj=>?_,fun k c hk hc=>?_,fun k hk=>⟨fun c hc=>gZ k hk c hc,fun j hj=>Pt k j hk hj⟩,fun x hx h0 c=>?_⟩
  ·rw[gF i j hj];by_cases e:i=j
   ·rw[e];simp only[if_true]
   ·rw[if_neg e,if_neg (fun e2=>e (al7 _ _ hi hj e2.symm))]
  ·have VT:c<n:=by have:=Ps k hk;omega
   rcases TO c VT with⟨i,hi,e⟩|⟨l,hl,e⟩
   ·rw[<-e,gP k i hi];have h1:=h.low i (mF n (F k)) hi (by have:=h.lt i hi;have:=Ps k hk;unfold mF at e⊢;omega);rw[qY (Ps k hk)]at h1;rw[h1];grind
   ·rw[<-e,gF k l hl,if_neg (by omega)]
  ·by_cases hc:c<n
   ·rcases TO c hc with⟨i,hi,e⟩|⟨l,hl,e⟩
    ·have h1:=hx.2 i hi;rw[ipf i x hi (fun k hk=>by rw[h0 k hk];grind)]at h1;rw[<-e];exact h1
    ·rw[<-e];exact h0 l hl
   ·exact hx.1 c (by omega)
 refine⟨A6 n r f P F,F,aib,hrn,?_,gZ,fun y=>⟨fun hy=>?_,fun hy=>?_⟩⟩
 ·obtain⟨D,A,h0,h1,h2⟩:=hb;have hD:=fH h0;refine⟨D,fun k c=>if h:∃i,i<r/\mF n (P i)=c then-A (Classical.choose h) (F k)else if c=F k then D else 0,h0,h1,fun k hk c=>?_⟩;unfold A6;by_cases hx:∃i,i<r/\mF n (P i)=c
  ·have h3:=(Classical.choose_spec hx).1;have h4:=h2 _ (aNt h3 hle) (F k);simp only[dif_pos hx];rw[h4.1,Int.natAbs_neg,Rat.intCast_neg];exact⟨by grind,h4.2⟩
  ·simp only[dif_neg hx]
   split
   ·exact⟨by grind,h1⟩
   ·exact⟨by grind,by simp⟩
 ·
  have hl:=At n (n-r) (A6 n r f P F);have hfm:∀i,i<r->uS n (n-r) (A6 n r f P F) (f i):=fun i hi=>⟨fun c hc=>hw i (by omega) c hc,fun k hk=>by rw[yj];exact Pt k i hk hi⟩
  have h1:uS n (n-r) (A6 n r f P F) (fun c=>y c+(-1)*nU (fun i=>y (mF n (P i))*f i c) r):=hl.uB _ _ _ (-1) hy (hl.lin (fun i=>y (mF n (P i))) hfm) (fun c=>rfl);have hz:∀z:FV,(∀c,z c=y c+(-1)*nU (fun i=>y (mF n (P i))*f i c) r)->uS n (n-r) (A6 n r f P F) z->∀c,z c=0:=by
   intro z ez oz;have zp:∀i,i<r->z (mF n (P i))=0:=by
    intro i hi;rw[ez,mQ (k:=i) hi (fun j hj dY=>by rw[so j i hj hi,if_neg dY];grind),so i i hi hi,if_pos rfl]
    grind
   have zf:∀k,k<n-r->z (F k)=0:=by
    intro k hk;have h2:=oz.2 k hk;unfold ip at h2;rw[mQ (k:=F k) (Ps k hk),gF k k hk,if_pos rfl,Rat.one_mul]at h2
    ·exact h2
    ·intro c hc dY;rcases TO c hc with⟨i,hi,e⟩|⟨l,hl,e⟩
     ·rw[<-e,zp i hi,Rat.mul_zero]
     ·rw[<-e,gF k l hl,if_neg (fun e2=>dY (by rw[<-e,e2])),aUu]
   intro c;by_cases hc:c<n
   ·rcases TO c hc with⟨i,hi,e⟩|⟨l,hl,e⟩
    ·rw[<-e];exact zp i hi
    ·rw[<-e];exact zf l hl
   ·exact oz.1 c (by omega)
  have h2:=hz _ (fun c=>rfl) h1;exact((oZ (SR r f)).lin (fun i=>y (mF n (P i))) (fun i hi=>gy.of (SR.get hi))).ext (fun c=>by have:=h2 c;grind)
 ·exact(At n (n-r) _).spn (fun a ⟨i,hi,e⟩=>(At n (n-r) _).ext (x:=f i) ⟨fun c hc=>hw i (by omega) c hc,fun k hk=>by rw[yj];exact Pt k i hk hi⟩ e) hy
end Go.Proofs.kY
namespace Go.Proofs.kY
def ug(n:Nat)(row line:FV)(x:FV):FV:=fun c=>x c+(-(ip n row x/ip n row line))*line c
theorem IT{n:Nat}{row line x:FV}(h:ip n row line≠0):ip n row (ug n row line x)=0:=by
 unfold ug;rw[x8 (x:=x) (y:=line) (q:= -(ip n row x/ip n row line)) (fun c=>rfl)]
 grind
def KU(n:Nat)(row:FV)(l:Nat->FV)(at':Nat)(i:Nat):FV:=ug n row (l at') (l (if i<at' then i else i+1))
def Li(n m:Nat)(S:FV->Prop)(l:Nat->FV):Prop:=∀x,(gy (SR m l) x↔((∀c,n<=c->x c=0)/\∀a,S a->ip n a x=0))
theorem Li.start{n:Nat}{l:Nat->FV}(h:∀i,i<n->∀c,l i c=if c=i then 1 else 0):Li n n (fun _=>False) l:=by
 intro x;refine⟨fun hx=>⟨?_,fun a ha=>ha.elim⟩,fun⟨h1,_⟩=>?_⟩
 ·intro c hc;obtain⟨q,hq⟩:=Kt hx;rw[hq c];exact jx (fun i hi=>by rw[h i hi,if_neg (by omega)];grind)
 ·refine((oZ (SR n l)).lin (fun i=>x i) (fun i hi=>gy.of (SR.get hi))).ext (fun c=>?_);by_cases hc:c<n
  ·rw[mQ (k:=c) hc (fun i hi dY=>by rw[h i hi,if_neg (fun e=>dY e.symm)];grind),h c hc,if_pos rfl]
   grind
  ·rw[h1 c (by omega),jx (fun i hi=>by rw[h i hi,if_neg (by omega)];grind)]
theorem Li.split{n m:Nat}{S:FV->Prop}{l:Nat->FV}(h:Li n m S l){row:FV}{at':Nat}(ha:at'<m)(dY:ip n row (l at')≠0):Li n (m-1) (fun a=>S a∨a=row) (KU n row l at'):=by
 intro x;have adB:∀i,i<m-1->(if i<at' then i else i+1)<m:=by intro i hi;split<;>omega
 refine⟨fun hx=>?_,fun⟨h1,h2⟩=>?_⟩
 ·have hx':gy (SR m l) x:=gy.trans (fun a ⟨i,hi,e⟩=>gy.uB (-(ip n row (l (if i<at' then i else i+1))/ip n row (l at'))) (gy.of (SR.get (adB i hi))) (gy.of (SR.get ha)) (fun c=>by rw[e];rfl)) hx;have h3:=(h x).1 hx';refine⟨h3.1,fun a hS=>?_⟩;rcases hS with hS|rfl
  ·exact h3.2 a hS
  ·have hl:Lsp (fun y=>ip n a y=0):=⟨fun y hy=>jx (fun i _=>by rw[hy];grind),fun y z w q hy hz e=>by rw[x8 e,hy,hz];grind⟩;exact hl.spn (fun b ⟨i,hi,e⟩=>by rw[wO (fun _=>rfl) e];exact IT dY) hx
 ·have hx:gy (SR m l) x:=(h x).2 ⟨h1,fun a hS=>h2 a (.inl hS)⟩;have h0:=h2 row (.inr rfl);have key:∀y,gy (SR m l) y->gy (SR (m-1) (KU n row l at')) (ug n row (l at') y):=by
   intro y hy;induction hy with
   |zero e=>exact .zero (fun c=>by unfold ug;rw[e,show ip n row _=0 from jx (fun i _=>by rw[e];grind)];grind)
   |@step u a w q hu VQ e ih=>
    obtain⟨i,hi,ea⟩:=VQ;have e1:∀c,ug n row (l at') w c=ug n row (l at') u c+q*ug n row (l at') a c:=by
     intro c;unfold ug;rw[x8 e,e]
     grind
    by_cases uv:i=at'
    ·refine ih.ext (fun c=>?_);rw[e1]
     have:ug n row (l at') a c=0:=by
      unfold ug;rw[wO (fun _=>rfl) ea,ea,uv]
      grind
     rw[this];grind
    ·have e2:∀c,ug n row (l at') a c=KU n row l at' (if i<at' then i else i-1) c:=by
      intro c;unfold KU
      have:(if(if i<at' then i else i-1)<at' then(if i<at' then i else i-1)else(if i<at' then i else i-1)+1)=i:=by
       split<;>(repeat' split)<;>omega
      rw[this];unfold ug;rw[wO (fun _=>rfl) ea,ea]
     refine .step q ih (SR.get (i:=if i<at' then i else i-1) (by split<;>omega)) (fun c=>?_);rw[e1,e2]
  refine(key x hx).ext (fun c=>?_);unfold ug;rw[h0]
  grind
theorem Li.keep{n m:Nat}{S:FV->Prop}{l:Nat->FV}(h:Li n m S l){row:FV}(hz:∀i,i<m->ip n row (l i)=0):Li n m (fun a=>S a∨a=row) l:=by
 intro x;rw[h x];refine⟨fun⟨h1,h2⟩=>⟨h1,fun a ha=>?_⟩,fun⟨h1,h2⟩=>⟨h1,fun a ha=>h2 a (.inl ha)⟩⟩;rcases ha with ha|rfl
 ·exact h2 a ha
 ·have hl:Lsp (fun y=>ip n a y=0):=⟨fun y hy=>jx (fun i _=>by rw[hy];grind),fun y z w q hy hz e=>by rw[x8 e,hy,hz];grind⟩;exact hl.spn (fun b ⟨i,hi,e⟩=>by rw[wO (fun _=>rfl) e];exact hz i hi) ((h x).2 ⟨h1,h2⟩)
theorem Li.congr{n m:Nat}{S T:FV->Prop}{l:Nat->FV}(h:Li n m S l)(e:∀x:FV,(∀a,S a->ip n a x=0)↔(∀a,T a->ip n a x=0)):Li n m T l:=by intro x;rw[h x,e x]
def CV(b:Nat)(x:FV):Prop:=∃(D:Int) (A:Nat->Int),D≠0/\D.natAbs<=2^b/\∀c,x c=(A c:Rat)/(D:Rat)/\(A c).natAbs<=2^b
theorem CV.mono{b b':Nat}{x:FV}(h:CV b x)(hb:b<=b'):CV b' x:=by
 obtain⟨D,A,h0,h1,h2⟩:=h
 have:=aQT (n:=2) (by omega) hb
 exact⟨D,A,h0,by omega,fun c=>⟨(h2 c).1,by have:=(h2 c).2;omega⟩⟩
theorem CB.row{b M:Nat}{f:Nat->FV}(h:CB b M f){i:Nat}(hi:i<M):CV b (f i):=by obtain⟨D,A,h0,h1,h2⟩:=h;exact⟨D,A i,h0,h1,fun c=>h2 i hi c⟩
def CT(f:Nat->Int):Nat->Int
 |0=>0
 |i+1=>CT f i+f i
theorem J0{f:Nat->Int}{B:Nat}:∀{n:Nat},(∀i,i<n->(f i).natAbs<=B)->(CT f n).natAbs<=n*B
 |0,_=>by simp[CT]
 |n+1,h=>by
  have h1:=J0 (n:=n) (fun i hi=>h i (by omega));have h2:=h n (by omega);rw[CT,Nat.succ_mul];omega
theorem ET{a x:FV}{A X:Nat->Int}{D E:Int}(hD:(D:Rat)≠0)(hE:(E:Rat)≠0):∀{n:Nat},(∀i,i<n->a i=(A i:Rat)/(D:Rat))->(∀i,i<n->x i=(X i:Rat)/(E:Rat))->ip n a x=(CT (fun i=>A i*X i) n:Rat)/((D:Rat)*(E:Rat))
 |0,_,_=>by simp only[ip,nU,CT,Rat.intCast_zero];grind
 |n+1,h,h'=>by
  have:=ET (n:=n) hD hE (fun i hi=>h i (by omega)) (fun i hi=>h' i (by omega))
  unfold ip at this⊢;rw[nU,this,h n (by omega),h' n (by omega),CT,Rat.intCast_add,aUo]
  grind
theorem CV.ug{n b k:Nat}{row line x:FV}(hr:CV b row)(hl:CV k line)(hx:CV k x)(hn:n<=8)(dY:ip n row line≠0):CV (2*k+b+4) (ug n row line x):=by
 obtain⟨D,A,d0,d1,d2⟩:=hr;obtain⟨E,L,e0,e1,e2⟩:=hl;obtain⟨G,X,g0,g1,g2⟩:=hx;have qD:=fH d0;have qE:=fH e0;have qG:=fH g0;have sl:=ET (n:=n) qD qE (fun i _=>(d2 i).1) (fun i _=>(e2 i).1);have sx:=ET (n:=n) qD qG (fun i _=>(d2 i).1) (fun i _=>(g2 i).1);have bl:(CT (fun i=>A i*L i) n).natAbs<=n*(2^b*2^k):=J0 (fun i _=>by rw[aUq];exact kE (d2 i).2 (e2 i).2);have bx:(CT (fun i=>A i*X i) n).natAbs<=n*(2^b*2^k):=J0 (fun i _=>by rw[aUq];exact kE (d2 i).2 (g2 i).2);rw[sl]at dY;have hs:CT (fun i=>A i*L i) n≠0:=by intro e;rw[e]at dY;apply dY;grind
 have hsq:=fH hs;have hn8:n*(2^b*2^k)<=8*(2^b*2^k):=Nat.mul_le_mul_right _ hn;have agU:2^(2*k+b+4)=2*(8*(2^b*2^k)*2^k):=by rw[show 2*k+b+4=4+((b+k)+k)by omega,aQ3,aQ3,aQ3];rw[show(2:Nat)^4=2*8 from rfl,aPv,aPv 8]
 refine⟨G*CT (fun i=>A i*L i) n,fun c=>X c*CT (fun i=>A i*L i) n-CT (fun i=>A i*X i) n*L c,Int.mul_ne_zero g0 hs,?_,fun c=>⟨?_,?_⟩⟩
 ·rw[aUq,agU]
  have:=kE (aNm bl hn8) g1
  rw[Nat.mul_comm]at this;omega
 ·unfold kY.ug;rw[sl,sx,(g2 c).1,(e2 c).1,Rat.intCast_sub,aUo,aUo,aUo]
  grind
 ·have h1:=kE (aNm bl hn8) (g2 c).2;have h2:=kE (aNm bx hn8) (e2 c).2;rw[<-aUq]at h1 h2;rw[agU];rw[Int.mul_comm]at h1;simp only;omega
end Go.Proofs.kY
namespace Go.Proofs.YtblnjkjjedanaaaGreatDoor
open Go Dv Dv.b7
variable{E:Env}[C:Ctx E]
def lcB(a b:Nat):Nat:=a*(b/Nat.gcd a b)
def ZY(a:List Rat):Nat->Nat
 |0=>1
 |i+1=>lcB (ZY a i) (a.getD i 0).den
theorem EL{a:List Rat}:∀{i:Nat},0<ZY a i
 |0=>Nat.one_pos
 |i+1=>Nat.mul_pos EL (Nat.div_pos (Nat.le_of_dvd (jA _) (aUw _ _)) (aSS _ EL))
theorem Lt{a:List Rat}{k:Nat}(h:BL k a):∀{i:Nat},i<=a.length->ZY a i<2^(i*k+1)
 |0,_=>by rw[Nat.zero_mul];exact(show 1<2^(0+1)by decide)
 |i+1,hi=>by
  have h1:=Lt h (i:=i) (by omega);have h2:=(h.get (i:=i) (by omega)).2;rw[ZY,show(i+1)*k+1=(i*k+1)+k by rw[Nat.succ_mul];omega,aQ3];exact Nat.mul_lt_mul'' h1 (aQQ (Nat.div_le_self _ _) h2)
def gK(a:List Rat)(c:Rat):Nat->Nat
 |0=>0
 |i+1=>Nat.gcd (gK a c i) (a.getD i 0*c).num.natAbs
theorem RN{a:List Rat}{c:Rat}{k l:Nat}(h:BL k a)(hc:Bq l c):∀{i:Nat},i<=a.length->gK a c i<2^(k+l)
 |0,_=>Nat.pow_pos (by omega)
 |i+1,hi=>xp (RN h hc (i:=i) (by omega)) ((h.get (i:=i) (by omega)).mul hc).1
theorem Np{q:Rat}(h:0<q):0<1/q:=by
 have h1:q*(1/q)=1:=by grind
 by_cases h2:0<1/q
 ·exact h2
 ·have h3:1/q<=0:=by grind
  have:=Rat.mul_nonneg (a:=q) (b:= -(1/q)) (by grind) (by grind)
  grind
def On(f:Rat->Rat)(b:List Rat):Nat->List Rat
 |0=>b
 |i+1=>(On f b i).set i (f (b.getD i 0))
theorem pR{f:Rat->Rat}{b:List Rat}:∀{i:Nat},(On f b i).length=b.length
 |0=>rfl
 |i+1=>by rw[On,aO8,pR]
theorem GI{f:Rat->Rat}{b:List Rat}:∀{i j:Nat},i<=b.length->j<b.length->(On f b i).getD j 0=if j<i then f (b.getD j 0)else b.getD j 0
 |0,j,_,_=>by rw[if_neg (by omega)];rfl
 |i+1,j,hi,hj=>by
  have:=GI (f:=f) (b:=b) (i:=i) (j:=j) (by omega) hj
  rw[On,aQP,List.getElem?_set,pR];by_cases h:i=j
  ·subst h;rw[if_pos rfl,if_pos (by omega),if_pos (by omega)];rfl
  ·rw[if_neg h,<-aQP,this];by_cases h2:j<i
   ·rw[if_pos h2,if_pos (by omega)]
   ·rw[if_neg h2,if_neg (by omega)]
theorem We{f:Rat->Rat}{b:List Rat}:On f b b.length=b.map f:=by
 refine List.ext_getElem (by rw[pR,aTV]) fun i h1 h2=>?_
 rw[pR]at h1
 have:=GI (f:=f) (b:=b) (aKR _) h1
 rw[if_pos h1,aQP,aL5 (by rw[pR];exact h1),aMp,aQP,aL5 h1,aMp]at this;rw[this,List.getElem_map]
theorem nT{f:Rat->Rat}:∀{a:List Rat},aSR (fun x _=>f x) a a=a.map f
 |[]=>rfl
 |x::a=>by rw[List.zipWith_cons_cons,List.map_cons,nT]
theorem O8{n:Bool}{m:AV}{D:Nat}{x:AV}{q:Rat}(hD:fm (.agg [.bool n,m]) (D:Int))(hx:dA x q){k l:Nat}(b1:D<2^k)(b2:Bq l q)(hD0:0<D)(hk:k+l<=100000000000):
  ∃d ng mg nq mq nr mr nm mm,aP E 105 [x]=some d/\aP E 104 [.agg [.bool n,m],d]=some (.agg [.bool ng,mg])/\aP E 103 [d,.agg [.bool ng,mg]]=some (.tuple [.agg [.bool nq,mq],.agg [.bool nr,mr],.int .i64 0])/\aP E 106 [.agg [.bool n,m],.agg [.bool nq,mq]]=some (.agg [.bool nm,mm])/\
  aU d=true/\(aU mg=true/\df mg=true)/\(aU mq=true/\df mq=true)/\(aU mr=true/\df mr=true)/\(aU mm=true/\df mm=true)/\fm (.agg [.bool nm,mm]) ((lcB D q.den:Nat):Int):=by
 have Sa:=jA q;obtain⟨d,hd,BB⟩:=mT (E:=E) hx;have f1:=fG b1 (by omega);have f2:=fG b2.2 (by omega);obtain⟨g,hg,ig⟩:=tQ (E:=E) hD BB f1 f2;rw[Int.gcd_natCast_natCast]at ig;have hgp:0<Nat.gcd D q.den:=aSS _ hD0;have fg:Fit ((Nat.gcd D q.den:Nat):Int):=fG (aQQ (Nat.le_of_dvd hD0 (Nat.gcd_dvd_left _ _)) b1) (by omega);obtain⟨y,r,Sv,iy,ir⟩:=nK (E:=E) BB ig f2 fg (by omega) (Int.natCast_dvd_natCast.2 (aUw _ _));rw[<-Int.natCast_ediv]at iy;obtain⟨z,hz,iz⟩:=lT C hD iy f1 (fG (aQQ (Nat.div_le_self _ _) b2.2) (by omega));rw[<-Int.natCast_mul]at iz;have pd:=dD BB;obtain⟨ng,mg,lg,rfl,VC,-,-,-⟩:=id ig;obtain⟨nq,mq,lq,rfl,hmq,-,-,-⟩:=id iy;obtain⟨nr,mr,lr,rfl,hmr,-,-,-⟩:=id ir;obtain⟨nm,mm,lm,rfl,WZ,-,-,-⟩:=id iz;exact⟨d,ng,mg,nq,mq,nr,mr,nm,mm,hd,hg,Sv,hz,pd,⟨aM VC,(aY VC).2⟩,⟨aM hmq,(aY hmq).2⟩,⟨aM hmr,(aY hmr).2⟩,⟨aM WZ,(aY WZ).2⟩,iz⟩
theorem Ea{v:AV}{a:List Rat}(h:iY v a){k:Nat}(ba:BL k a)(n8:a.length<=1000)(hk:k<=10000000):
  ∃r,aP E 135 [v]=some r/\∃c,0<c/\Bq (k+2*(a.length*k+1)) c/\iY r (a.map (fun x=>x*c)):=by
 obtain⟨ca,rfl,ra⟩:=h;have hbound:∀i,i<=a.length->i*k<=1000*10000000:=fun i hi=>aQY (by omega) hk
 obtain⟨o,ho,io⟩:=xM C (n:=1) (by omega) (by omega);obtain⟨no,mo,lo,rfl,xJ,-,-,-⟩:=id io;have Mo:aU mo=true/\df mo=true:=⟨aM xJ,(aY xJ).2⟩;have Hf:=fun aL=>zM (E:=E) (aL:=aL) (m:=a.length) (k:=.i64) (k':=.i64) (by omega)
 refine nY apD ?_;intro ts hl g0;unfold anG;simp only[↓aN,aO,↓aQ,aJ,↓reduceIte,aa,ah,ae,Tryz.f135,hl,g0,ho,Mo];refine ft (fun k_ ts H=>∃i nd md T,k_=a.length-i/\ts.length=97/\gt ts 0=.aK ca a.length/\gt ts 3=.b9 0 0/\gt ts 4=.b9 1 0/\gt ts 18=.aK ca a.length/\gt ts 19=.int .i64 (a.length:Int)/\gt ts 20=.int .i64 (i:Int)/\H=.cells .live [.bool nd,md]:: .cells .live [.bool false,.aH]::T/\(i<=a.length)/\(fm (.agg [.bool nd,md]) ((ZY a i:Nat):Int))) (a.length) ?_ ?_
 rotate_left
 ·refine⟨0,no,mo,[],(by first|omega|rfl|(simp;done)),(by simp only[cP,hl]),?_⟩;simp only[cR,hl,aa,ae,g0]
  iterate 7 refine⟨by first|trivial|rfl|(congr 1;omega)|(simp;done)|(simp;omega),?_⟩
  refine⟨?_,?_⟩
  ·omega
  ·exact io
 clear hl g0 ts;rintro k_ ts H ⟨i,nd,md,T,rfl,hl,g0,g3,g4,g18,g19,g20,rfl,hi,hD⟩;refine VS ?_;have MD:aU md=true/\df md=true:=by obtain⟨_,_,_,e,hm,-,-,-⟩:=id hD;simp only[AV.agg.injEq,List.cons.injEq,and_true]at e;obtain⟨-,rfl⟩:=e;exact⟨aM hm,(aY hm).2⟩
 have bD:=Lt ba hi;have hbi:=hbound i hi;by_cases hd:i<a.length
 ·have dc:decide ((i:Int)<(a.length:Int))=true:=b8 (by omega);have mM:((i:Int)<(a.length:Int))=True:=eq_true (by omega);have w1:aX .i64 ((i:Int)+1)=((i+1:Nat):Int):=by rw[wrap_i64 (by omega) (by omega)];omega
  obtain⟨n1,m1,n2,m2,e1,r1⟩:=ra.get hd;have p1:=kb (cs:=ca) (o:=i*4) (by have:=ra.len;omega);rw[e1]at p1;have A:=aW _ r1;obtain⟨d,ng,mg,nq,mq,nr,mr,nm,mm,e11,e12,e13,e14,u11,u12,u13,u14,u15,i1⟩:=O8 (E:=E) hD r1 bD (ba.get hd) EL (by omega);simp only[↓aN,aO,↓aQ,aJ,dJ,↓reduceIte,aa,ah,ae,aj,aj,hl,g3,g18,g19,g20,mM,w1,p1,A,MD,e11,e12,e13,e14,u11,u12,u13,u14,u15,aKU,aRd,aMf,aj];refine dG ?_;refine⟨_,?_,i+1,nm,mm,(T++[.cells .live [.bool n1,m1,.bool n2,m2],.cells .live [.bool ng,mg],.cells .live [.bool nq,mq],.cells .live [.bool nr,mr]]),rfl,(by simp only[cP,hl]),?_⟩
  ·first|omega|(simp;omega)
  simp only[cR,hl,aa,ae,g0,g3,g4,g18,g19]
  iterate 7 refine⟨by first|trivial|rfl|(congr 1;omega)|(simp;done)|(simp;omega),?_⟩
  refine⟨?_,?_⟩
  ·omega
  ·exact i1
 have dc:decide ((i:Int)<(a.length:Int))=false:=cg (by omega);obtain rfl:i=a.length:=by omega
 obtain⟨w,hw,iw⟩:=xL (E:=E) hD io (fG bD (by omega)) ⟨1,by omega,by decide⟩ (by omega);rw[show aSu ((ZY a a.length:Nat):Int) 1=((ZY a a.length:Nat):Rat)from DL _]at iw;have bw:Bq (a.length*k+1) ((ZY a a.length:Nat):Rat):=Bq.int (z:=((ZY a a.length:Nat):Int)) (by rw[aSv];exact bD) (by omega);have hwp:(0:Rat)<((ZY a a.length:Nat):Rat):=by
  have:=EL (a:=a) (i:=a.length)
  exact_mod_cast this
 obtain⟨c,hc⟩:∃c,c=((ZY a a.length:Nat):Rat):=⟨_,rfl⟩;rw[<-hc]at iw bw hwp;obtain⟨vw,u7,ve,vA,_,_,rfl,-,-,-,-⟩:=bX iw;have W:=aW _ iw;simp only[↓aN,aO,↓aQ,aJ,dJ,↓reduceIte,aa,ah,ae,hl,g0,g3,g19,g20,dc,MD,ho,Mo,hw,W,Hf,aKU,aRd,aMf];refine ft (fun k_ ts H=>∃i ng mg cs,k_=a.length-i/\ts.length=97/\gt ts 0=.aK ca a.length/\gt ts 3=.b9 0 0/\gt ts 4=.b9 1 0/\gt ts 11=.b9 (T.length+2) 0/\gt ts 13=.aI (T.length+3) 0 a.length 4 a.length/\gt ts 50=.int .i64 (a.length:Int)/\gt ts 51=.int .i64 (i:Int)/\H=.cells .live [.bool nd,md]:: .cells .live [.bool ng,mg]::(T++[.cells .live [.bool vw,u7,.bool ve,vA],.cells .live cs])/\(i<=a.length)/\(je cs (D7 (fun x _=>x*c) a a i))/\(fm (.agg [.bool ng,mg]) ((gK a c i:Nat):Int))) (a.length) ?_ ?_
 rotate_left
 ·refine⟨0,false,.aH,(iE [.bool false,.aH,.bool false,.aH] a.length),(by first|omega|rfl|(simp;done)),(by simp only[cP,hl]),?_⟩;simp only[cR,hl,aa,ae,g0,g3,g4]
  iterate 8 refine⟨by first|trivial|rfl|(congr 1;omega)|(simp;done)|(simp;omega),?_⟩
  refine⟨?_,?_,?_⟩
  ·omega
  ·exact je.E9 _
  ·exact Wh
 clear hl g0 g3 g4 g18 g19 g20 ts;rintro k_ ts H ⟨i,ng,mg,cs,rfl,hl,g0,g3,g4,g11,g13,g50,g51,rfl,hi,hc,hG⟩;refine VS ?_;have iD:=hc.len;rw[jR]at iD;have MG:aU mg=true/\df mg=true:=by obtain⟨_,_,_,e,hm,-,-,-⟩:=id hG;simp only[AV.agg.injEq,List.cons.injEq,and_true]at e;obtain⟨-,rfl⟩:=e;exact⟨aM hm,(aY hm).2⟩
 have bG:gK a c i<2^(k+(a.length*k+1)):=RN ba bw hi;by_cases hd:i<a.length
 ·have dc:decide ((i:Int)<(a.length:Int))=true:=b8 (by omega);have mM:((i:Int)<(a.length:Int))=True:=eq_true (by omega);have w1:aX .i64 ((i:Int)+1)=((i+1:Nat):Int):=by rw[wrap_i64 (by omega) (by omega)];omega
  obtain⟨n1,m1,n2,m2,e1,r1⟩:=ra.get hd;have p1:=kb (cs:=ca) (o:=i*4) (by have:=ra.len;omega);rw[e1]at p1;obtain⟨r,hr,ir⟩:=gQ (E:=E) r1 iw (ba.get hd) bw (by omega);have br:=(ba.get hd).mul bw;obtain⟨n5,m5,n6,m6,_,_,rfl,-,-,-,-⟩:=bX ir;have A:=aW _ r1;have D:=aW _ ir;obtain⟨dd,nm,mm,e11,e12,u11,u12,i1⟩:=Aj (E:=E) hG ir bG br (by omega);have fZ:=wu (H:=[.cells .live cs]) (b:=0) (o:=i*4) (cs:=cs) (xs:=[.bool n5,m5,.bool n6,m6]) rfl rfl (by omega) (by simp only[List.all_cons,oK,D.2.1,D.2.2.2,List.all_nil,aPt]);have oc:=hc.set (i:=i) (by rw[jR];exact hd) ir;have sH:=Mr (cs:=cs) (xs:=[.bool n5,m5,.bool n6,m6]) (o:=i*4) (n:=4) rfl (by omega);have ayK:aUr 4 (aUs (i*4) (aUr (i*4) cs++AV.bool n5::m5::AV.bool n6::m6::aUs (i*4+4) cs))=[.bool n5,m5,.bool n6,m6]:=by unfold cH at sH;rw[aRd]at sH;exact sH
  have LM:(i*4+4<=(aUr (i*4) cs).length+((aUs (i*4+4) cs).length+4))=True:=eq_true (by rw[aMo,aQ6];omega);have sT:=Oc (cs:=cs) (xs:=[.bool n5,m5,.bool n6,m6]) (o:=i*4) (n:=4) rfl (by omega);have UM:decide (i*4+4<=cs.length)=true:=b8 (by omega);have hle:(i*4+4<=cs.length)=True:=eq_true (by omega);simp only[↓aN,aO,↓aQ,aJ,dJ,↓reduceIte,aa,ah,ae,hl,g0,g4,g11,g13,g50,g51,mM,w1,p1,A,D,W,MG,hr,fZ,ayK,LM,e11,e12,u11,u12,aKU,aRd,aMf];have Xx:je (aUr (i*4) cs++AV.bool n5::m5::AV.bool n6::m6::aUs (i*4+4) cs) (D7 (fun x _=>x*c) a a (i+1)):=by unfold cH at oc;rw[aRd]at oc;exact oc
  refine dG ?_;refine⟨_,?_,i+1,nm,mm,(aUr (i*4) cs++AV.bool n5::m5::AV.bool n6::m6::aUs (i*4+4) cs),rfl,(by simp only[cP,hl]),?_⟩
  ·first|omega|(simp;omega)
  simp only[cR,hl,aa,ae,g0,g3,g4,g11,g13,g50]
  iterate 8 refine⟨by first|trivial|rfl|(congr 1;omega)|(simp;done)|(simp;omega),?_⟩
  refine⟨?_,?_,?_⟩
  ·omega
  ·exact Xx
  ·exact i1
 have dc:decide ((i:Int)<(a.length:Int))=false:=cg (by omega);obtain rfl:i=a.length:=by omega
 rw[Bv rfl]at hc;have gg:=iJ (H:=.cells .live [.bool nd,md]:: .cells .live [.bool ng,mg]::(T++[.cells .live [.bool vw,u7,.bool ve,vA],.cells .live cs])) (b:=T.length+3) (m:=a.length) (s:=4) (st:=.live) (by rw[aPd,aPd,sb rfl];rfl) (by decide) iD hc.flat;have mE:=jP C hG;by_cases h0:gK a c a.length=0
 ·rw[h0]at mE;simp only[↓aN,aO,↓aQ,aJ,↓reduceIte,aa,ah,ae,hl,g4,g50,g51,dc,MG,mE];have OF:(yX 0==0)=true:=rfl;simp only[↓aN,aO,aa,ae,hl,g13,gg,OF];refine⟨c,hwp,bw.mono (by omega),cs,?_,?_⟩
  ·rw[aTV]
  ·rw[<-nT];exact hc
 ·obtain⟨w2,Cf,Wr⟩:=xL (E:=E) io hG ⟨1,by omega,by decide⟩ (fG bG (by omega)) (by omega);have bw2:Bq (k+(a.length*k+1)) (aSu 1 ((gK a c a.length:Nat):Int)):=Bq.divInt (by omega) (kZ (show 1<2^1 by decide) (by omega)) (by rw[aSv];exact bG);have Sa:(0:Rat)<aSu 1 ((gK a c a.length:Nat):Int):=by
   rw[Rat.divInt_eq_div]
   have:(0:Rat)<((gK a c a.length:Nat):Rat):=by
    have:0<gK a c a.length:=by omega
    exact_mod_cast this
   (have h9:=Np this;exact h9)
  obtain⟨d,hd'⟩:∃d,d=aSu 1 ((gK a c a.length:Nat):Int):=⟨_,rfl⟩;rw[<-hd']at Wr bw2 Sa;obtain⟨zk,zh,zd,zA,_,_,rfl,-,-,-,-⟩:=bX Wr;have U:=aW _ Wr;have OF:(yX ((gK a c a.length:Nat):Int)==0)=false:=by
   have:((gK a c a.length:Nat):Int)≠0:=by omega
   unfold yX;rw[if_neg this]
   split<;>rfl
  simp only[↓aN,aO,↓aQ,aJ,dJ,↓reduceIte,aa,ah,ae,hl,g4,g11,g13,g50,g51,dc,MG,mE,OF,ho,Mo,Cf,U,aKU,aMf];rw[nT]at hc;obtain⟨b,hb⟩:∃b,b=a.map (fun x=>x*c):=⟨_,rfl⟩;rw[<-hb]at hc;have VM:b.length=a.length:=by rw[hb,aTV]
  have bb:BL (k+(a.length*k+1)) b:=by intro q hq;rw[hb,List.mem_map]at hq;obtain⟨x,hx,rfl⟩:=hq;exact(ba x hx).mul bw
  refine ft (fun k_ ts H=>∃i es,k_=a.length-i/\ts.length=97/\gt ts 11=.b9 (T.length+2) 0/\gt ts 13=.aI (T.length+3) 0 a.length 4 a.length/\gt ts 82=.int .i64 (a.length:Int)/\gt ts 83=.int .i64 (i:Int)/\H=.cells .live [.bool nd,md]:: .cells .live [.bool ng,mg]::(T++[.cells .live [.bool zk,zh,.bool zd,zA],.cells .live es])/\(i<=a.length)/\(je es (On (fun x=>x*d) b i))) (a.length) ?_ ?_
  rotate_left
  ·refine⟨0,cs,(by first|omega|rfl|(simp;done)),(by simp only[cP,hl]),?_⟩;simp only[cR,hl,aa,ae,g11,g13]
   iterate 5 refine⟨by first|trivial|rfl|(congr 1;omega)|(simp;done)|(simp;omega),?_⟩
   refine⟨?_,?_⟩
   ·omega
   ·exact hc
  clear hl g0 g3 g4 g11 g13 g50 g51 ts;rintro k_ ts H ⟨i,es,rfl,hl,g11,g13,g82,g83,rfl,hi3,he⟩;refine VS ?_;have sQ:=he.len;rw[pR,VM]at sQ;by_cases hd:i<a.length
  ·have dc:decide ((i:Int)<(a.length:Int))=true:=b8 (by omega);have mM:((i:Int)<(a.length:Int))=True:=eq_true (by omega);have w1:aX .i64 ((i:Int)+1)=((i+1:Nat):Int):=by rw[wrap_i64 (by omega) (by omega)];omega
   obtain⟨n1,m1,n2,m2,e1,r1⟩:=he.get (i:=i) (by rw[pR];omega);rw[GI (by omega) (by omega),if_neg (by omega)]at r1;have hle:(i*4+4<=es.length)=True:=eq_true (by omega);obtain⟨r,hr,ir⟩:=gQ (E:=E) r1 Wr (bb.get (i:=i) (by omega)) bw2 (by omega);obtain⟨n5,m5,n6,m6,_,_,rfl,-,-,-,-⟩:=bX ir;have A:=aW _ r1;have D:=aW _ ir;have oc:=he.set (i:=i) (by rw[pR];omega) ir;have UM:decide (i*4+4<=es.length)=true:=b8 (by omega);have Xx:je (aUr (i*4) es++AV.bool n5::m5::AV.bool n6::m6::aUs (i*4+4) es) (On (fun x=>x*d) b (i+1)):=by unfold cH at oc;rw[aRd]at oc;exact oc
   simp only[↓aN,aO,↓aQ,aJ,dJ,↓reduceIte,aa,ah,ae,hl,g11,g13,g82,g83,mM,w1,A,D,U,hr,hle,e1,aRd];refine dG ?_;refine⟨_,?_,i+1,(aUr (i*4) es++AV.bool n5::m5::AV.bool n6::m6::aUs (i*4+4) es),rfl,(by simp only[cP,hl]),?_⟩
   ·first|omega|(simp;omega)
   simp only[cR,hl,aa,ae,g11,g13,g82]
   iterate 5 refine⟨by first|trivial|rfl|(congr 1;omega)|(simp;done)|(simp;omega),?_⟩
   refine⟨?_,?_⟩
   ·omega
   ·exact Xx
  have dc:decide ((i:Int)<(a.length:Int))=false:=cg (by omega);obtain rfl:i=a.length:=by omega
  rw[<-VM,We]at he;have gg:=iJ (H:=.cells .live [.bool nd,md]:: .cells .live [.bool ng,mg]::(T++[.cells .live [.bool zk,zh,.bool zd,zA],.cells .live es])) (b:=T.length+3) (m:=a.length) (s:=4) (st:=.live) (by rw[aPd,aPd,sb rfl];rfl) (by decide) sQ he.flat;simp only[↓aN,aO,↓reduceIte,aa,ae,hl,g13,g82,g83,dc,gg];have he2:b.map (fun x=>x*d)=a.map (fun x=>x*(c*d)):=by rw[hb,List.map_map];apply List.map_congr_left;intro x _;exact Rat.mul_assoc _ _ _
  rw[he2]at he;exact⟨c*d,Rat.mul_pos hwp Sa,(bw.mul bw2).mono (by omega),es,by rw[aTV],he⟩
theorem UU{v u:AV}{a b:List Rat}(h:iY v a)(h':iY u b)(Hd:b.length=a.length)(n8:a.length<=1000){k l:Nat}(ba:BL k a)(bb:BL l b)(hk:k+l<=10000000):aP E 130 [u,.eX [v] 0]=some (.bool (decide (eI a b a.length≠0))):=by
 suffices hh:∃r,aP E 130 [u,.eX [v] 0]=some r/\r=.bool (decide (eI a b a.length≠0))by obtain⟨r,h1,rfl⟩:=hh;exact h1
 obtain⟨r,hr,ir⟩:=x6 (E:=E) h h' Hd n8 ba bb hk;have s1:=gz (E:=E) ir;have pv:=h.pure;have pu:=h'.pure;have pr:=jg ir;have z1:=uD (eI a b a.length);refine tp asH ?_;intro ts hl g0 g1;unfold arY;obtain⟨ca,rfl,ra⟩:=h;obtain⟨cb,rfl,rb⟩:=h';simp only[↓aN,aO,↓aQ,aJ,aa,ae,Tryz.f130,hl,g0,g1,hr,s1,pr,z1];by_cases h0:eI a b a.length=0<;>simp[h0]
theorem Me{v u w:AV}{VB Vx VE VI}{a b d:List Rat}{p:Rat}(h:iY v a)(h':iY u b)(hw:iY w d)(hp:dA (.agg [.bool VB,Vx,.bool VE,VI]) p)(Hd:b.length=a.length)(DK:d.length=b.length)(n8:a.length<=8){k l:Nat}(ba:BL k a)(bb:BL k b)(bd:BL k d)(bp:Bq l p)(hp0:p≠0)(hk:2*k<=10000000)(Tc:l<=1000000000):∃r,aP E 167 [u,.eX [v] 0,.eX [.bool VB,Vx,.bool VE,VI] 0,.eX [w] 0]=some r/\iY r (aSR (fun x y=>x*1+y*(-(eI a b a.length/p))) b d):=by obtain⟨r,hr,ir⟩:=x6 (E:=E) h h' Hd (by omega) ba bb (by omega);have apO:Bq (8*10000001+1) (eI a b a.length):=(xI ba bb Hd (aKR _)).mono (Nat.succ_le_succ (aQY n8 (by omega)));obtain⟨q,hq,iq⟩:=ya (E:=E) ir hp apO bp (by omega) hp0;obtain⟨zO,zK,zI,zQ,_,_,rfl,-,-,-,-⟩:=bX iq;obtain⟨o,ho,io⟩:=kF (E:=E) (n:=1) (by omega) (by omega);obtain⟨g,hg,ig⟩:=tW (E:=E) iq;have bq:=(apO.div bp hp0);obtain⟨m,hm,im⟩:=U1 (E:=E) h' io hw ig DK (by omega) bb bd (l:=8*10000001+1+l) (Bq.int (z:=1) (kZ (show(1:Int).natAbs<2^1 by decide) (by omega)) (by omega)) bq.neg (by omega);have pv:=h.pure;have pu:=h'.pure;have pr:=jg ir;have po:=jg io;have pg:=jg ig;have Q:=aW _ iq;have P:=aW _ hp;refine gw4 arZ ?_;intro ts hl g0 g1 g2 g3;unfold amn;obtain⟨ca,rfl,ra⟩:=h;obtain⟨cb,rfl,rb⟩:=h';obtain⟨cd,rfl,rd⟩:=hw;have hpn:fD true 4 [.bool VB,Vx,.bool VE,VI] 0=some (.agg [.bool VB,Vx,.bool VE,VI]):=rfl;simp only[↓aN,aO,↓aQ,aJ,↓reduceIte,aa,ah,ae,Tryz.f167,hl,g0,g1,g2,g3,hr,hq,ho,hg,hm,pr,po,pg,Q,P,hpn,im.pure,wg];exact im
theorem M7{v:AV}{a:List Rat}{vs:List AV}{rows:List (List Rat)}{n:Nat}(h:iY v a)(hm:oq vs rows n)(hn:a.length=n)(n8:n<=8)(hR:rows.length<=1000){k l:Nat}(ba:BL k a)(bb:rH l rows)(hk:k+l<=10000000):
  ∃z:Int,aP E 129 [.aK vs rows.length,.func 130 [] [.eX [v] 0]]=some (.int .i64 z)/\((z= -1/\∀i,i<rows.length->eI a (row rows i) n=0)∨∃i,i<rows.length/\z=(i:Int)/\eI a (row rows i) n≠0):=by
 suffices hh:∃r,aP E 129 [.aK vs rows.length,.func 130 [] [.eX [v] 0]]=some r/\∃z:Int,r=(.int .i64 z)/\((z= -1/\∀i,i<rows.length->eI a (row rows i) n=0)∨∃i,i<rows.length/\z=(i:Int)/\eI a (row rows i) n≠0)by
  obtain⟨r,h1,z,rfl,h2⟩:=hh;exact⟨z,h1,h2⟩
 have nN:=fun{dr st:Bool} {bl:List AV} {H:Hp} {k:AV->cE->Prop}=>gn (E:=E) (dr:=dr) (st:=st) (f:=130) (bl:=bl) (H:=H) (k:=k) (bS C (by kernel_rfl))
 have pv:=h.pure;have hvl:vs.length=rows.length:=hm.1;refine tp agb ?_;intro ts hl g0 g1;unfold ajs;simp only[↓aN,aO,aJ,aa,ae,Tryz.f129,aB,hl,g0];refine ft (fun k_ ts H=>∃i,k_=rows.length-i/\ts.length=19/\gt ts 0=.aK vs rows.length/\gt ts 1=.func 130 [] [.eX [v] 0]/\gt ts 7=.int .i64 (rows.length:Int)/\gt ts 8=.int .i64 (i:Int)/\H=[]/\(i<=rows.length)/\(∀j,j<i->eI a (row rows j) n=0)) (rows.length) ?_ ?_
 rotate_left
 ·refine⟨0,(by first|omega|rfl|(simp;done)),(by simp only[cP,hl]),?_⟩;simp only[cR,hl,aa,ae,g0,g1]
  iterate 5 refine⟨by first|trivial|rfl|(congr 1;omega)|(simp;done)|(simp;omega),?_⟩
  refine⟨?_,?_⟩
  ·omega
  ·intro j hj;omega
 clear hl g0 g1 ts;rintro k_ ts H ⟨i,rfl,hl,g0,g1,g7,g8,rfl,hi,hz⟩;refine VS ?_;by_cases hd:i<rows.length
 ·have dc:decide ((i:Int)<(rows.length:Int))=true:=b8 (by omega);have mM:((i:Int)<(rows.length:Int))=True:=eq_true (by omega);have w1:aX .i64 ((i:Int)+1)=((i+1:Nat):Int):=by rw[wrap_i64 (by omega) (by omega)];omega
  obtain⟨hr,hrl⟩:=hm.2 i hd;have p1:=fX (vs:=vs) (i:=i) (by omega);have hc:=UU (E:=E) h hr (by omega) (by omega) ba (bb i hd) hk;have pr:=hr.pure;rw[hn]at hc;by_cases h0:eI a (row rows i) n=0
  ·rw[cg (by simpa using h0)]at hc;simp only[↓aN,aO,aJ,↓reduceIte,aa,ae,hl,g0,g1,g7,g8,mM,w1,p1,hc,pr,nN];refine dG ?_;refine⟨_,?_,i+1,rfl,(by simp only[cP,hl]),?_⟩
   ·first|omega|(simp;omega)
   simp only[cR,hl,aa,ae,g0,g1,g7]
   iterate 5 refine⟨by first|trivial|rfl|(congr 1;omega)|(simp;done)|(simp;omega),?_⟩
   refine⟨?_,?_⟩
   ·omega
   ·intro j hj;by_cases e:j=i
    ·rw[e];exact h0
    ·exact hz j (by omega)
  ·rw[b8 (by simpa using h0)]at hc;simp only[↓aN,aO,aJ,↓reduceIte,aa,ae,aB,hl,g0,g1,g7,g8,mM,p1,hc,pr,nN];exact⟨_,rfl,.inr ⟨i,hd,rfl,h0⟩⟩
 ·have dc:decide ((i:Int)<(rows.length:Int))=false:=cg (by omega);simp only[↓aN,aO,↓reduceIte,aa,aB,hl,g7,g8,dc];exact⟨_,rfl,.inl ⟨rfl,fun j hj=>hz j (by omega)⟩⟩
end Go.Proofs.YtblnjkjjedanaaaGreatDoor
namespace Go.Proofs.YtblnjkjjedanaaaGreatDoor
open Go Dv
open Go.Proofs.kY
variable{E:Env}[C:Ctx E]
theorem sO{l:List Rat}{n c:Nat}(h:l.length=n)(hc:n<=c):l.getD c 0=0:=by rw[aQP,aK4 (by omega)];rfl
theorem yf{a b:List Rat}{g:Rat->Rat->Rat}(h:a.length=b.length)(h0:g 0 0=0)(c:Nat):(aSR g a b).getD c 0=g (a.getD c 0) (b.getD c 0):=by
 simp only[aQP,List.getElem?_zipWith];by_cases hc:c<a.length
 ·rw[aL5 hc,aL5 (by omega:c<b.length)];rfl
 ·rw[aK4 (by omega),aK4 (by omega)];exact h0.symm
def nJ(rows:List (List Rat))(w:Nat):Prop:=∀i,i<rows.length->(row rows i).length=w
theorem nJ.set{rows:List (List Rat)}{w i:Nat}{q:List Rat}(h:nJ rows w)(hi:i<rows.length)(hq:q.length=w):nJ (rows.set i q) w:=by
 intro j hj;rw[aO8]at hj;rw[oW hi]
 split
 ·exact hq
 ·exact h j hj
theorem Ek{rows:List (List Rat)}{i j c:Nat}{q:List Rat}(hi:i<rows.length):iN (rows.set i q) j c=if i=j then q.getD c 0 else iN rows j c:=by
 unfold iN;rw[oW hi]
 split<;>rfl
theorem WB{rows:List (List Rat)}{i r:Nat}(hi:i<rows.length)(hr:r<rows.length)(j c:Nat):iN (AP rows i r) j c=if j=r then iN rows i c else if j=i then iN rows r c else iN rows j c:=by
 unfold AP;rw[Ek (by rw[aO8];exact hr),Ek hi];unfold iN
 grind
theorem Zt{rows:List (List Rat)}{r k:Nat}(hr:r<rows.length)(j c:Nat):iN (fV rows r k) j c=if j=r then iN rows r c/iN rows r k else iN rows j c:=by
 unfold fV;rw[Ek hr,yf rfl (by grind)];by_cases h:j=r
 ·subst h;rw[if_pos rfl,if_pos rfl];rfl
 ·rw[if_neg (fun e=>h e.symm),if_neg h]
theorem E1{rows:List (List Rat)}{r k w:Nat}(hw:nJ rows w)(hr:r<rows.length):∀{m:Nat},m<=rows.length->nJ (eU rows r k m) w
 |0,_=>hw
 |m+1,hm=>by
  have h1:=E1 (k:=k) hw hr (m:=m) (by omega);have h2:(eU rows r k m).length=rows.length:=qL;rw[eU]
  split
  ·refine h1.set (by omega) ?_;rw[aSY,h1 m (by omega),h1 r (by omega),Nat.min_self]
  ·exact h1
theorem M8{rows:List (List Rat)}{r k w:Nat}(hw:nJ rows w)(hr:r<rows.length):∀{m:Nat},m<=rows.length->∀j c,iN (eU rows r k m) j c=if j<m/\j≠r then iN rows j c-iN rows j k*iN rows r c else iN rows j c
 |0,_,j,c=>by rw[if_neg (by omega)];rfl
 |m+1,hm,j,c=>by
  have hl:(eU rows r k m).length=rows.length:=qL;have h1:=M8 hw hr (k:=k) (m:=m) (by omega);have zY:=E1 (k:=k) hw hr (m:=m) (by omega);have em:∀c,iN (eU rows r k m) m c=iN rows m c:=fun c=>by rw[h1,if_neg (by omega)]
  have er:∀c,iN (eU rows r k m) r c=iN rows r c:=fun c=>by rw[h1,if_neg (by omega)]
  rw[eU];by_cases hc:m≠r/\iN (eU rows r k m) m k≠0
  ·rw[if_pos hc,Ek (by omega)];by_cases hj:m=j
   ·subst hj;rw[if_pos rfl,if_pos ⟨by omega,hc.1⟩,yf (by rw[zY m (by omega),zY r (by omega)]) (by grind),em];have a1:=em c;have a2:=er c;unfold iN at a1 a2⊢;rw[a1,a2]
   ·rw[if_neg hj,h1];by_cases VU:j<m/\j≠r
    ·rw[if_pos VU,if_pos (by omega)]
    ·rw[if_neg VU,if_neg (by omega)]
  ·rw[if_neg hc,h1];by_cases hj:j<m/\j≠r
   ·rw[if_pos hj,if_pos (by omega)]
   ·rw[if_neg hj];by_cases VU:j<m+1/\j≠r
    ·rw[if_pos VU]
     have:j=m:=by omega
     subst this;have h3:iN (eU rows r k j) j k=0:=Classical.byContradiction (fun hh=>hc ⟨VU.2,hh⟩);rw[em]at h3;rw[h3];grind
    ·rw[if_neg VU]
theorem ad0{eZ:List (List Rat)}{k w:Nat}{rows:List (List Rat)}{gG:List Nat}(h:EY eZ k rows gG)(hw:nJ eZ w):rows.length=eZ.length/\nJ rows w/\St w rows.length k gG.length (fun t=>t) (fun i=>iN rows i) (fun i=>gG.getD i 0) (gy (SR eZ.length (fun i=>iN eZ i))):=by
 induction h with
 |start=>
  refine⟨rfl,hw,?_⟩;exact⟨by simp,fun i h=>by simp at h,fun i j _ h=>by simp at h,fun i j _ h=>by simp at h,fun i j h=>by simp at h,fun i j _ _ h=>by omega,fun x=>Iff.rfl⟩
 |skip h hp hz ih=>
  obtain⟨h1,h2,h3⟩:=ih;exact⟨h1,h2,h3.skip (fun i hi hM=>hz i hi hM)⟩
 |@EM k i rows rows' gG h hi hl hn hz hs ih=>
  obtain⟨h1,h2,h3⟩:=ih;have hr:gG.length<rows.length:=by omega
  have hlen:rows'.length=rows.length:=by
   rw[hs];split
   ·unfold AP;rw[aO8,aO8]
   ·rfl
  have hw':nJ rows' w:=by
   rw[hs];split
   ·unfold AP;exact(h2.set hl (h2 _ hr)).set (by rw[aO8];exact hr) (h2 i hl)
   ·exact h2
  have he:∀j,j<rows.length->∀c,iN rows' j c=if j=gG.length then iN rows i c else if j=i then iN rows gG.length c else iN rows j c:=by
   intro j hj c;rw[hs]
   split
   ·rw[WB hl hr]
   ·rename_i e;have e:i=gG.length:=Classical.byContradiction e;subst e
    split
    ·rename_i e2;rw[e2]
    ·rfl
  have s1:=h3.swap hi hl (g:=fun j=>iN rows' j) he;have dY:iN rows' gG.length k≠0:=by rw[he _ hr,if_pos rfl];exact hn
  have Mf:(fV rows' gG.length k).length=rows.length:=by unfold fV;rw[aO8,hlen]
  have hnw:nJ (fV rows' gG.length k) w:=by unfold fV;refine hw'.set (by omega) ?_;rw[aSY,hw' _ (by omega),Nat.min_self]
  have sQ:(eU (fV rows' gG.length k) gG.length k rows.length).length=rows.length:=by rw[qL,Mf]
  have hg:∀j,j<rows.length->∀c,iN (eU (fV rows' gG.length k) gG.length k rows.length) j c=if j=gG.length then iN rows' gG.length c/iN rows' gG.length k else iN rows' j c-iN rows' j k*(iN rows' gG.length c/iN rows' gG.length k):=by
   intro j hj c;rw[M8 hnw (by omega) (by omega)];simp only[Zt (rows:=rows') (r:=gG.length) (k:=k) (by omega),if_true];by_cases e:j=gG.length
   ·rw[if_neg (by omega),if_pos e]
    try rw[if_pos e]
   ·rw[if_pos ⟨hj,e⟩,if_neg e]
    try rw[if_neg e,if_neg e]
  have s2:=s1.EM (g:=fun j=>iN (eU (fV rows' gG.length k) gG.length k rows.length) j) hr dY hg;refine⟨by rw[sQ,h1],E1 hnw (by omega) (by omega),?_⟩;rw[sQ,aMf];have hP:∀j,j<gG.length+1->(gG++[k]).getD j 0=if j=gG.length then k else gG.getD j 0:=by
   intro j hj;rw[aQP];by_cases e:j=gG.length
   ·rw[if_pos e,e,aTZ (by omega),Nat.sub_self];rfl
   ·rw[if_neg e,aNq (by omega),aQP]
  refine⟨s2.le,fun i hi=>?_,fun i j G8 hj=>?_,fun i j hi hj=>?_,fun i t hi ht=>?_,s2.zero,s2.span⟩
  ·rw[hP i hi];exact s2.lt i hi
  ·have h5:j<gG.length+1:=hj;rw[hP i (by omega),hP j hj];exact s2.mono i j G8 hj
  ·rw[hP j hj];exact s2.one i j hi hj
  ·rw[hP i hi]at ht;exact s2.low i t hi ht
theorem Zb{eZ:List (List Rat)}{k w:Nat}{rows:List (List Rat)}{gG:List Nat}(h:EY eZ k rows gG)(hw:nJ eZ w)(hk:k<=w)(N5:k=w∨gG.length=rows.length):rN w gG.length (fun i=>iN rows i) (fun i=>gG.getD i 0) (gy (SR eZ.length (fun i=>iN eZ i))):=by
 obtain⟨h1,h2,h3⟩:=ad0 h hw;refine h3.ech hk (fun i hi hM c=>?_);rcases N5 with e|e
 ·by_cases hc:c<w
  ·exact h3.zero i c hi hM (by omega)
  ·exact sO (h2 i hM) (by omega)
 ·omega
end Go.Proofs.YtblnjkjjedanaaaGreatDoor
namespace Go.Proofs.YtblnjkjjedanaaaGreatDoor
open Go Dv Dv.b7
variable{E:Env}[C:Ctx E]
def qn(H:Hp)(B:Nat)(x:AV)(q:List Rat):Prop:=(∃cs,x=.aK cs q.length/\je cs q)∨∃c st cs,x=.aI c 0 q.length 4 q.length/\B<c/\c<H.length/\H[c]?=some (.cells st cs)/\st≠ .dead/\je cs q
def nX(H:Hp)(B n:Nat)(v:AV)(rows:List (List Rat)):Prop:=(rows=[]/\v=.aH)∨(0<rows.length/\∃b st hs,v=.aI b 0 rows.length 1 rows.length/\B<b/\b<H.length/\H[b]?=some (.cells st hs)/\st≠ .dead/\hs.length=rows.length/\∀j,j<rows.length->qn H B (hs.getD j aZ) (row rows j)/\(row rows j).length=n)
def pQ(B:Nat)(H H2:Hp):Prop:=(H.length<=H2.length/\∀k,k<B->k<H.length->H2[k]?=H[k]?)/\∀k st cs,k≠B->H[k]?=some (.cells st cs)->st≠ .dead->∃st',st'≠ .dead/\H2[k]?=some (.cells st' cs)
theorem pQ.refl{B:Nat}{H:Hp}:pQ B H H:=⟨⟨aKR _,fun _ _ _=>rfl⟩,fun k st cs _ h hd=>⟨st,hd,h⟩⟩
theorem pQ.trans{B:Nat}{H H2 H3:Hp}(h:pQ B H H2)(h':pQ B H2 H3):pQ B H H3:=by refine⟨⟨aNm h.1.1 h'.1.1,fun k hk hl=>(h'.1.2 k hk (aNt hl h.1.1)).trans (h.1.2 k hk hl)⟩,fun k st cs hk e hd=>?_⟩;obtain⟨st',d',e'⟩:=h.2 k st cs hk e hd;exact h'.2 k st' cs hk e' d'
theorem pQ.app{B:Nat}{H:Hp}(l:Hp):pQ B H (H++l):=by refine⟨⟨by rw[aMf];omega,fun k _ hl=>aNq hl⟩,fun k st cs hk e hd=>⟨st,hd,?_⟩⟩;obtain⟨iH,-⟩:=List.getElem?_eq_some_iff.1 e;rw[aNq iH];exact e
theorem QP{st:gu}{cs:List AV}(hd:st≠ .dead):∃st',st'≠ .dead/\cz.nL (.cells st cs)=.cells st' cs:=by
 cases st with
 |live=>exact⟨.ro,by decide,rfl⟩
 |ro=>exact⟨.ro,by decide,rfl⟩
 |dead=>exact absurd rfl hd
theorem P8{H:Hp}{bs:List Nat}{k:Nat}{st:gu}{cs:List AV}(e:H[k]?=some (.cells st cs))(hd:st≠ .dead):∃st',st'≠ .dead/\(Dv.mark H bs)[k]?=some (.cells st' cs):=by
 rw[ik];by_cases hm:k∈bs
 ·rw[if_pos hm,e];obtain⟨st',h1,h2⟩:=QP (cs:=cs) hd;exact⟨st',h1,by rw[Option.map_some,h2]⟩
 ·rw[if_neg hm];exact⟨st,hd,e⟩
theorem vT{H:Hp}{bs:List Nat}{k:Nat}(h:k∉bs):(Dv.mark H bs)[k]?=H[k]?:=by rw[ik,if_neg h]
theorem pQ.mark{B:Nat}{H:Hp}(bs:List Nat)(hb:∀b∈bs,B<b):pQ B H (Dv.mark H bs):=
 ⟨⟨by rw[lX];exact aKR _,fun k hk _=>vT (fun h=>by have:=hb k h;omega)⟩,fun k st cs _ e hd=>P8 e hd⟩
theorem pQ.set{B:Nat}{H:Hp}(x:cz):pQ B H (H.set B x):=
 ⟨⟨by rw[aO8];exact aKR _,fun k hk _=>aNh (by omega)⟩,fun k st cs hk e hd=>⟨st,hd,by rw[aNh (fun h=>hk h.symm)];exact e⟩⟩
theorem qn.mono{H H2:Hp}{B:Nat}{x:AV}{q:List Rat}(h:qn H B x q)(hl:pQ B H H2):qn H2 B x q:=by
 rcases h with h|⟨c,st,cs,e,hc,iH,h1,h2,h3⟩
 ·exact .inl h
 ·obtain⟨st',d',e'⟩:=hl.2 c st cs (by omega) h1 h2;exact .inr ⟨c,st',cs,e,hc,aNt iH hl.1.1,e',d',h3⟩
theorem nX.mono{H H2:Hp}{B n:Nat}{v:AV}{rows:List (List Rat)}(h:nX H B n v rows)(hl:pQ B H H2):nX H2 B n v rows:=by
 rcases h with h|⟨h0,b,st,hs,e,hb,iH,h1,h2,h3,h4⟩
 ·exact .inl h
 ·obtain⟨st',d',e'⟩:=hl.2 b st hs (by omega) h1 h2;exact .inr ⟨h0,b,st',hs,e,hb,aNt iH hl.1.1,e',d',h3,fun j hj=>⟨(h4 j hj).1.mono hl,(h4 j hj).2⟩⟩
theorem qn.fz{H:Hp}{B:Nat}{x:AV}{q:List Rat}(h:qn H B x q)(m:Nat):∃cs bs,fz H (m+2) x=some (.aK cs q.length,bs)/\je cs q/\∀b∈bs,B<b/\b<H.length:=by
 rcases h with⟨cs,rfl,hc⟩|⟨c,st,cs,rfl,hB,iH,h1,h2,h3⟩
 ·exact⟨cs,[],rfl,hc,by simp⟩
 ·have h6:=oe (n:=m+1) (off:=0) (len:=q.length) (esz:=4) (k:=q.length) h1 h2 (by rw[h3.len];omega) (by rw[aPp,<-h3.len,aQV];exact gf h3.flat);rw[iP,eo]at h6;exact⟨cs,[c],h6,h3,by intro b hb;rw[aMh]at hb;subst hb;exact⟨hB,iH⟩⟩
theorem nX.fz{H:Hp}{B n:Nat}{v:AV}{rows:List (List Rat)}(h:nX H B n v rows)(h0:0<rows.length)(m:Nat):∃vs bs,fz H (m+3) v=some (.aK vs rows.length,bs)/\oq vs rows n/\∀b∈bs,B<b/\b<H.length:=by
 rcases h with⟨e,-⟩|⟨-,b,st,hs,e1,hB,iH,h1,h2,h3,h4⟩
 ·rw[e]at h0;exact absurd h0 (by simp)
 ·have key:∀(l:List AV),(∀x∈l,∃q,qn H B x q)->∃r,dP (Dv.fz H (m+2)) l=some r/\r.length=l.length/\(∀j,j<l.length->∃q,qn H B (l.getD j aZ) q/\Dv.fz H (m+2) (l.getD j aZ)=some ((r.map (·.1)).getD j aZ,((r.map (·.2)).getD j [])))/\∀b∈r.flatMap (·.2),B<b/\b<H.length:=by
   intro l;induction l with
   |nil=>intro _;exact⟨[],rfl,rfl,by simp,by simp⟩
   |cons x l ih=>
    intro hx;obtain⟨r,Cg,G5,PI,hr4⟩:=ih fun y hy=>hx y (by simp[hy])
    obtain⟨q,hq⟩:=hx x (by simp);obtain⟨cs,bs,f1,f2,f3⟩:=hq.fz m;refine⟨(.aK cs q.length,bs)::r,?_,by simp[G5],?_,?_⟩
    ·unfold dP;rw[f1,Cg]
    ·intro j hj;cases j with
     |zero=>exact⟨q,hq,f1⟩
     |succ j=>
      obtain⟨q',a1,a2⟩:=PI j (by simpa using hj);exact⟨q',by simpa using a1,by simpa using a2⟩
    ·intro b hb;rw[List.flatMap_cons,aLV]at hb;rcases hb with hb|hb
     ·exact f3 b hb
     ·exact hr4 b hb
  obtain⟨r,Cg,G5,PI,hr4⟩:=key hs (by
   intro x hx;obtain⟨j,hj,e⟩:=List.getElem_of_mem hx
   have:=(h4 j (by omega)).1
   rw[aQP,aL5 hj,aMp,e]at this;exact⟨_,this⟩)
  have h6:=oe (n:=m+2) (off:=0) (len:=rows.length) (esz:=1) (k:=rows.length) h1 h2 (by omega) (by rw[aPp,Nat.mul_one,<-h3,aQV];exact Cg);subst e1;refine⟨_,_,h6,⟨by rw[aTV,G5,h3],fun j hj=>?_⟩,?_⟩
  ·obtain⟨q,a1,a2⟩:=PI j (by omega);obtain⟨cs,bs,f1,f2,f3⟩:=(h4 j hj).1.fz m;rw[f1]at a2;simp only[Option.some.injEq,Prod.mk.injEq]at a2;rw[<-a2.1];exact⟨⟨cs,rfl,f2⟩,(h4 j hj).2⟩
  ·intro b hb;simp only[List.mem_cons]at hb;rcases hb with rfl|hb
   ·exact⟨hB,iH⟩
   ·exact hr4 b hb
theorem qn.fz2{H:Hp}{B:Nat}{x:AV}{q:List Rat}(h:qn H B x q):∃cx bs,je cx q/\(∀b∈bs,B<b/\b<H.length)/\∀l,(∀ca m,ow (aU x) (H++l) [.aK ca m,x]=some ([.aK ca m,.aK cx q.length],bs))/\ow (aU x) (H++l) [x]=some ([.aK cx q.length],bs):=by
 rcases h with⟨cs,rfl,hc⟩|⟨c,st,cs,rfl,hB,iH,h1,h2,h3⟩
 ·exact⟨cs,[],hc,by simp,fun l=>⟨fun ca m=>rfl,rfl⟩⟩
 ·refine⟨cs,[c],h3,by intro b hb;rw[aMh]at hb;subst hb;exact⟨hB,iH⟩,fun l=>?_⟩;have h1':(H++l)[c]?=some (.cells st cs):=by rw[aNq iH];exact h1
  have h6:=oe (n:=39) (off:=0) (len:=q.length) (esz:=4) (k:=q.length) h1' h2 (by rw[h3.len];omega) (by rw[aPp,<-h3.len,aQV];exact gf h3.flat);rw[iP,eo]at h6;refine⟨fun ca m=>?_,?_⟩
  ·show ow false _ _=_
   rw[nQ];unfold bW;rw[if_neg (by simp[bE,aU])];unfold dP;rw[show Dv.fz (H++l) 40 (.aK ca m)=some (.aK ca m,[])from rfl];unfold dP;rw[h6];rfl
  ·show ow false _ _=_
   rw[nQ];unfold bW;rw[if_neg (by simp[bE,aU])];unfold dP;rw[h6];rfl
theorem qn.fzm{H H2:Hp}{B:Nat}{x:AV}{q:List Rat}(h:qn H B x q)(hl:pQ B H H2)(m:Nat):∃cs bs,Dv.fz H2 (m+2) x=some (.aK cs q.length,bs)/\je cs q/\∀b∈bs,B<b/\b<H.length:=by
 rcases h with⟨cs,rfl,hc⟩|⟨c,st,cs,rfl,hB,iH,h1,h2,h3⟩
 ·exact⟨cs,[],rfl,hc,by simp⟩
 ·obtain⟨st',d',e'⟩:=hl.2 c st cs (by omega) h1 h2;have h6:=oe (n:=m+1) (off:=0) (len:=q.length) (esz:=4) (k:=q.length) e' d' (by rw[h3.len];omega) (by rw[aPp,<-h3.len,aQV];exact gf h3.flat);rw[iP,eo]at h6;exact⟨cs,[c],h6,h3,by intro b hb;rw[aMh]at hb;subst hb;exact⟨hB,iH⟩⟩
theorem KS{H:Hp}{b m:Nat}{st:gu}{cs vs:List AV}{bs:List Nat}(h:H[b]?=some (.cells st cs))(hd:st≠ .dead){r:List (AV×List Nat)}(hr:dP (Dv.fz H m) cs=some r)(h1:r.map (·.1)=vs)(h2:r.flatMap (·.2)=bs):Dv.fz H (m+1) (.b9 b 0)=some (.eX vs 0,b::bs):=by unfold Dv.fz;simp only[h];rw[if_neg hd,hr];subst h1 h2;rfl
theorem X6{H:Hp}{x rv y vx vy vr:AV}{L0 L1 L2:Nat}{s0 s1 s2:gu}{pc:List AV}{bx TZ br:List Nat}(ex:Dv.fz H 40 x=some (vx,bx))(e0:H[L0]?=some (.cells s0 [rv]))(d0:s0≠ .dead)(er:Dv.fz H 39 rv=some (vr,br))(e2:H[L2]?=some (.cells s2 pc))(d2:s2≠ .dead)(Lc:∀v∈pc,Flat v)(e1:H[L1]?=some (.cells s1 [y]))(d1:s1≠ .dead)(ey:Dv.fz H 39 y=some (vy,TZ)):
  ow false H [x,.b9 L0 0,.b9 L2 0,.b9 L1 0]=some ([vx,.eX [vr] 0,.eX pc 0,.eX [vy] 0],bx++(L0::br++(L2::[]++(L1::TZ)))):=by
 have f0:=KS (m:=39) e0 d0 (r:=[(vr,br)]) (by unfold dP;rw[er];rfl) rfl rfl;have f1:=KS (m:=39) e1 d1 (r:=[(vy,TZ)]) (by unfold dP;rw[ey];rfl) rfl rfl;have f2:=KS (m:=39) e2 d2 (gf (m:=38) Lc) (iP) (eo);rw[nQ];unfold bW;rw[if_neg (by simp[bE,aU])];unfold dP;rw[ex];unfold dP;rw[f0];unfold dP;rw[f2];unfold dP;rw[f1];simp[dP]
theorem EC{H:Hp}{B:Nat}{bs:List Nat}(c:Bool)(hb:∀b∈bs,B<b/\b<H.length):∃HA:Hp,(∀l,cE.app (H++l) (if c=true then cE.looks bs else cE.marks bs)=HA++l)/\pQ B H HA/\HA.length=H.length/\HA[B]?=H[B]?/\∀k,k∉bs->HA[k]?=H[k]?:=by
 cases c with
 |true=>exact⟨H,fun l=>rfl,pQ.refl,rfl,rfl,fun k _=>rfl⟩
 |false=>exact⟨Dv.mark H bs,fun l=>Yy (fun b h=>(hb b h).2),pQ.mark bs (fun b h=>(hb b h).1),lX _ _,vT (fun h=>by have:=(hb B h).1;omega),fun k hk=>vT hk⟩
theorem W4{s low n:Nat}{v:AV}{H:Hp}{cs:List AV}{bs:List Nat}(h:wW s low v H n cs)(hb:∀b∈bs,b<low):wW s low v (Dv.mark H bs) n cs:=by
 rcases h with h|⟨h0,b,h1,h2,h3,h4⟩
 ·exact .inl h
 ·exact .inr ⟨h0,b,h1,by rw[lX];exact h2,h3,by rw[vT (fun h=>by have:=hb b h;omega)];exact h4⟩
theorem AZ{s low n:Nat}{v:AV}{H:Hp}{cs:List AV}(h:wW s low v H n cs):wW s 0 v H n cs:=by
 rcases h with h|⟨h0,b,h1,h2,h3,h4⟩
 ·exact .inl h
 ·exact .inr ⟨h0,b,Nat.zero_le _,h2,h3,h4⟩
theorem oP{s low n:Nat}{v:AV}{H:Hp}{cs:List AV}(h:wW s low v H n cs){k:Nat}(hk:k<low)(m:Nat):v≠ .aI k 0 m s m:=by
 rcases h with⟨-,-,rfl⟩|⟨h0,b,h1,h2,rfl,h4⟩
 ·simp
 ·simp only[ne_eq,AV.aI.injEq,not_and];omega
theorem me{α:Type}{l m:List α}{j:Nat}{d:α}(h:j<l.length):(l++m).getD j d=l.getD j d:=by rw[aQP,aNq h,<-aQP]
theorem lS{α:Type}{l:List α}{x d:α}{j:Nat}(h:j=l.length):(l++[x]).getD j d=x:=by subst h;rw[aQP,aTZ (aKR _),Nat.sub_self];rfl
theorem iQ{E:Env}{t s rR aL b:Nat}{ag:Bool}{z x:List AV}{H:Hp}{st:gu}(hS:eu E t=some (ag,s,rR,z))(hs:0<s)(hb:H[b]?=some (.cells st x))(hd:st≠ .dead)(hx:x.length=s)(hxo:x.all df=true)(hr:1*rR<=gO):
  aV E H aL .append [t,t] [.aH,.aI b 0 1 s 1]=some (.aI aL 0 1 s 1,[(aL,.cells .live x)]):=by
 obtain⟨i,e,ei,h1,h2,h3,h4,h5,h6,h7⟩:=ij hS;obtain⟨cV,isAgg,size,bytes,zero,eS⟩:=i;simp only at h2;subst h2 h5 h6;have uO:vD H ei false (.aI b 0 1 ei.size 1)=some (1,x):=by
  have ht:aUr (1*ei.size) x=x:=by rw[Nat.one_mul,<-hx,aQV]
  simp[vD,qe,sV,kJ,hb,hd,hx];rw[<-hx,aQV]
 have IL:aV E H aL .append [t,t] [.aH,.aI b 0 1 ei.size 1]=fQ E H aL false t .aH (.aI b 0 1 ei.size 1):=by simp[aV,h1]
 rw[IL];unfold fQ;simp only[h1,h3,uO];rw[if_neg (by omega),if_neg (by rw[hxo,h7];simp;omega),if_pos ⟨by omega,by omega⟩]
theorem ag5{E:Env}{t s rR aL:Nat}{ag:Bool}{z:List AV}{H:Hp}(hS:eu E t=some (ag,s,rR,z)):aV E H aL .append [t,t] [.aH,.aH]=some (.aH,[]):=by
 obtain⟨i,e,ei,h1,h2,h3,h4,h5,h6,h7⟩:=ij hS;obtain⟨cV,isAgg,size,bytes,zero,eS⟩:=i;simp only at h2;subst h2 h5 h6;have IL:aV E H aL .append [t,t] [.aH,.aH]=fQ E H aL false t .aH .aH:=by simp[aV,h1]
 rw[IL];unfold fQ;simp only[h1,h3,vD,qe,sV,kJ];rfl
theorem agq{ts:List AV}:cn ts (.const (.pointer none))=some .jF:=rfl
theorem np{E:Env}{t s rR b n aL:Nat}{ag:Bool}{z x cs:List AV}{H:Hp}(hS:eu E t=some (ag,s,rR,z))(hs:0<s)(QH:0<n)(hb:H[b]?=some (.cells .live cs))(sd:cs.length=n*s){c:Nat}{st:gu}(hc:H[c]?=some (.cells st x))(hd:st≠ .dead)(hx:x.length=s)(hxo:x.all df=true)(hr:(n+1)*rR<=gO)(hn:n+1<=4611686018427387904):
  aV E H aL .append [t,t] [.aI b 0 n s n,.aI c 0 1 s 1]=some (.aI aL 0 (n+1) s (n+1),[(b,.cells .dead []),(aL,.cells .live (cs++x))]):=by
 obtain⟨i,e,ei,h1,h2,h3,h4,h5,h6,h7⟩:=ij hS;obtain⟨cV,isAgg,size,bytes,zero,eS⟩:=i;simp only at h2;subst h2 h5 h6;have uO:vD H ei false (.aI c 0 1 ei.size 1)=some (1,x):=by
  have ht:aUr (1*ei.size) x=x:=by rw[Nat.one_mul,<-hx,aQV]
  simp[vD,qe,sV,kJ,hc,hd,hx];rw[<-hx,aQV]
 have IL:aV E H aL .append [t,t] [.aI b 0 n ei.size n,.aI c 0 1 ei.size 1]=fQ E H aL false t (.aI b 0 n ei.size n) (.aI c 0 1 ei.size 1):=by simp[aV,h1]
 rw[IL];unfold fQ;simp only[h1,h3,uO];rw[if_neg (by omega),if_neg (by rw[hxo,h7];simp;omega)];simp only[hb];rw[if_neg (by omega),if_pos ⟨trivial,by omega,by omega,by omega⟩,aPp,<-sd,aQV]
theorem tG{H:Hp}:(cE.marks []).app H=H:=rfl
theorem Bx:∀{a b:List AV},bE (a++b)=(bE a&&bE b)
 |[],b=>rfl
 |x::a,b=>by rw[aPr,bE,bE,Bx,Bool.and_assoc]
theorem Yk{E:Env}{t s rR:Nat}{ag:Bool}{z a b:List AV}{aL:Nat}(hS:eu E t=some (ag,s,rR,z))(hz:z.length=s)(hs:0<s)(hs2:2*s<=16777216)(ha:a.length=s)(hb:b.length=s):aT E aL t 2 [(0,.agg a),(1,.agg b)]=some (.aI aL 0 2 s 2,[(aL,.cells .live (a++b))]):=by
 obtain⟨i,e,ei,h1,h2,h3,h4,h5,h6,h7⟩:=ij hS;obtain⟨cV,isAgg,size,bytes,zero,eS⟩:=i;simp only at h2;subst h2 h5;have hr:iE z 2=z++z:=by simp[iE]
 simp only[aT,h1,h3,h7,hr];rw[if_pos ⟨hz,hs,by omega⟩];simp[gV,AV.cells,ha,hb,hz]
theorem NO{E:Env}{t s rR aL b n:Nat}{ag:Bool}{z x:List AV}{H:Hp}{st:gu}(hS:eu E t=some (ag,s,rR,z))(hs:0<s)(hn:0<n)(hn2:n<=4611686018427387904)(hb:H[b]?=some (.cells st x))(hd:st≠ .dead)(hx:x.length=n*s)(hxo:x.all df=true)(hr:n*rR<=gO):
  aV E H aL .append [t,t] [.aH,.aI b 0 n s n]=some (.aI aL 0 n s n,[(aL,.cells .live x)]):=by
 obtain⟨i,e,ei,h1,h2,h3,h4,h5,h6,h7⟩:=ij hS;obtain⟨cV,isAgg,size,bytes,zero,eS⟩:=i;simp only at h2;subst h2 h5 h6;have uO:vD H ei false (.aI b 0 n ei.size n)=some (n,x):=by simp[vD,qe,sV,kJ,hb,hd,hx];rw[<-hx,aQV]
 have IL:aV E H aL .append [t,t] [.aH,.aI b 0 n ei.size n]=fQ E H aL false t .aH (.aI b 0 n ei.size n):=by simp[aV,h1]
 rw[IL];unfold fQ;simp only[h1,h3,uO];rw[if_neg (by omega),if_neg (by rw[hxo,h7];simp;omega),if_pos ⟨by omega,by omega⟩]
inductive oE:List AV->List Tw->Prop
 |nil:oE [] []
 |cons {c cs:List AV} {t:Tw} {ts:List Tw} (h:wi (.agg c) t) (hl:c.length=24) (h':oE cs ts):oE (c++cs) (t::ts)
theorem oE.len:∀{cs:List AV} {ts:List Tw},oE cs ts->cs.length=ts.length*24
 |_,_,.nil=>rfl
 |_,_,.cons _ hl h'=>by rw[aMf,hl,h'.len,aMm];omega
theorem oE.one{c:List AV}{t:Tw}(h:wi (.agg c) t)(hl:c.length=24):oE c [t]:=by
 have:=oE.cons h hl .nil
 rw[List.append_nil]at this;exact this
theorem oE.app:∀{cs:List AV} {ts:List Tw},oE cs ts->∀{c:List AV} {t:Tw},wi (.agg c) t->c.length=24->oE (cs++c) (ts++[t])
 |_,_,.nil,c,t,h,hl=>oE.one h hl
 |_,_,.cons h hl h',c,t,h1,DY=>by
  rw[aRd,aPr];exact .cons h hl (h'.app h1 DY)
theorem xe{c:List AV}{t:Tw}(h:wi (.agg c) t):c.length=24:=by obtain⟨jo,ji,jr,jh,kf,jY,kj,j6,kh,j7,ke,j8,kV,k7,kW,k6,lH,lK,lG,lI,lE,lL,lC,lF,e,-,-⟩:=h;simp only[AV.agg.injEq]at e;subst e;rfl
theorem EJ{c:List AV}{t:Tw}(h:wi (.agg c) t):∀v∈c,Flat v:=by
 obtain⟨jo,ji,jr,jh,kf,jY,kj,j6,kh,j7,ke,j8,kV,k7,kW,k6,lH,lK,lG,lI,lE,lL,lC,lF,e,h1,h2⟩:=h;simp only[AV.agg.injEq]at e;subst e;intro v hv;have f1:=rK h1;have f2:=rK h2;have hv':v∈[.bool jo,ji,.bool jr,jh,.bool kf,jY,.bool kj,j6,.bool kh,j7,.bool ke,j8]++[.bool kV,k7,.bool kW,k6,.bool lH,lK,.bool lG,lI,.bool lE,lL,.bool lC,lF]:=hv;rcases aLV.1 hv' with h|h
 ·exact f1 v h
 ·exact f2 v h
theorem JS{c:List AV}{t:Tw}(h:wi (.agg c) t):c.all df=true:=by obtain⟨jo,ji,jr,jh,kf,jY,kj,j6,kh,j7,ke,j8,kV,k7,kW,k6,lH,lK,lG,lI,lE,lL,lC,lF,e,h1,h2⟩:=h;simp only[AV.agg.injEq]at e;subst e;have A:=bP h1;have B:=bP h2;simp only[List.all_cons,List.all_nil,oK,A,B,aPt]
theorem x9{c:List AV}{t:Tw}(h:wi (.agg c) t):bE c=true:=by obtain⟨jo,ji,jr,jh,kf,jY,kj,j6,kh,j7,ke,j8,kV,k7,kW,k6,lH,lK,lG,lI,lE,lL,lC,lF,e,h1,h2⟩:=h;simp only[AV.agg.injEq]at e;subst e;have A:=bP h1;have B:=bP h2;simp only[bE,aU,A,B,aPt]
theorem oE.flat:∀{cs:List AV} {ts:List Tw},oE cs ts->∀v∈cs,Flat v
 |_,_,.nil,v,hv=>absurd hv (by simp)
 |_,_,.cons h hl h',v,hv=>by
  rcases aLV.1 hv with hv|hv
  ·exact EJ h v hv
  ·exact h'.flat v hv
theorem oE.pure:∀{cs:List AV} {ts:List Tw},oE cs ts->bE cs=true
 |_,_,.nil=>rfl
 |_,_,.cons h hl h'=>by
  rw[Bx,x9 h,h'.pure];rfl
theorem Ai{v:AV}{t:Tw}(h:wi v t):aU v=true:=by obtain⟨jo,ji,jr,jh,kf,jY,kj,j6,kh,j7,ke,j8,kV,k7,kW,k6,lH,lK,lG,lI,lE,lL,lC,lF,rfl,h1,h2⟩:=id h;exact x9 h
def sX(v:AV)(ts:List Tw):Prop:=(ts=[]/\v=.aH)∨(ts≠[]/\∃cs,v=.aK cs ts.length/\oE cs ts)
theorem fu{v:AV}{t:Tw}(h:wi v t):∃c,v=.agg c/\c.length=24/\c.all df=true/\bE c=true:=by obtain⟨jo,ji,jr,jh,kf,jY,kj,j6,kh,j7,ke,j8,kV,k7,kW,k6,lH,lK,lG,lI,lE,lL,lC,lF,rfl,h1,h2⟩:=id h;exact⟨_,rfl,rfl,JS h,x9 h⟩
theorem Ay{d:Int}{cl:Bool}{a0 a1 a2 b0 b1 b2 h:List UInt8}(vI:a0.length<=65536)(vH:a1.length<=65536)(vG:a2.length<=65536)(wS:b0.length<=65536)(wk:b1.length<=65536)(wh:b2.length<=65536){k l:Nat}(bd:BV k (cT 65536 a0 a1 a2))(bp:BV l (cT 65536 b0 b1 b2))(G7:k+l<=10000000000):
  ∃r,aP E 40 [bO 1 d cl a0 a1 a2 b0 b1 b2 h]=some r/\sX r [ed (cT 65536 a0 a1 a2) (cT 65536 b0 b1 b2)]:=by
 obtain⟨x,hx,ix⟩:=cw (E:=E) (s0:=a0) (s1:=a1) (s2:=a2) (by omega) (by omega) (by omega);obtain⟨y,hy,iy⟩:=cw (E:=E) (s0:=b0) (s1:=b1) (s2:=b2) (by omega) (by omega) (by omega);obtain⟨t,ht,it⟩:=dN (E:=E) ix iy bd bp G7;obtain⟨c,rfl,iD,vB,Es⟩:=fu it;obtain⟨jo,ji,jr,jh,kf,jY,kj,j6,kh,j7,ke,j8,rfl,-,-,-,P,O⟩:=bM ix;obtain⟨kV,k7,kW,k6,lH,lK,lG,lI,lE,lL,lC,lF,rfl,-,-,-,P1,O1⟩:=bM iy;have km:∀aL,aT E aL 70 1 [(0,AV.agg c)]=some (.aI aL 0 1 24 1,[(aL,.cells .live c)]):=fun aL=>ee fC rfl (by decide) (by decide) (by exact iD)
 have Kx:∀p q r aL,aV E [p,q,r,.cells .live c] aL .append [70,70] [.aH,.aI 3 0 1 24 1]=some (.aI aL 0 1 24 1,[(aL,.cells .live c)]):=fun p q r aL=>iQ fC (by decide) (by rfl) (by decide) iD vB (by decide)
 refine nY wc ?_;intro ts hl g0;unfold JU bO at*;have gg:∀p q r s,ow false [p,q,r,s,.cells .live c] [.aI 4 0 1 24 1]=some ([.aK c 1],[4]):=fun p q r s=>iJ (st:=.live) rfl (by decide) (by omega) (EJ it)
 simp only[↓aN,aO,↓aQ,aJ,↓reduceIte,aa,ah,ae,Tryz.f40,ai,hl,g0,hx,hy,ht,P,O,P1,O1,km,Kx,gg];exact .inr ⟨by simp,c,rfl,oE.one it iD⟩
theorem A5{d:Int}{cl:Bool}{a0 a1 a2 b0 b1 b2 h:List UInt8}(vI:a0.length<=65536)(vH:a1.length<=65536)(vG:a2.length<=65536)(wS:b0.length<=65536)(wk:b1.length<=65536)(wh:b2.length<=65536){k l:Nat}(bd:BV k (cT 65536 a0 a1 a2))(bp:BV l (cT 65536 b0 b1 b2))(G7:k+l<=10000000000):
  ∃r,aP E 40 [bO 2 d cl a0 a1 a2 b0 b1 b2 h]=some r/\sX r [kd (cT 65536 a0 a1 a2)]:=by
 obtain⟨x,hx,ix⟩:=cw (E:=E) (s0:=a0) (s1:=a1) (s2:=a2) (by omega) (by omega) (by omega);obtain⟨y,hy,iy⟩:=cw (E:=E) (s0:=b0) (s1:=b1) (s2:=b2) (by omega) (by omega) (by omega);obtain⟨t,ht,it⟩:=dU (E:=E) ix;obtain⟨c,rfl,iD,vB,Es⟩:=fu it;obtain⟨jo,ji,jr,jh,kf,jY,kj,j6,kh,j7,ke,j8,rfl,-,-,-,P,O⟩:=bM ix;obtain⟨kV,k7,kW,k6,lH,lK,lG,lI,lE,lL,lC,lF,rfl,-,-,-,P1,O1⟩:=bM iy;have km:∀aL,aT E aL 70 1 [(0,AV.agg c)]=some (.aI aL 0 1 24 1,[(aL,.cells .live c)]):=fun aL=>ee fC rfl (by decide) (by decide) (by exact iD)
 have Kx:∀p q r aL,aV E [p,q,r,.cells .live c] aL .append [70,70] [.aH,.aI 3 0 1 24 1]=some (.aI aL 0 1 24 1,[(aL,.cells .live c)]):=fun p q r aL=>iQ fC (by decide) (by rfl) (by decide) iD vB (by decide)
 refine nY wc ?_;intro ts hl g0;unfold JU bO at*;have gg:∀p q r s,ow false [p,q,r,s,.cells .live c] [.aI 4 0 1 24 1]=some ([.aK c 1],[4]):=fun p q r s=>iJ (st:=.live) rfl (by decide) (by omega) (EJ it)
 simp only[↓aN,aO,↓aQ,aJ,↓reduceIte,aa,ah,ae,Tryz.f40,ai,aD,hl,g0,hx,hy,ht,P,O,O1,km,Kx,gg];exact .inr ⟨by simp,c,rfl,oE.one it iD⟩
theorem Ba{d:Int}{cl:Bool}{a0 a1 a2 b0 b1 b2 h:List UInt8}(vI:a0.length<=65536)(vH:a1.length<=65536)(vG:a2.length<=65536)(wS:b0.length<=65536)(wk:b1.length<=65536)(wh:b2.length<=65536)(lh:h.length<=65536){k l q:Nat}(bq:Bq q (if cN 65536 h=0 then fh h else 0))(bd:BV k (cT 65536 a0 a1 a2))(bp:BV l (cT 65536 b0 b1 b2))(G7:k+l<=1000000000)(hq:q<=1000000000):
  ∃r,aP E 40 [bO 3 d cl a0 a1 a2 b0 b1 b2 h]=some r/\sX r [Bs (ed (cT 65536 a0 a1 a2) (cT 65536 b0 b1 b2)) (kd (dW (if cN 65536 h=0 then fh h else 0) (cT 65536 a0 a1 a2)))]:=by
 obtain⟨x,hx,ix⟩:=cw (E:=E) (s0:=a0) (s1:=a1) (s2:=a2) (by omega) (by omega) (by omega);obtain⟨y,hy,iy⟩:=cw (E:=E) (s0:=b0) (s1:=b1) (s2:=b2) (by omega) (by omega) (by omega);obtain⟨w,hw,iw⟩:=mZ (E:=E) (s:=h) (by omega);obtain⟨t1,Aa,N4⟩:=dN (E:=E) ix iy bd bp (by omega);obtain⟨s,hs,is⟩:=kn (E:=E) ix iw bd bq (by omega);obtain⟨t2,zy,LY⟩:=dU (E:=E) is;have bc:=jG bp bd;have bz:BV (q+k) v0:=⟨BA.mono (by have:=bd.1.pos;omega),BA.mono (by have:=bd.1.pos;omega),BA.mono (by have:=bd.1.pos;omega)⟩;obtain⟨t,ht,it⟩:=GQ (E:=E) N4 LY (k:=2*(l+k)+1) (l:=q+k) (bd.mono (by omega)) bc bz (BV.scale bq bd) (by omega);have pt1:=Ai N4;have pt2:=Ai LY;have ps:=ja is;obtain⟨c,rfl,iD,vB,Es⟩:=fu it;obtain⟨jo,ji,jr,jh,kf,jY,kj,j6,kh,j7,ke,j8,rfl,-,-,-,P,O⟩:=bM ix;obtain⟨kV,k7,kW,k6,lH,lK,lG,lI,lE,lL,lC,lF,rfl,-,-,-,P1,O1⟩:=bM iy;obtain⟨vw,u7,ve,vA,_,_,rfl,-,-,-,-⟩:=bX iw;have W:=aW _ iw;have km:∀aL,aT E aL 70 1 [(0,AV.agg c)]=some (.aI aL 0 1 24 1,[(aL,.cells .live c)]):=fun aL=>ee fC rfl (by decide) (by decide) (by exact iD)
 have Kx:∀p q r s aL,aV E [p,q,r,s,.cells .live c,eP] aL .append [70,70] [.aH,.aI 4 0 1 24 1]=some (.aI aL 0 1 24 1,[(aL,.cells .live c)]):=fun p q r s aL=>iQ fC (by decide) (by rfl) (by decide) iD vB (by decide)
 refine nY wc ?_;intro ts hl g0;unfold JU bO at*;have gg:∀p q r s t,ow false [p,q,r,s,t,.cells .live c] [.aI 5 0 1 24 1]=some ([.aK c 1],[5]):=fun p q r s t=>iJ (st:=.live) rfl (by decide) (by omega) (EJ it)
 simp only[↓aN,aO,↓aQ,aJ,↓reduceIte,aa,ah,ae,Tryz.f40,ai,aD,hl,g0,hx,hy,ht,hw,Aa,hs,zy,pt1,pt2,ps,W,P,O,P1,O1,km,Kx,gg];exact .inr ⟨by simp,c,rfl,oE.one it iD⟩
theorem qJ{d:Int}{cl:Bool}{a0 a1 a2 b0 b1 b2 h:List UInt8}(vI:a0.length<=65536)(vH:a1.length<=65536)(vG:a2.length<=65536)(wS:b0.length<=65536)(wk:b1.length<=65536)(wh:b2.length<=65536){k l:Nat}(bd:BV k (cT 65536 a0 a1 a2))(bp:BV l (cT 65536 b0 b1 b2))(G7:k+l<=10000000000):
  ∃r,aP E 40 [bO 4 d cl a0 a1 a2 b0 b1 b2 h]=some r/\sX r [ed (cT 65536 a0 a1 a2) (cT 65536 b0 b1 b2),kd (cT 65536 a0 a1 a2)]:=by
 obtain⟨x,hx,ix⟩:=cw (E:=E) (s0:=a0) (s1:=a1) (s2:=a2) (by omega) (by omega) (by omega);obtain⟨y,hy,iy⟩:=cw (E:=E) (s0:=b0) (s1:=b1) (s2:=b2) (by omega) (by omega) (by omega);obtain⟨t,ht,it⟩:=dN (E:=E) ix iy bd bp G7;obtain⟨c,rfl,iD,vB,Es⟩:=fu it;obtain⟨u,hu,iu⟩:=dU (E:=E) ix;obtain⟨c',rfl,HE,Wb,aoo⟩:=fu iu;obtain⟨jo,ji,jr,jh,kf,jY,kj,j6,kh,j7,ke,j8,rfl,-,-,-,P,O⟩:=bM ix;obtain⟨kV,k7,kW,k6,lH,lK,lG,lI,lE,lL,lC,lF,rfl,-,-,-,P1,O1⟩:=bM iy;have km:∀aL,aT E aL 70 2 [(0,AV.agg c),(1,AV.agg c')]=some (.aI aL 0 2 24 2,[(aL,.cells .live (c++c'))]):=fun aL=>Yk fC rfl (by decide) (by decide) iD HE
 have Kx:∀p q r aL,aV E [p,q,r,.cells .live (c++c'),eP] aL .append [70,70] [.aH,.aI 3 0 2 24 2]=some (.aI aL 0 2 24 2,[(aL,.cells .live (c++c'))]):=fun p q r aL=>NO fC (by decide) (by decide) (by decide) (by rfl) (by decide) (by rw[aMf];omega) (by rw[List.all_append,vB,Wb];rfl) (by decide)
 refine nY wc ?_;intro ts hl g0;unfold JU bO at*;have gg:∀p q r s,ow false [p,q,r,s,.cells .live (c++c')] [.aI 4 0 2 24 2]=some ([.aK (c++c') 2],[4]):=fun p q r s=>iJ (st:=.live) rfl (by decide) (by rw[aMf];omega) (oE.cons it iD (oE.one iu HE)).flat
 simp only[↓aN,aO,↓aQ,aJ,↓reduceIte,aa,ah,ae,Tryz.f40,ai,aD,hl,g0,hx,hy,ht,hu,P,O,P1,O1,km,Kx,gg];exact .inr ⟨by simp,c++c',rfl,oE.cons it iD (oE.one iu HE)⟩
def Dy:V3:=⟨(1:Int),(0:Int),(0:Int)⟩
def G4:V3:=⟨(0:Int),(1:Int),(0:Int)⟩
def G1:V3:=⟨(0:Int),(0:Int),(1:Int)⟩
theorem kC:BV 1 Dy/\BV 1 G4/\BV 1 G1:=by have h1:Bq 1 ((1:Int):Rat):=Bq.int (z:=1) (by decide) (by omega);have h0:Bq 1 ((0:Int):Rat):=Bq.int (z:=0) (by decide) (by omega);exact⟨⟨h1,h0,h0⟩,⟨h0,h1,h0⟩,⟨h0,h0,h1⟩⟩
theorem Bh{d:Int}{cl:Bool}{a0 a1 a2 b0 b1 b2 h:List UInt8}(vI:a0.length<=65536)(vH:a1.length<=65536)(vG:a2.length<=65536)(wS:b0.length<=65536)(wk:b1.length<=65536)(wh:b2.length<=65536){l:Nat}(bp:BV l (cT 65536 b0 b1 b2))(G7:l<=1000000000):
  ∃r,aP E 40 [bO 5 d cl a0 a1 a2 b0 b1 b2 h]=some r/\sX r [ed Dy (cT 65536 b0 b1 b2),ed G4 (cT 65536 b0 b1 b2),ed G1 (cT 65536 b0 b1 b2)]:=by
 obtain⟨x,hx,ix⟩:=cw (E:=E) (s0:=a0) (s1:=a1) (s2:=a2) (by omega) (by omega) (by omega);obtain⟨y,hy,iy⟩:=cw (E:=E) (s0:=b0) (s1:=b1) (s2:=b2) (by omega) (by omega) (by omega);obtain⟨un,HU,zk,zh,zd,zA,Cx,Cu,CQ,CI,CL,Ce,Cl,BR,CA,BH,BO,CX,Dc,BX,Ca,CE,Cc,BE,Cw,BJ,vw,u7,ve,vA,yH,yS,yF,yC,yn,yB,yt,yR,rfl,iu,iv,iw⟩:=qR (E:=E);have U:=bP iu;have V':=bP iv;have W:=bP iw;have Ue:fD true 12 [.bool zk,zh,.bool zd,zA,.bool Cx,Cu,.bool CQ,CI,.bool CL,Ce,.bool Cl,BR,.bool CA,BH,.bool BO,CX,.bool Dc,BX,.bool Ca,CE,.bool Cc,BE,.bool Cw,BJ,.bool vw,u7,.bool ve,vA,.bool yH,yS,.bool yF,yC,.bool yn,yB,.bool yt,yR] 0=some (.agg [.bool zk,zh,.bool zd,zA,.bool Cx,Cu,.bool CQ,CI,.bool CL,Ce,.bool Cl,BR]):=rfl;have QI:fD true 12 [.bool zk,zh,.bool zd,zA,.bool Cx,Cu,.bool CQ,CI,.bool CL,Ce,.bool Cl,BR,.bool CA,BH,.bool BO,CX,.bool Dc,BX,.bool Ca,CE,.bool Cc,BE,.bool Cw,BJ,.bool vw,u7,.bool ve,vA,.bool yH,yS,.bool yF,yC,.bool yn,yB,.bool yt,yR] 12=some (.agg [.bool CA,BH,.bool BO,CX,.bool Dc,BX,.bool Ca,CE,.bool Cc,BE,.bool Cw,BJ]):=rfl;have Sn:fD true 12 [.bool zk,zh,.bool zd,zA,.bool Cx,Cu,.bool CQ,CI,.bool CL,Ce,.bool Cl,BR,.bool CA,BH,.bool BO,CX,.bool Dc,BX,.bool Ca,CE,.bool Cc,BE,.bool Cw,BJ,.bool vw,u7,.bool ve,vA,.bool yH,yS,.bool yF,yC,.bool yn,yB,.bool yt,yR] 24=some (.agg [.bool vw,u7,.bool ve,vA,.bool yH,yS,.bool yF,yC,.bool yn,yB,.bool yt,yR]):=rfl;obtain⟨t0,Ie,NB⟩:=dN (E:=E) (d:=Dy) iu iy kC.1 bp (by omega);obtain⟨c0,rfl,rL,Gj,aac⟩:=fu NB;obtain⟨t1,Aa,N4⟩:=dN (E:=E) (d:=G4) iv iy kC.2.1 bp (by omega);obtain⟨c1,rfl,zG,PY,aiz⟩:=fu N4;obtain⟨t2,zy,LY⟩:=dN (E:=E) (d:=G1) iw iy kC.2.2 bp (by omega);obtain⟨c2,rfl,yQ,Qe,agC⟩:=fu LY;obtain⟨jo,ji,jr,jh,kf,jY,kj,j6,kh,j7,ke,j8,rfl,-,-,-,P,O⟩:=bM ix;obtain⟨kV,k7,kW,k6,lH,lK,lG,lI,lE,lL,lC,lF,rfl,-,-,-,P1,O1⟩:=bM iy;have Gr:∀aL,aT E aL 70 1 [(0,AV.agg c0)]=some (.aI aL 0 1 24 1,[(aL,.cells .live c0)]):=fun aL=>ee fC rfl (by decide) (by decide) rL
 have Hs:∀aL,aT E aL 70 1 [(0,AV.agg c1)]=some (.aI aL 0 1 24 1,[(aL,.cells .live c1)]):=fun aL=>ee fC rfl (by decide) (by decide) zG
 have Kb:∀aL,aT E aL 70 1 [(0,AV.agg c2)]=some (.aI aL 0 1 24 1,[(aL,.cells .live c2)]):=fun aL=>ee fC rfl (by decide) (by decide) yQ
 have C1:oE c0 [ed Dy (cT 65536 b0 b1 b2)]:=oE.one NB rL;have C2:=C1.app N4 zG;have C3:=C2.app LY yQ;have L1:=C1.len;have L2:=C2.len;have L3:=C3.len;simp only[aMm,List.length_nil,aMf,Nat.zero_add,ah,ak]at L1 L2 L3;have Ff:∀y0 y1 y2 y3 aL,aV E [y0,y1,y2,y3,.cells .live c0] aL .append [70,70] [.aH,.aI 4 0 1 24 1]=some (.aI aL 0 1 24 1,[(aL,.cells .live c0)]):=fun y0 y1 y2 y3 aL=>iQ fC (by decide) (by rfl) (by decide) rL Gj (by decide)
 have O9:∀y0 y1 y2 y3 y4 y6 aL,aV E [y0,y1,y2,y3,y4,.cells .live c0,y6,.cells .live c1] aL .append [70,70] [.aI 5 0 1 24 1,.aI 7 0 1 24 1]=some (.aI aL 0 2 24 2,[(5,.cells .dead []),(aL,.cells .live (c0++c1))]):=fun y0 y1 y2 y3 y4 y6 aL=>np fC (by decide) (by decide) (by rfl) (by first|omega|(simp only[aMf];omega)) (st:=.live) (by rfl) (by decide) zG PY (by decide) (by decide)
 have Qo:∀y0 y1 y2 y3 y4 y5 y6 y7 y9 aL,aV E [y0,y1,y2,y3,y4,y5,y6,y7,.cells .live (c0++c1),y9,.cells .live c2] aL .append [70,70] [.aI 8 0 2 24 2,.aI 10 0 1 24 1]=some (.aI aL 0 3 24 3,[(8,.cells .dead []),(aL,.cells .live ((c0++c1)++c2))]):=fun y0 y1 y2 y3 y4 y5 y6 y7 y9 aL=>np fC (by decide) (by decide) (by rfl) (by first|omega|(simp only[aMf];omega)) (st:=.live) (by rfl) (by decide) yQ Qe (by decide) (by decide)
 have gg:∀y0 y1 y2 y3 y4 y5 y6 y7 y8 y9 F4 FH M9 Wy,ow false [y0,y1,y2,y3,y4,y5,y6,y7,y8,y9,F4,.cells .live ((c0++c1)++c2),FH,M9,Wy] [.aI 11 0 3 24 3]=some ([.aK ((c0++c1)++c2) 3],[11]):=fun y0 y1 y2 y3 y4 y5 y6 y7 y8 y9 F4 FH M9 Wy=>iJ (st:=.live) rfl (by decide) (by first|omega|(simp only[aMf];omega)) C3.flat
 refine nY wc ?_;intro ts hl g0;unfold JU bO at*;simp only[↓aN,aO,↓aQ,aJ,↓reduceIte,aa,ah,ae,Tryz.f40,ai,aD,hl,g0,hx,hy,O,O1,HU];refine ew 4 ?_;simp only[↓aN,aO,↓aQ,aJ,↓reduceIte,aa,ah,ak,ae,an,ao,aq,aA,hl,P1,U,V',W,Ue,QI,Sn,uj,zZ,ED,kI,HU,Ie,Gr,Ff,Aa,Hs,O9,zy,Kb,Qo];refine ew 4 ?_;simp only[↓aN,aO,aJ,↓reduceIte,aa,ah,ak,ae,an,ao,aq,aA,aD,hl,U,V',W,Ue,QI,Sn,uj,zZ,ED,gg];exact .inr ⟨by simp,_,rfl,C3⟩
theorem KN{d:Int}{cl:Bool}{a0 a1 a2 b0 b1 b2 h:List UInt8}(vI:a0.length<=65536)(vH:a1.length<=65536)(vG:a2.length<=65536)(wS:b0.length<=65536)(wk:b1.length<=65536)(wh:b2.length<=65536){l:Nat}(bp:BV l (cT 65536 b0 b1 b2))(G7:l<=1000000000):
  ∃r,aP E 40 [bO 7 d cl a0 a1 a2 b0 b1 b2 h]=some r/\sX r [ed Dy (cT 65536 b0 b1 b2),ed G4 (cT 65536 b0 b1 b2),ed G1 (cT 65536 b0 b1 b2),kd Dy,kd G4,kd G1]:=by
 obtain⟨x,hx,ix⟩:=cw (E:=E) (s0:=a0) (s1:=a1) (s2:=a2) (by omega) (by omega) (by omega);obtain⟨y,hy,iy⟩:=cw (E:=E) (s0:=b0) (s1:=b1) (s2:=b2) (by omega) (by omega) (by omega);obtain⟨un,HU,zk,zh,zd,zA,Cx,Cu,CQ,CI,CL,Ce,Cl,BR,CA,BH,BO,CX,Dc,BX,Ca,CE,Cc,BE,Cw,BJ,vw,u7,ve,vA,yH,yS,yF,yC,yn,yB,yt,yR,rfl,iu,iv,iw⟩:=qR (E:=E);have U:=bP iu;have V':=bP iv;have W:=bP iw;have Ue:fD true 12 [.bool zk,zh,.bool zd,zA,.bool Cx,Cu,.bool CQ,CI,.bool CL,Ce,.bool Cl,BR,.bool CA,BH,.bool BO,CX,.bool Dc,BX,.bool Ca,CE,.bool Cc,BE,.bool Cw,BJ,.bool vw,u7,.bool ve,vA,.bool yH,yS,.bool yF,yC,.bool yn,yB,.bool yt,yR] 0=some (.agg [.bool zk,zh,.bool zd,zA,.bool Cx,Cu,.bool CQ,CI,.bool CL,Ce,.bool Cl,BR]):=rfl;have QI:fD true 12 [.bool zk,zh,.bool zd,zA,.bool Cx,Cu,.bool CQ,CI,.bool CL,Ce,.bool Cl,BR,.bool CA,BH,.bool BO,CX,.bool Dc,BX,.bool Ca,CE,.bool Cc,BE,.bool Cw,BJ,.bool vw,u7,.bool ve,vA,.bool yH,yS,.bool yF,yC,.bool yn,yB,.bool yt,yR] 12=some (.agg [.bool CA,BH,.bool BO,CX,.bool Dc,BX,.bool Ca,CE,.bool Cc,BE,.bool Cw,BJ]):=rfl;have Sn:fD true 12 [.bool zk,zh,.bool zd,zA,.bool Cx,Cu,.bool CQ,CI,.bool CL,Ce,.bool Cl,BR,.bool CA,BH,.bool BO,CX,.bool Dc,BX,.bool Ca,CE,.bool Cc,BE,.bool Cw,BJ,.bool vw,u7,.bool ve,vA,.bool yH,yS,.bool yF,yC,.bool yn,yB,.bool yt,yR] 24=some (.agg [.bool vw,u7,.bool ve,vA,.bool yH,yS,.bool yF,yC,.bool yn,yB,.bool yt,yR]):=rfl;obtain⟨t0,Ie,NB⟩:=dN (E:=E) (d:=Dy) iu iy kC.1 bp (by omega);obtain⟨c0,rfl,rL,Gj,aac⟩:=fu NB;obtain⟨t1,Aa,N4⟩:=dN (E:=E) (d:=G4) iv iy kC.2.1 bp (by omega);obtain⟨c1,rfl,zG,PY,aiz⟩:=fu N4;obtain⟨t2,zy,LY⟩:=dN (E:=E) (d:=G1) iw iy kC.2.2 bp (by omega);obtain⟨c2,rfl,yQ,Qe,agC⟩:=fu LY;obtain⟨t3,ht3,it3⟩:=dU (E:=E) (d:=Dy) iu;obtain⟨c3,rfl,Qx,akC,azb⟩:=fu it3;obtain⟨t4,ht4,it4⟩:=dU (E:=E) (d:=G4) iv;obtain⟨c4,rfl,Qq,aiK,avy⟩:=fu it4;obtain⟨t5,ht5,it5⟩:=dU (E:=E) (d:=G1) iw;obtain⟨c5,rfl,QA,agT,azS⟩:=fu it5;obtain⟨jo,ji,jr,jh,kf,jY,kj,j6,kh,j7,ke,j8,rfl,-,-,-,P,O⟩:=bM ix;obtain⟨kV,k7,kW,k6,lH,lK,lG,lI,lE,lL,lC,lF,rfl,-,-,-,P1,O1⟩:=bM iy;have Gr:∀aL,aT E aL 70 1 [(0,AV.agg c0)]=some (.aI aL 0 1 24 1,[(aL,.cells .live c0)]):=fun aL=>ee fC rfl (by decide) (by decide) rL
 have Hs:∀aL,aT E aL 70 1 [(0,AV.agg c1)]=some (.aI aL 0 1 24 1,[(aL,.cells .live c1)]):=fun aL=>ee fC rfl (by decide) (by decide) zG
 have Kb:∀aL,aT E aL 70 1 [(0,AV.agg c2)]=some (.aI aL 0 1 24 1,[(aL,.cells .live c2)]):=fun aL=>ee fC rfl (by decide) (by decide) yQ
 have ajf:∀aL,aT E aL 70 1 [(0,AV.agg c3)]=some (.aI aL 0 1 24 1,[(aL,.cells .live c3)]):=fun aL=>ee fC rfl (by decide) (by decide) Qx
 have aiO:∀aL,aT E aL 70 1 [(0,AV.agg c4)]=some (.aI aL 0 1 24 1,[(aL,.cells .live c4)]):=fun aL=>ee fC rfl (by decide) (by decide) Qq
 have ajN:∀aL,aT E aL 70 1 [(0,AV.agg c5)]=some (.aI aL 0 1 24 1,[(aL,.cells .live c5)]):=fun aL=>ee fC rfl (by decide) (by decide) QA
 have C1:oE c0 [ed Dy (cT 65536 b0 b1 b2)]:=oE.one NB rL;have C2:=C1.app N4 zG;have C3:=C2.app LY yQ;have C4:=C3.app it3 Qx;have C5:=C4.app it4 Qq;have C6:=C5.app it5 QA;have L1:=C1.len;have L2:=C2.len;have L3:=C3.len;have L4:=C4.len;have L5:=C5.len;have L6:=C6.len;simp only[aMm,List.length_nil,aMf,Nat.zero_add,ah,ak]at L1 L2 L3 L4 L5 L6;have Ff:∀y0 y1 y2 y3 aL,aV E [y0,y1,y2,y3,.cells .live c0] aL .append [70,70] [.aH,.aI 4 0 1 24 1]=some (.aI aL 0 1 24 1,[(aL,.cells .live c0)]):=fun y0 y1 y2 y3 aL=>iQ fC (by decide) (by rfl) (by decide) rL Gj (by decide)
 have O9:∀y0 y1 y2 y3 y4 y6 aL,aV E [y0,y1,y2,y3,y4,.cells .live c0,y6,.cells .live c1] aL .append [70,70] [.aI 5 0 1 24 1,.aI 7 0 1 24 1]=some (.aI aL 0 2 24 2,[(5,.cells .dead []),(aL,.cells .live (c0++c1))]):=fun y0 y1 y2 y3 y4 y6 aL=>np fC (by decide) (by decide) (by rfl) (by first|omega|(simp only[aMf];omega)) (st:=.live) (by rfl) (by decide) zG PY (by decide) (by decide)
 have Qo:∀y0 y1 y2 y3 y4 y5 y6 y7 y9 aL,aV E [y0,y1,y2,y3,y4,y5,y6,y7,.cells .live (c0++c1),y9,.cells .live c2] aL .append [70,70] [.aI 8 0 2 24 2,.aI 10 0 1 24 1]=some (.aI aL 0 3 24 3,[(8,.cells .dead []),(aL,.cells .live ((c0++c1)++c2))]):=fun y0 y1 y2 y3 y4 y5 y6 y7 y9 aL=>np fC (by decide) (by decide) (by rfl) (by first|omega|(simp only[aMf];omega)) (st:=.live) (by rfl) (by decide) yQ Qe (by decide) (by decide)
 have ajx:∀y0 y1 y2 y3 y4 y5 y6 y7 y8 y9 F4 FH aL,aV E [y0,y1,y2,y3,y4,y5,y6,y7,y8,y9,F4,.cells .live ((c0++c1)++c2),FH,.cells .live c3] aL .append [70,70] [.aI 11 0 3 24 3,.aI 13 0 1 24 1]=some (.aI aL 0 4 24 4,[(11,.cells .dead []),(aL,.cells .live (((c0++c1)++c2)++c3))]):=fun y0 y1 y2 y3 y4 y5 y6 y7 y8 y9 F4 FH aL=>np fC (by decide) (by decide) (by rfl) (by first|omega|(simp only[aMf];omega)) (st:=.live) (by rfl) (by decide) Qx akC (by decide) (by decide)
 have agL:∀y0 y1 y2 y3 y4 y5 y6 y7 y8 y9 F4 Sm FH M9 R7 aL,aV E [y0,y1,y2,y3,y4,y5,y6,y7,y8,y9,F4,Sm,FH,M9,.cells .live (((c0++c1)++c2)++c3),R7,.cells .live c4] aL .append [70,70] [.aI 14 0 4 24 4,.aI 16 0 1 24 1]=some (.aI aL 0 5 24 5,[(14,.cells .dead []),(aL,.cells .live ((((c0++c1)++c2)++c3)++c4))]):=fun y0 y1 y2 y3 y4 y5 y6 y7 y8 y9 F4 Sm FH M9 R7 aL=>np fC (by decide) (by decide) (by rfl) (by first|omega|(simp only[aMf];omega)) (st:=.live) (by rfl) (by decide) Qq aiK (by decide) (by decide)
 have ajB:∀y0 y1 y2 y3 y4 y5 y6 y7 y8 y9 F4 Sm FH M9 Wy R7 y16 y18 aL,aV E [y0,y1,y2,y3,y4,y5,y6,y7,y8,y9,F4,Sm,FH,M9,Wy,R7,y16,.cells .live ((((c0++c1)++c2)++c3)++c4),y18,.cells .live c5] aL .append [70,70] [.aI 17 0 5 24 5,.aI 19 0 1 24 1]=some (.aI aL 0 6 24 6,[(17,.cells .dead []),(aL,.cells .live (((((c0++c1)++c2)++c3)++c4)++c5))]):=fun y0 y1 y2 y3 y4 y5 y6 y7 y8 y9 F4 Sm FH M9 Wy R7 y16 y18 aL=>np fC (by decide) (by decide) (by rfl) (by first|omega|(simp only[aMf];omega)) (st:=.live) (by rfl) (by decide) QA agT (by decide) (by decide)
 have gg:∀y0 y1 y2 y3 y4 y5 y6 y7 y8 y9 F4 Sm FH M9 Wy R7 y16 y17 y18 y19,ow false [y0,y1,y2,y3,y4,y5,y6,y7,y8,y9,F4,Sm,FH,M9,Wy,R7,y16,y17,y18,y19,.cells .live (((((c0++c1)++c2)++c3)++c4)++c5)] [.aI 20 0 6 24 6]=some ([.aK (((((c0++c1)++c2)++c3)++c4)++c5) 6],[20]):=fun y0 y1 y2 y3 y4 y5 y6 y7 y8 y9 F4 Sm FH M9 Wy R7 y16 y17 y18 y19=>iJ (st:=.live) rfl (by decide) (by first|omega|(simp only[aMf];omega)) C6.flat
 refine nY wc ?_;intro ts hl g0;unfold JU bO at*;simp only[↓aN,aO,↓aQ,aJ,↓reduceIte,aa,ah,ae,Tryz.f40,ai,aD,hl,g0,hx,hy,O,O1,HU];refine ew 4 ?_;simp only[↓aN,aO,↓aQ,aJ,↓reduceIte,aa,ah,ak,ae,an,ao,aq,aA,hl,P1,U,V',W,Ue,QI,Sn,uj,zZ,ED,kI,HU,Ie,Gr,Ff,Aa,Hs,O9,zy,Kb,Qo];refine ew 4 ?_;simp only[↓aN,aO,↓aQ,aJ,↓reduceIte,aa,ah,ak,ae,an,ao,aq,aA,hl,U,V',W,Ue,QI,Sn,uj,zZ,ED,kI,gg,ht3,ajf,ajx,ht4,aiO,agL,ht5,ajN,ajB];exact .inr ⟨by simp,_,rfl,C6⟩
end Go.Proofs.YtblnjkjjedanaaaGreatDoor
