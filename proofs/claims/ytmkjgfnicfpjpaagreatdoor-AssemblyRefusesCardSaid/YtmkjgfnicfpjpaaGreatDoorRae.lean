/- Lemmas for AssemblyRefuses; no condition. -/
import Derived.Test.YtmkjgfnicfpjpaaGreatDoorRad
set_option linter.all false
set_option maxHeartbeats 100000000
set_option maxRecDepth 100000
noncomputable section
open Bool renaming false_eq_true->aLT,and_eq_true->aM6,false_and->aOn
open Option renaming map_eq_some_iff->aLs,map_some->aMi
open List renaming getElem?_eq_some_iff->aLq,replicate->aLu,getElem?_set_ne->aOj,mem_cons_of_mem->aOk,mem_map->aNg,all_eq_true->aMf,mem_cons->aNe,mem_singleton->aNh,getElem?_set_self->aOl,mem_append->aM7,foldl_cons->aNd,mem_range->aOo,pairwise_cons->aOp,ext_getElem?->aOq,getElem?_append_left->aOr,mem_append_right->aNZ,getElem?_eq_none->aLv,mem_append_left->aOu,pairwise_append->aOv,mem_cons_self->aOw,flatMap_cons->aNj
open Array renaming getElem?_eq_some_iff->aOi,all_eq_true_iff_forall_mem->aOm,getElem?_toList->aLR
open Nat renaming le_max_right->aOs,le_max_left->aOt
namespace Dv
open Go Go.RowKit
section
variable{E:Env}{pc:Pc}{ic yc:Ic}{dr:Bool}{ts ts':List AV}{H H':Hp}{aR nid':Nat}{o:Oper}{b:Nat}
def kj(H:Hp)(aR:Nat)(l:List (Nat×cE)):Prop:=∀p,p∈l->p.2≠dp/\(p.1=aR∨∃dI,H[p.1]?=some dI/\dI.st=.live)
def kj.new{dI:cE}(h:dI.st=.live):kj H aR [(aR,dI)]:=fun p hp=>by
 simp only[aNh]at hp;subst hp
 exact⟨fun q=>(by rw[show dI=dp from q]at h;cases h),.inl rfl⟩
def kj.nil:kj H aR []:=fun p hp=>by simp at hp
def kj.one{k:Nat}{dI blk':cE}(h:dI.st=.live)(hk:H[k]?=some blk')(hl:blk'.st=.live):kj H aR [(k,dI)]:=fun p hp=>by
 simp only[aNh]at hp;subst hp
 exact⟨fun q=>(by rw[show dI=dp from q]at h;cases h),.inr ⟨blk',hk,hl⟩⟩
def HY{t:Nat}{p x:AV}{l:List (Nat×cE)}(h:fh E H t p x=some l):kj H aR l/\∀H',(∀q,q∈l->H'[q.1]?=H[q.1]?)->fh E H' t p x=some l:=by
 unfold fh at h;split at h
 case h_2=>cases h
 rename_i b off i hi;split at h
 case h_2=>cases h
 rename_i cs hb;split at h
 ·cases h
 rename_i hc;cases h;refine⟨.one rfl hb rfl,fun H' hw=>?_⟩;unfold fh;rw[hi];simp only;rw[hw _ (aNh.2 rfl),hb];simp only;rw[if_neg hc]
def qK{t:Nat}{m k x:AV}{l:List (Nat×cE)}(h:fV E H t m k x=some l):kj H aR l/\∀H',(∀q,q∈l->H'[q.1]?=H[q.1]?)->fV E H' t m k x=some l:=by
 have h0:=h;unfold fV at h;split at h
 case h_2=>cases h
 rename_i kt et _ _ _ _ _ b hi;split at h
 case h_2=>cases h
 rename_i ks vs hb;have main:(∃dI:cE,dI.st=.live/\l=[(b,dI)])->kj H aR l/\∀H',(∀q,q∈l->H'[q.1]?=H[q.1]?)->fV E H' t (.eR b) k x=some l:=by rintro⟨dI,hl,rfl⟩;refine⟨.one hl hb rfl,fun H' hw=>?_⟩;unfold fV at h0⊢;rw[hi]at h0⊢;simp only at h0⊢;rw[hw (b,dI) (by simp)];exact h0
 split at h
 ·cases h
 split at h
 ·split at h
  ·split at h
   ·cases h;exact main ⟨_,rfl,rfl⟩
   ·cases h
  ·cases h
 ·cases h;exact main ⟨_,rfl,rfl⟩
 ·cases h
def DT{n:Nat}{x:AV}{r:List AV}(hr:∀b,b∈eg x->pB H H' b)(h:oM H n x=some r):oM H' n x=some r:=by
 unfold oM at h⊢;split at h
 ·exact h
 ·exact xZ hr h
def OS{ei:sk}{x:AV}{r:Nat×List AV}(hr:∀b,b∈eg x->pB H H' b)(h:sD H ei false x=some r):sD H' ei false x=some r:=by
 unfold sD at h⊢;simp only[aLT,if_false]at h⊢;split at h
 case h_2=>cases h
 rename_i n xs h1 h2;rw[h1,DT hr h2];exact h
def Eo{t:Nat}{s x v:AV}{l:List (Nat×cE)}(h:er E H aR false t s x=some (v,l)):
  kj H aR l/\∀H',(∀b,b∈eg x->pB H H' b)->(∀q,q∈l->H'[q.1]?=H[q.1]?)->er E H' aR false t s x=some (v,l):=by
 unfold er at h;split at h
 case h_2=>cases h
 rename_i e _ _ _ _ _ ht;split at h
 case h_2=>cases h
 rename_i ei he;split at h
 case h_2=>cases h
 rename_i n xs ph;have red:∀H',(∀b,b∈eg x->pB H H' b)->er E H' aR false t s x=
   (if n=0 then(match s with|.aH|.dw|.aI .. |.aK .. =>some (s,[])|_=>none)else
    if ei.size=0||!xs.all cN||ei.zero.isNone then none else
    match s with
    |.aH=>
     if n*ei.bytes<=fH/\n<=4611686018427387904 then some (.aI aR 0 n ei.size n,[(aR,.cells .live xs)])else none
    |.aI b off len esz kc=>match H'[b]? with
     |some (.cells .live cs)=>
      if len+n<=kc then(if esz=ei.size/\off+(len+n)*esz<=cs.length then
       some (.aI b off (len+n) esz kc,[(b,.cells .live (dA cs (off+len*esz) xs))])else none)else
      if esz=ei.size/\off+len*esz<=cs.length/\(len+n)*ei.bytes<=fH/\len+n<=4611686018427387904 then
       some (.aI aR 0 (len+n) esz (len+n),[(b,.cells .dead []),(aR,.cells .live ((cs.drop off).take (len*esz)++xs))])
      else none
     |_=>none
    |_=>none):=fun H' hr=>by
  unfold er;rw[ht];simp only;rw[he];simp only;rw[OS hr ph];cases s<;>rfl
 split at h
 ·rename_i hn;have hl:l=[]:=by
   split at h<;>first|(cases h;rfl)|cases h
  subst hl;refine⟨.nil,fun H' hr _=>?_⟩;rw[red H' hr,if_pos hn,<-h];cases s<;>rfl
 rename_i hn;split at h
 ·cases h
 rename_i hc;cases s<;>simp only at h<;>try (cases h;done)
 case aH=>
  have hl:l=[(aR,.cells .live xs)]:=by
   split at h
   ·cases h;rfl
   ·cases h
  subst hl;refine⟨.new rfl,fun H' hr _=>?_⟩;rw[red H' hr,if_neg hn,if_neg hc];exact h
 case aI b off len esz kc=>
  split at h
  case h_2=>cases h
  rename_i cs hb;have fin:∀dI,(b,dI)∈l->∀H',(∀b,b∈eg x->pB H H' b)->(∀q,q∈l->H'[q.1]?=H[q.1]?)->er E H' aR false t (.aI b off len esz kc) x=some (v,l):=by intro dI hm H' hr hw;rw[red H' hr,if_neg hn,if_neg hc];simp only;rw[hw (b,dI) hm,hb];exact h
  split at h
  ·split at h
   ·cases h;exact⟨.one rfl hb rfl,fin _ (aNh.2 rfl)⟩
   ·cases h
  ·split at h
   ·cases h;refine⟨fun p hp=>?_,fin (.cells .dead []) (by simp)⟩;simp only[aNe,List.not_mem_nil,or_false]at hp;rcases hp with rfl|rfl
    ·exact⟨by simp[dp],.inr ⟨_,hb,rfl⟩⟩
    ·exact⟨by simp[dp],.inl rfl⟩
   ·cases h
def xS{t:Nat}{s x v:AV}{l:List (Nat×cE)}(h:kT E aR t s x=some (v,l)):kj H aR l:=by
 unfold kT at h;split at h
 case h_2=>cases h
 split at h
 case h_2=>cases h
 split at h
 case h_2=>cases h
 split at h
 ·cases h;exact .new rfl
 ·cases h
def IY{t:Nat}{d x v:AV}{l:List (Nat×cE)}(h:td E H t d x=some (v,l)):
  kj H aR l/\∀H',(∀b,b∈eg x->pB H H' b)->(∀q,q∈l->H'[q.1]?=H[q.1]?)->td E H' t d x=some (v,l):=by
 unfold td at h;split at h
 case h_2=>cases h
 rename_i e _ _ _ _ _ ht;split at h
 case h_2=>cases h
 rename_i ei he;split at h
 case h_2=>cases h
 rename_i dn xn xs h1 h2 h3;have red:∀d',d'=d->∀H',(∀b,b∈eg x->pB H H' b)->td E H' t d x=
   (let n:=min xn dn
    if n=0 then(match d' with|.aH|.dw|.aI .. =>some (.int .i64 0,[])|_=>none)else
    match d' with
    |.aI b off _ esz _=>match H'[b]? with
     |some (.cells .live cs)=>
      if esz=ei.size/\off+n*esz<=cs.length/\xs.all cN then
       some (.int .i64 n,[(b,.cells .live (dA cs off (xs.take (n*esz))))])
      else none
     |_=>none
    |_=>none):=fun d' hd H' hr=>by
  subst hd;unfold td;rw[ht];simp only;rw[he];simp only;rw[h1,h2,DT hr h3];cases d'<;>rfl
 simp only at h red;split at h
 ·rename_i hn;have hl:l=[]:=by
   split at h<;>first|(cases h;rfl)|cases h
  subst hl;refine⟨.nil,fun H' hr _=>?_⟩;rw[red d rfl H' hr,if_pos hn,<-h];cases d<;>rfl
 rename_i hn;cases d<;>simp only at h<;>try (cases h;done)
 case aI b off len esz kc=>
  split at h
  case h_2=>cases h
  rename_i cs hb;split at h
  case isFalse=>cases h
  rename_i hc;cases h;refine⟨.one rfl hb rfl,fun H' hr hw=>?_⟩;rw[red _ rfl H' hr,if_neg hn];simp only;rw[hw _ (aNh.2 rfl),hb];simp only;rw[if_pos hc]
def agX(hc:iJ E o=.s){v:AV}{e:cF}(h:dH E pc ic yc true ts H aR o=some (v,e)):
  ∃l,e=.bJ l/\kj H aR l/\∀H',(∀b,b∈lJ ts o->pB H H' b)->(∀q,q∈l->H'[q.1]?=H[q.1]?)->dH E pc ic yc true ts H' aR o=some (v,e):=by
 have key:∀{r:Option (AV×List (Nat×cE))},(r.map fun x=>(x.1,cF.bJ x.2))=some (v,e)->∃l,e=.bJ l/\r=some (v,l):=fun{r} h=>by
  rw[aLs]at h;obtain⟨⟨a,l⟩,q1,q⟩:=h;cases q;exact⟨l,rfl,q1⟩
 have ak0:∀{r:Option (List (Nat×cE))},(r.map fun l=>(bT,cF.bJ l))=some (v,e)->∃l,e=.bJ l/\v=bT/\r=some l:=fun{r} h=>by
  rw[aLs]at h;obtain⟨l,q1,q⟩:=h;cases q;exact⟨l,rfl,rfl,q1⟩
 have Ki:∀{r:Option (AV×List (Nat×cE))},(r.map fun x=>(x.1,cF.bJ x.2))=some (v,e)->(∀a l,r=some (a,l)->kj H aR l)->∃l,e=.bJ l/\kj H aR l:=fun{r} h hk=>by
  obtain⟨l,h1,h2⟩:=key h;exact⟨l,h1,hk _ _ h2⟩
 have AB:∀(H':Hp),(∀b,b∈lJ ts o->pB H H' b)->∀x,x∈o.op.operands.toList->∀v,bU ts x=some v->∀b,b∈eg v->pB H H' b:=
  fun H' hr x hx v hv b hb=>hr b (F7 hx hv hb)
 unfold dH at h;unfold iJ at hc;unfold dH;cases ho:o.op<;>simp only[ho]at hc h⊢<;>try (cases hc;done)
 case alloc t=>
  obtain⟨l,h1,h2⟩:=Ki h (fun a l q=>by
   rw[aLs]at q;obtain⟨_,_,q⟩:=q;cases q;exact .new rfl)
  exact⟨l,h1,h2,fun _ _ _=>h⟩
 case box t x=>
  obtain⟨l,h1,h2⟩:=Ki h (fun a l q=>by
   rw[aLs]at q;obtain⟨_,_,q⟩:=q;cases q;exact .new rfl)
  exact⟨l,h1,h2,fun _ _ _=>h⟩
 case buildSlice t len ps=>
  split at h
  case h_2=>cases h
  split at h
  case h_2=>cases h
  split at h
  case h_2=>cases h
  split at h
  case isFalse=>cases h
  rename_i yj;obtain⟨l,h1,h2⟩:=Ki h (fun a l q=>by
   rw[aLs]at q;obtain⟨_,_,q⟩:=q;cases q;exact .new rfl)
  exact⟨l,h1,h2,fun _ _ _=>by rw[if_pos yj];exact h⟩
 case makeMap t r=>
  split at h
  ·obtain⟨l,h1,h2⟩:=Ki h (fun a l q=>by cases q;exact .new rfl);exact⟨l,h1,h2,fun _ _ _=>h⟩
  ·obtain⟨l,h1,h2⟩:=Ki h (fun a l q=>by cases q;exact .new rfl);exact⟨l,h1,h2,fun _ _ _=>h⟩
  ·cases h
 case makeSlice t x y=>
  split at h
  case h_2=>cases h
  obtain⟨l,h1,h2⟩:=Ki h (fun a l q=>by
   unfold fp at q;split at q
   case h_2=>cases q
   split at q
   case h_2=>cases q
   split at q
   case h_2=>cases q
   split at q
   ·cases q;exact .new rfl
   ·cases q)
  exact⟨l,h1,h2,fun _ _ _=>h⟩
 case range t x=>
  split at h
  case h_2=>cases h
  obtain⟨l,h1,h2⟩:=Ki h (fun a l q=>by cases q;exact .new rfl);exact⟨l,h1,h2,fun _ _ _=>h⟩
 case convert s d x=>
  split at h
  ·cases h
  ·simp[*]at hc
  ·rename_i z hx q1 q2 q3;rw[aLs]at h;obtain⟨y,h1,h2⟩:=h;cases h2;exact⟨[],rfl,.nil,fun _ _ _=>by rw[h1];rfl⟩
  ·cases h
 case next it s=>
  cases s
  ·cases h
  simp only at h⊢;split at h
  case h_2=>cases h
  rename_i i hit;split at h
  case h_2=>cases h
  rename_i z pos hi;have fin:∀H',(∀b,b∈lJ ts o->pB H H' b)->H'[i]?=some (.iF z pos):=fun H' hr=>
   (AB H' hr it (by simp[ho,Op.operands]) _ hit i (by simp[eg])).iF hi
  split at h
  ·rename_i hp;obtain⟨l,h1,h2⟩:=Ki h (fun a l q=>by cases q;exact .one rfl hi rfl);exact⟨l,h1,h2,fun H' hr _=>by rw[fin H' hr];simp only;rw[if_pos hp];exact h⟩
  ·rename_i hp;have h':=h;simp only[aMi,Option.some.injEq,Prod.mk.injEq]at h';exact⟨[],h'.2.symm,.nil,fun H' hr _=>by rw[fin H' hr];simp only;rw[if_neg hp];exact h⟩
 case store t p x=>
  split at h
  case h_2=>cases h
  rename_i a z hp hx;obtain⟨l,rfl,rfl,h2⟩:=ak0 h;obtain⟨g1,g2⟩:=HY (aR:=aR) h2;exact⟨l,rfl,g1,fun H' hr hw=>by rw[g2 H' hw];rfl⟩
 case mapUpdate t m k x=>
  split at h
  case h_2=>cases h
  rename_i a b c hp hx hy;obtain⟨l,rfl,rfl,h2⟩:=ak0 h;obtain⟨g1,g2⟩:=qK (aR:=aR) h2;exact⟨l,rfl,g1,fun H' hr hw=>by rw[g2 H' hw];rfl⟩
 case insert t m k x=>
  split at h
  case h_2=>cases h
  rename_i a b c hp hx hy;obtain⟨l,rfl,rfl,h2⟩:=ak0 h;obtain⟨g1,g2⟩:=qK (aR:=aR) h2;exact⟨l,rfl,g1,fun H' hr hw=>by rw[g2 H' hw];rfl⟩
 case slice t x lo hi mx=>
  split at hc<;>cases hc
 case call c=>
  cases mQ:c.callee with
  |invoke r m=>simp only[mQ]at h;cases h
  |value f=>
   simp only[mQ]at hc;cases f<;>simp only at hc<;>try (cases hc;done)
   split at hc<;>cases hc
  |builtin bi=>
   simp only[mQ]at hc h⊢;split at h
   case h_2=>cases h
   rename_i a_ has;obtain⟨l,rfl,h1⟩:=key h;have asF:∀H',(∀b,b∈lJ ts o->pB H H' b)->∀x,x∈a_->∀b,b∈eg x->pB H H' b:=fun H' hr x hx=>by
    obtain⟨xo,k1,k2⟩:=GR has x hx;exact AB H' hr xo (by rw[ho];simp only[Op.operands,Call.operands,Array.toList_append,aM7];exact .inr k1) x k2
   cases bi<;>simp only at hc<;>try (cases hc;done)
   case append=>
    rcases sw:c.argTypes.toList with _|⟨t,_|⟨u,ats⟩⟩
    ·rw[sw]at h1;rcases a_ with _|⟨x,_|⟨y,a_⟩⟩<;>cases h1
    ·rw[sw]at h1;rcases a_ with _|⟨x,_|⟨y,a_⟩⟩<;>cases h1
    rw[sw]at h1;rcases a_ with _|⟨s,_|⟨x,a_⟩⟩
    ·cases h1
    ·cases h1
    have e1:∀H,bM E H aR .append (t::u::ats) (s::x::a_)=(match E.ty u with
     |some {cD:=.int _,..}=>kT E aR t s x
     |some _=>er E H aR false t s x
     |none=>none):=fun H=>rfl
    rw[e1]at h1;split at h1
    ·rename_i hu;refine⟨l,rfl,xS h1,fun H' hr hw=>?_⟩;rw[e1,hu];simp only;rw[h1];rfl
    ·rename_i ui ej hu;obtain⟨g1,g2⟩:=Eo h1;refine⟨l,rfl,g1,fun H' hr hw=>?_⟩;rw[e1]
     split
     ·rename_i hu2;exact absurd (hu.symm.trans hu2) (by intro q;injection q with q;exact ej _ _ _ _ _ _ q)
     ·rw[g2 H' (asF H' hr x (by simp)) hw];rfl
     ·rename_i hu2;rw[hu]at hu2;cases hu2
    ·cases h1
   case copy=>
    rcases sw:c.argTypes.toList with _|⟨t,ats⟩
    ·rw[sw]at h1;rcases a_ with _|⟨x,_|⟨y,a_⟩⟩<;>cases h1
    rw[sw]at h1;rcases a_ with _|⟨d,_|⟨x,a_⟩⟩
    ·rcases ats with _|⟨u,r⟩<;>cases h1
    ·rcases ats with _|⟨u,r⟩<;>cases d<;>cases h1
    have e1:∀H,bM E H aR .copy (t::ats) (d::x::a_)=td E H t d x:=fun H=>by
     rcases ats with _|⟨u,r⟩<;>cases d<;>rfl
    rw[e1]at h1;obtain⟨g1,g2⟩:=IY (aR:=aR) h1;refine⟨l,rfl,g1,fun H' hr hw=>?_⟩;rw[e1,g2 H' (asF H' hr x (by simp)) hw];rfl
end
section
variable{E:Env}{pc:Pc}{ic yc:Ic}{dr:Bool}{ts ts':List AV}{H H':Hp}{aR nid':Nat}{o:Oper}{b:Nat}
def lS(H:Hp)(l:List (Nat×cE)):Hp:=l.foldl (fun H p=>cO H p.1 p.2) H
def dT{k:Nat}{x:cE}(h:k<H.length:=by omega):cO H k x=H.set k x:=by simp[cO,h]
def yM:∀(l:List (Nat×cE)) (H:Hp),(∀p,p∈l->p.1<H.length)->(lS H l).length=H.length
 |[],_,_=>rfl
 |p::l,H,h=>by
  simp only[lS,aNd];rw[dT (h p (by simp))]
  have:=yM l (H.set p.1 p.2) (fun q hq=>by simpa using h q (by simp[hq]))
  simp only[lS]at this;rw[this];simp
def iO:∀(l:List (Nat×cE)) (H:Hp) (b:Nat),(∀p,p∈l->p.1<H.length)->(∀p,p∈l->p.1≠b)->(lS H l)[b]?=H[b]?
 |[],_,_,_,_=>rfl
 |p::l,H,b,h,hb=>by
  simp only[lS,aNd];rw[dT (h p (by simp))]
  have:=iO l (H.set p.1 p.2) b (fun q hq=>by simpa using h q (by simp[hq])) (fun q hq=>hb q (by simp[hq]))
  simp only[lS]at this;rw[this,aOj (hb p (by simp))]
def KW:∀(l:List (Nat×cE)) (H:Hp) (b:Nat),(∀p,p∈l->p.1<H.length)->(lS H l)[b]?=H[b]?∨∃x,(b,x)∈l/\(lS H l)[b]?=some x
 |[],_,_,_=>.inl rfl
 |p::l,H,b,h=>by
  have hl:∀q,q∈l->q.1<(H.set p.1 p.2).length:=fun q hq=>by simpa using h q (by simp[hq])
  have e:lS H (p::l)=lS (H.set p.1 p.2) l:=by simp only[lS,aNd];rw[dT (h p (by simp))]
  rw[e];rcases KW l (H.set p.1 p.2) b hl with g|⟨x,g1,g2⟩
  ·by_cases hb:p.1=b
   ·right
    refine⟨p.2,by subst hb;simp,?_⟩;rw[g,<-hb,aOl (h p (by simp))]
   ·left;rw[g,aOj hb]
  ·exact .inr ⟨x,by simp[g1],g2⟩
def vh:∀(l:List (Nat×cE)) (H H':Hp) (b:Nat),H.length=H'.length->(∀p,p∈l->p.1<H.length)->(H[b]?=H'[b]?∨∃x,(b,x)∈l)->(lS H l)[b]?=(lS H' l)[b]?
 |[],_,_,_,_,_,h=>by
  rcases h with h|⟨x,h⟩
  ·exact h
  ·simp at h
 |p::l,H,H',b,hlen,hl,h=>by
  have e:∀(H:Hp),p.1<H.length->lS H (p::l)=lS (H.set p.1 p.2) l:=fun H hp=>by simp only[lS,aNd];rw[dT hp]
  rw[e H (hl p (by simp)),e H' (by have:=hl p (by simp);omega)];refine vh l _ _ b (by simpa using hlen) (fun q hq=>by simpa using hl q (by simp[hq])) ?_;by_cases hb:p.1=b
  ·left
   have:=hl p (by simp)
   subst hb;rw[aOl this,aOl (by omega)]
  ·rw[aOj hb,aOj hb];rcases h with h|⟨x,h⟩
   ·exact .inl h
   ·rcases aNe.1 h with h|h
    ·exact absurd (by rw[<-h]) hb
    ·exact .inr ⟨x,h⟩
def Tv{l m:List (Nat×cE)}(hl:∀p,p∈l->p.1<H.length)(hm:∀p,p∈m->p.1<H.length)(hd:∀p,p∈l->∀q,q∈m->p.1≠q.1):
  lS (lS H l) m=lS (lS H m) l:=by
 have l1:=yM l H hl;have m1:=yM m H hm;apply aOq;intro b;by_cases hb:∃x,(b,x)∈m
 ·obtain⟨x,hx⟩:=hb
  have:∀p,p∈l->p.1≠b:=fun p hp=>hd p hp (b,x) hx
  rw[iO l (lS H m) b (by rw[m1];exact hl) this];exact vh m _ _ b l1 (by rw[l1];exact hm) (.inr ⟨x,hx⟩)
 ·have hn:∀p,p∈m->p.1≠b:=fun p hp q=>hb ⟨p.2,by rw[<-q];exact hp⟩
  rw[iO m (lS H l) b (by rw[l1];exact hm) hn];exact vh l _ _ b m1.symm hl (.inl (iO m H b hm hn).symm)
def S5(l m:List Nat):mark (mark H l) m=mark (mark H m) l:=by
 apply aOq;intro b;simp only[kF];by_cases h1:b∈l<;>by_cases h2:b∈m<;>simp[h1,h2]
def F5{l:List (Nat×cE)}{m:List Nat}(hl:∀p,p∈l->p.1<H.length)(hd:∀p,p∈l->p.1∉m):mark (lS H l) m=lS (mark H m) l:=by
 apply aOq;intro b;rw[kF];have ml:(mark H m).length=H.length:=Dn m H;by_cases hb:∃x,(b,x)∈l
 ·obtain⟨x,hx⟩:=hb;rw[if_neg (hd _ hx)];exact vh l _ _ b ml.symm hl (.inr ⟨x,hx⟩)
 ·have hn:∀p,p∈l->p.1≠b:=fun p hp q=>hb ⟨p.2,by rw[<-q];exact hp⟩
  rw[iO l H b hl hn,iO l (mark H m) b (by rw[ml];exact hl) hn,kF]
def TX(k:cE):k.j8.j8=k.j8:=by
 cases k
 case cells st c=>cases st<;>rfl
 case map st a b=>cases st<;>rfl
 all_goals rfl
def IF(l:List Nat)(b:Nat):pB (mark H l) H b/\pB H (mark H l) b:=by
 have:(mark H l)[b]?.map cE.j8=H[b]?.map cE.j8:=by
  rw[kF]
  split
  ·rw[Option.map_map];congr 1;funext k;exact TX k
  ·rfl
 exact⟨this.symm,this⟩
def TW{k:cE}(h:k.j8=dp):k=dp:=by
 cases k
 case cells st c=>cases st<;>simp[cE.j8,dp]at h⊢;exact h
 case map st a b=>cases st<;>simp[cE.j8,dp]at h
 all_goals cases h
def F4{l:List Nat}:(mark H l)[b]?=some dp↔H[b]?=some dp:=by
 rw[kF]
 split
 ·rw[aLs];constructor
  ·rintro⟨k,h1,h2⟩;rw[h1,TW h2]
  ·intro h;exact⟨_,h,rfl⟩
 ·rfl
def kX{x:Option cE}:kE x=true↔x=some dp:=by
 unfold kE dp bT
 split
 ·simp
 ·rename_i h;simp only[aLT,false_iff];exact fun q=>h q
def wD{a b:List Nat}:wC a b=true↔∀x,x∈a->x∉b:=by simp[wC]
def P7{dst:Option Nat}{v:AV}{x:Operand}(h:∀d,dst=some d->x≠ .tmp d):bU (bA dst v ts) x=bU ts x:=by
 cases dst with
 |none=>rfl
 |some d=>
  cases x with
  |tmp t=>
   have:t≠d:=fun q=>h d rfl (by rw[q])
   simp only[bU,bA];rw[aOj (fun q=>this q.symm)]
  |_=>rfl
def F6{ops:Array Oper}{d:Nat}(h:Operand.tmp d∈o.op.operands.toList):d∈o.looksAt ops:=
 aOu _ (List.mem_filterMap.2 ⟨.tmp d,h,rfl⟩)
def aee{ops:Array Oper}{dst:Option Nat}{u:AV}(h:∀d,dst=some d->d∉o.looksAt ops):dH E pc ic yc dr (bA dst u ts) H aR o=dH E pc ic yc dr ts H aR o:=
 Tk fun x hx=>P7 fun d hd q=>h d hd (F6 (by rw[<-q];exact hx))
def TI{ops:Array Oper}{dst:Option Nat}{u:AV}(h:∀d,dst=some d->d∉o.looksAt ops):lJ (bA dst u ts) o=lJ ts o:=by
 unfold lJ
 have:∀(l:List Operand),(∀x,x∈l->x∈o.op.operands.toList)->(l.flatMap fun x=>match bU (bA dst u ts) x with|some v=>eg v|none=>[])=(l.flatMap fun x=>match bU ts x with|some v=>eg v|none=>[]):=by
  intro l;induction l with
  |nil=>intro _;rfl
  |cons x l ih=>
   intro hl;rw[aNj,aNj,ih (fun y hy=>hl y (by simp[hy]))];rw[P7 fun d hd q=>h d hd (F6 (by rw[<-q];exact hl x (by simp)))]
 exact this _ (fun _ h=>h)
def Ai{ops:Array Oper}{dst:Option Nat}{u:AV}{e:cF}(h:∀d,dst=some d->d∉o.looksAt ops):bH E (bA dst u ts) o e=bH E ts o e:=by unfold bH;rw[TI h]
def LG{ops:Array Oper}{dst:Option Nat}{u:AV}(h:∀d,dst=some d->d∉o.looksAt ops):bE ops.toList (bA dst u ts) o=bE ops.toList ts o:=by
 unfold bE
 split
 ·rfl
 ·rename_i j want hg
  split
  ·rfl
  ·rename_i d hd;cases dst with
   |none=>rfl
   |some d'=>
    have:d'≠d:=fun q=>h d' rfl (by
     unfold Oper.looksAt;rw[hg];refine aNZ _ ?_;simp only[aLR]at hd;simp[hd,q])
    simp only[bA];rw[aOj this]
def put_comm{d1 d2:Option Nat}{v1 v2:AV}(h:∀d,d1=some d->d2≠some d):bA d1 v1 (bA d2 v2 ts)=bA d2 v2 (bA d1 v1 ts):=by
 cases d1<;>cases d2<;>simp only[bA]
 rename_i a b;rw[List.set_comm];exact fun q=>h a rfl (by rw[q])
end
noncomputable section
section
variable{E:Env}{pc:Pc}{ic yc:Ic}{dr:Bool}{ts ts':List AV}{H H':Hp}{aR nid':Nat}{o:Oper}{b:Nat}{ops:Array Oper}
def kP(E:Env)(pc:Pc)(ic yc:Ic)(ops:Array Oper)(aR:Nat)(o:Oper)(ts:List AV)(H:Hp):Option (AV×cF):=
 if bW E o&&!kE H[aR]? then none else if bE ops.toList ts o then dH E pc ic yc true ts H aR o else some (bT,.bJ [])
def K7{dst:Option Nat}{u:AV}(h:∀d,dst=some d->d∉o.looksAt ops):kP E pc ic yc ops aR o (bA dst u ts) H=kP E pc ic yc ops aR o ts H:=by unfold kP;rw[LG h,aee h]
def alf(h:bW E o=true):iJ E o=.s:=by
 unfold bW at h;unfold iJ;cases ho:o.op<;>simp only[ho]at h⊢<;>try (cases h;done)
 case convert s d x=>
  split at h
  ·rfl
  ·cases h
 case call c=>
  cases hc:c.callee with
  |builtin bi=>
   simp only[hc]at h;cases bi<;>first|rfl|(cases h;done)
  |value f=>simp only[hc]at h;cases h
  |invoke r m=>simp only[hc]at h;cases h
def ZL(hc:iJ E o=.n){v:AV}{e:cF}(h:kP E pc ic yc ops aR o ts H=some (v,e)):e=.bJ []/\∀H',kP E pc ic yc ops aR o ts H'=some (v,e):=by
 have hl:bW E o=false:=by
  cases hq:bW E o with
  |false=>rfl
  |true=>rw[alf hq]at hc;cases hc
 unfold kP at h⊢;simp only[hl,aOn,aLT,if_false]at h⊢;split at h
 ·rename_i hw;obtain⟨h1,h2⟩:=auZ hc h;exact⟨h1,fun H'=>by rw[if_pos hw];exact h2 H' aR⟩
 ·rename_i hw;cases h;exact⟨rfl,fun H'=>by rw[if_neg hw]⟩
inductive Shape(E:Env)(H:Hp)(aR:Nat)(o:Oper)(t:List Nat×List Nat):cF->Prop where
 |bJ (l:List (Nat×cE)) (hk:∀p,p∈l->p.2≠dp/\p.1<H.length/\(bW E o=true/\p.1=aR∨∃dI,H[p.1]?=some dI/\dI.st=.live)) (ht:t.2=l.map (·.1)) (hr:iJ E o=.r->l=[]):Shape E H aR o t (.bJ l)
 |looks (m:List Nat) (ht:t=(m,[])):Shape E H aR o t (.looks m)
 |marks (m:List Nat) (ht:t=(m,[])):Shape E H aR o t (.marks m)
def adM{l:List (Nat×cE)}(hs:iJ E o=.s)(il:bW E o=true->kE H[aR]?=true){v:AV}(h:dH E pc ic yc true ts H aR o=some (v,.bJ l)):
  ∀p,p∈l->p.2≠dp/\p.1<H.length/\(bW E o=true/\p.1=aR∨∃dI,H[p.1]?=some dI/\dI.st=.live):=by
 intro p hp;have get:∀{aR},dH E pc ic yc true ts H aR o=some (v,.bJ l)->kj H aR l:=fun{aR} h=>by
  obtain⟨l',h1,h2,_⟩:=agX hs h;cases h1;exact h2
 cases hl:bW E o with
 |true=>
  have:=get h p hp
  refine⟨this.1,?_,?_⟩
  ·rcases this.2 with q|⟨dI,q,_⟩
   ·rw[q]
    have:=kX.1 (il hl)
    exact(aLq.1 this).1
   ·exact(aLq.1 q).1
  ·rcases this.2 with q|q
   ·exact .inl ⟨rfl,q⟩
   ·exact .inr q
 |false=>
  have a1:=get ((BN (nid':=H.length+1) hl).symm.trans h) p hp;have a2:=get ((BN (nid':=H.length+2) hl).symm.trans h) p hp
  have:∃dI,H[p.1]?=some dI/\dI.st=.live:=by
   rcases a1.2 with q|q
   ·rcases a2.2 with q'|q'
    ·omega
    ·exact q'
   ·exact q
  obtain⟨dI,g1,g2⟩:=this;exact⟨a1.1,(aLq.1 g1).1,.inr ⟨dI,g1,g2⟩⟩
def BR(hc:iJ E o=.r∨iJ E o=.s){v:AV}{e:cF}(h:kP E pc ic yc ops aR o ts H=some (v,e)):
  Shape E H aR o (bH E ts o e) e/\(bW E o=true->H[aR]?=some dp)/\
  ∀H',(∀b,b∈(bH E ts o e).1->pB H H' b)->(∀b,b∈(bH E ts o e).2->H'[b]?=H[b]?)->(bW E o=true->H'[aR]?=some dp)->kP E pc ic yc ops aR o ts H'=some (v,e):=by
 have nh:iJ E o≠ .n:=by rcases hc with q|q<;>rw[q]<;>simp
 have Ah:∀l,bH E ts o (.bJ l)=(lJ ts o,l.map (·.1)):=fun l=>by
  unfold bH
  split
  ·exact absurd ‹_› nh
  ·rfl
 have aai:∀m,bH E ts o (.marks m)=(m,[]):=fun l=>by
  unfold bH
  split
  ·exact absurd ‹_› nh
  ·rfl
 have aah:∀m,bH E ts o (.looks m)=(m,[]):=fun l=>by
  unfold bH
  split
  ·exact absurd ‹_› nh
  ·rfl
 unfold kP at h;split at h
 ·cases h
 rename_i il;have FF:bW E o=true->kE H[aR]?=true:=fun q=>by
  rw[q]at il;simpa using il
 have cond:∀H':Hp,(bW E o=true->H'[aR]?=some dp)->¬(bW E o&&!kE H'[aR]?)=true:=fun H' hq=>by
  cases hl:bW E o with
  |false=>simp
  |true=>
   have:=kX.2 (hq hl)
   simp[this]
 split at h
 ·rename_i hw;have back:∀H',(bW E o=true->H'[aR]?=some dp)->dH E pc ic yc true ts H' aR o=some (v,e)->kP E pc ic yc ops aR o ts H'=some (v,e):=fun H' h1 h2=>by
   unfold kP;rw[if_neg (cond H' h1),if_pos hw];exact h2
  rcases hc with hc|hc
  ·rcases au0 hc h with⟨rfl,hf⟩|⟨bs,he,hf⟩
   ·refine⟨.bJ [] (fun p hp=>by simp at hp) (by rw[Ah]) (fun _=>rfl),fun q=>kX.1 (FF q),fun H' h1 h2 h3=>back H' h3 (hf H' fun b hb=>h1 b (by rw[Ah];exact hb))⟩
   ·rcases he with rfl|rfl
    ·exact⟨.looks bs (aah bs),fun q=>kX.1 (FF q),fun H' h1 h2 h3=>back H' h3 (hf H' fun b hb=>h1 b (by rw[aah];exact hb))⟩
    ·exact⟨.marks bs (aai bs),fun q=>kX.1 (FF q),fun H' h1 h2 h3=>back H' h3 (hf H' fun b hb=>h1 b (by rw[aai];exact hb))⟩
  ·obtain⟨l,rfl,hk,hf⟩:=agX hc h;refine⟨.bJ l (adM hc FF h) (by rw[Ah]) (fun q=>by rw[hc]at q;cases q),fun q=>kX.1 (FF q),fun H' h1 h2 h3=>back H' h3 (hf H' (fun b hb=>h1 b (by rw[Ah];exact hb)) fun p hp=>h2 p.1 (by rw[Ah];exact aNg.2 ⟨p,hp,rfl⟩))⟩
 ·rename_i hw;cases h;refine⟨.bJ [] (fun p hp=>by simp at hp) (by rw[Ah]) (fun _=>rfl),fun q=>kX.1 (FF q),fun H' h1 h2 h3=>?_⟩;unfold kP;rw[if_neg (cond H' h3),if_neg hw]
section
variable{t:List Nat×List Nat}{e:cF}
def Shape.len(h:Shape E H aR o t e):(e.app H).length=H.length:=by
 cases h with
 |bJ l hk ht hr=>exact yM l H fun p hp=>(hk p hp).2.1
 |looks m ht=>rfl
 |marks m ht=>exact Dn m H
def Shape.agr(h:Shape E H aR o t e){b:Nat}(hb:b∉t.2):pB H (e.app H) b/\pB (e.app H) H b:=by
 cases h with
 |bJ l hk ht hr=>
  have:(lS H l)[b]?=H[b]?:=iO l H b (fun p hp=>(hk p hp).2.1) fun p hp q=>hb (by rw[ht];exact aNg.2 ⟨p,hp,q⟩)
  have e1:(cF.bJ l).app H=lS H l:=rfl;rw[e1];unfold pB;rw[this];exact⟨rfl,rfl⟩
 |looks m ht=>exact⟨rfl,rfl⟩
 |marks m ht=>exact⟨(IF m b).2,(IF m b).1⟩
def Shape.same(h:Shape E H aR o t e){b:Nat}(h1:b∉t.1)(h2:b∉t.2):(e.app H)[b]?=H[b]?:=by
 cases h with
 |bJ l hk ht hr=>exact iO l H b (fun p hp=>(hk p hp).2.1) fun p hp q=>h2 (by rw[ht];exact aNg.2 ⟨p,hp,q⟩)
 |looks m ht=>rfl
 |marks m ht=>
  subst ht;show(mark H m)[b]?=_
  rw[kF,if_neg h1]
def Shape.dead(h:Shape E H aR o t e){b:Nat}(hb:(e.app H)[b]?=some dp):H[b]?=some dp:=by
 cases h with
 |bJ l hk ht hr=>
  rcases KW l H b (fun p hp=>(hk p hp).2.1)with g|⟨x,g1,g2⟩
  ·rw[<-g];exact hb
  ·have:some x=some dp:=g2.symm.trans hb
   cases this;exact absurd rfl (hk _ g1).1
 |looks m ht=>exact hb
 |marks m ht=>exact F4.1 hb
def Shape.af4(h:Shape E H aR o t e){b:Nat}(h2:b∉t.2)(hb:H[b]?=some dp):(e.app H)[b]?=some dp:=by
 cases h with
 |bJ l hk ht hr=>
  have:(lS H l)[b]?=H[b]?:=iO l H b (fun p hp=>(hk p hp).2.1) fun p hp q=>h2 (by rw[ht];exact aNg.2 ⟨p,hp,q⟩)
  show(lS H l)[b]?=_
  rw[this];exact hb
 |looks m ht=>exact hb
 |marks m ht=>exact F4.2 hb
def Shape.keys(h:Shape E H aR o t e){b:Nat}(hb:b∈t.2):(bW E o=true/\b=aR)∨∃dI,H[b]?=some dI/\dI.st=.live:=by
 cases h with
 |bJ l hk ht hr=>
  rw[ht]at hb;obtain⟨p,hp,rfl⟩:=aNg.1 hb;exact(hk p hp).2.2
 |looks m ht=>subst ht;simp at hb
 |marks m ht=>subst ht;simp at hb
def Shape.noW(h:Shape E H aR o t e)(hc:iJ E o=.r):t.2=[]:=by
 cases h with
 |bJ l hk ht hr=>rw[ht,hr hc];rfl
 |looks m ht=>subst ht;rfl
 |marks m ht=>subst ht;rfl
end
def Va{o1 o2:Oper}{n1 n2:Nat}{t1 t2:List Nat×List Nat}{e1 e2:cF}{H1 H2:Hp}(h1:Shape E H1 n1 o1 t1 e1)(h2:Shape E H2 n2 o2 t2 e2)(l1:H1.length=H.length)(l2:H2.length=H.length)
  (d1:∀x,x∈t1.2->x∉t2.1) (d2:∀x,x∈t1.2->x∉t2.2) (d3:∀x,x∈t1.1->x∉t2.2):e2.app (e1.app H)=e1.app (e2.app H):=by
 cases h1 with
 |looks m ht=>rfl
 |bJ l hk ht hr=>
  have hl:∀p,p∈l->p.1<H.length:=fun p hp=>by rw[<-l1];exact(hk p hp).2.1
  have hm:∀p,p∈l->p.1∈t1.2:=fun p hp=>by rw[ht];exact aNg.2 ⟨p,hp,rfl⟩
  cases h2 with
  |looks m ht=>rfl
  |bJ l' sM ht' kB=>
   have pO:∀p,p∈l'->p.1<H.length:=fun p hp=>by rw[<-l2];exact(sM p hp).2.1
   exact Tv hl pO fun p hp q hq e=>d2 p.1 (hm p hp) (by rw[ht'];exact aNg.2 ⟨q,hq,e.symm⟩)
  |marks m' ht'=>
   subst ht';exact F5 hl fun p hp=>d1 p.1 (hm p hp)
 |marks m ht=>
  subst ht;cases h2 with
  |looks m ht=>rfl
  |bJ l' sM ht' kB=>
   have pO:∀p,p∈l'->p.1<H.length:=fun p hp=>by rw[<-l2];exact(sM p hp).2.1
   exact(F5 pO fun p hp hx=>d3 p.1 hx (by rw[ht'];exact aNg.2 ⟨p,hp,rfl⟩)).symm
  |marks m' ht'=>exact S5 m m'
def N7{t:Nat}{p v:AV}(hk:∀b,b<H.length->H'[b]?=H[b]?)(h:dU E H t p=some v):dU E H' t p=some v:=by
 refine AH (fun b hb=>?_) h;have eh:b<H.length:=by
  cases hx:H[b]? with
  |some q=>exact(aLq.1 hx).1
  |none=>
   exfalso;cases p<;>simp[eg]at hb
   all_goals
    subst hb;simp[dU,yL,hx]at h
 unfold pB;rw[hk b eh]
def TF(hc:yw o=true){v:AV}{e:cF}(h:kP E pc ic yc ops aR o ts H=some (v,e)):
  e=.bJ []/\∀H',(∀b,b<H.length->H'[b]?=H[b]?)->kP E pc ic yc ops aR o ts H'=some (v,e):=by
 obtain⟨d,op,ty,pos,af,g⟩:=o;cases op<;>simp[yw]at hc
 rename_i t x;unfold kP at h⊢;simp only[bW,aOn,aLT,if_false]at h⊢;split at h
 ·rename_i hw;simp only[hw,if_true];unfold dH at h⊢;simp only at h⊢;cases hx:bU ts x with
  |none=>rw[hx]at h;cases h
  |some p=>
   rw[hx]at h;simp only at h⊢;rw[aLs]at h;obtain⟨u,h1,h2⟩:=h;cases h2;exact⟨rfl,fun H' hk=>by rw[N7 hk h1];rfl⟩
 ·rename_i hw;simp only[hw];cases h;exact⟨rfl,fun H' _=>rfl⟩
def ZK(hc:XU E o=true){v:AV}{e:cF}(h:kP E pc ic yc ops aR o ts H=some (v,e)):∀b,b<H.length->(e.app H)[b]?=H[b]?:=by
 obtain⟨d,op,ty,pos,af,g⟩:=o;unfold XU at hc;cases op<;>simp only at hc<;>try (cases hc;done)
 rename_i c;obtain⟨cal,args,ats⟩:=c;cases cal<;>simp only at hc<;>try (cases hc;done)
 rename_i fo;cases fo<;>simp only at hc<;>try (cases hc;done)
 rename_i f;unfold kP at h;simp only[bW,aOn,aLT,if_false]at h;split at h
 ·unfold dH at h;simp only[bU,mS,Bool.and_self]at h;cases hl:kr ts args.toList with
  |none=>rw[hl]at h;cases h
  |some al=>
   rw[hl]at h;simp only at h;unfold ke at h;split at hc
   ·rename_i fC;simp only[fC,aOn,aLT,if_false]at h;split at h
    ·rename_i v' h' FD;split at h
     ·cases h
     ·rename_i hk;cases h;simp only[Bool.true_and,Bool.not_eq_true',Bool.not_eq_false]at hk;unfold sf at hk;have Be:∀b,b<H.length->h'[b]?=H[b]?:=@of_decide_eq_true _ (Classical.propDecidable _) hk;exact Be
    ·cases h
   ·cases hc
 ·cases h;intro b _;rfl
def swap{x y:Oper}{nx ny:Nat}{vx vy:AV}{ex ey:cF}(ha:y.apart ops x=true)
  (h1:kP E pc ic yc ops nx x ts H=some (vx,ex)) (h2:kP E pc ic yc ops ny y (bA x.dst vx ts) (ex.app H)=some (vy,ey))
  (hf:iJ E x=.n∨iJ E y=.n∨((iJ E x=.r∨iJ E x=.s)/\(iJ E y=.r∨iJ E y=.s)/\
   (∀b,b∈(bH E ts x ex).2->b∉(bH E (bA x.dst vx ts) y ey).1)/\(∀b,b∈(bH E ts x ex).2->b∉(bH E (bA x.dst vx ts) y ey).2)/\
   (∀b,b∈(bH E ts x ex).1->b∉(bH E (bA x.dst vx ts) y ey).2))∨(yw x=true/\XU E y=true))
  (hn:bW E x=true->bW E y=true->nx≠ny):
  kP E pc ic yc ops ny y ts H=some (vy,ey)/\kP E pc ic yc ops nx x (bA y.dst vy ts) (ey.app H)=some (vx,ex)/\ey.app (ex.app H)=ex.app (ey.app H)/\
   bA y.dst vy (bA x.dst vx ts)=bA x.dst vx (bA y.dst vy ts)/\bH E (bA y.dst vy ts) x ex=bH E ts x ex/\bH E (bA x.dst vx ts) y ey=bH E ts y ey:=by
 obtain⟨a1,a2,a3⟩:=Oper.apart_spec ha;rw[K7 a3]at h2;rw[K7 a1,Ai a1,Ai a3];rw[Ai a3]at hf;have M5:bA y.dst vy (bA x.dst vx ts)=bA x.dst vx (bA y.dst vy ts):=put_comm a2;rcases hf with hc|hc|⟨hx,hy,d1,d2,d3⟩|⟨hx,hy⟩
 ·obtain⟨rfl,g⟩:=ZL hc h1;exact⟨h2,g _,rfl,M5,rfl,rfl⟩
 ·obtain⟨rfl,g⟩:=ZL hc h2;exact⟨g _,h1,rfl,M5,rfl,rfl⟩
 ·obtain⟨s1,r1,f1⟩:=BR hx h1;obtain⟨s2,r2,f2⟩:=BR hy h2;have l1:=s1.len;have hy':kP E pc ic yc ops ny y ts H=some (vy,ey):=by refine f2 H (fun b hb=>(s1.agr fun q=>d1 b q hb).2) (fun b hb=>?_) (fun hl=>s1.dead (r2 hl));exact(s1.same (fun q=>d3 b q hb) (fun q=>d2 b q hb)).symm
  obtain⟨s2',_,_⟩:=BR hy hy';refine⟨hy',?_,Va s1 s2' rfl rfl d1 d2 d3,M5,rfl,rfl⟩;refine f1 _ (fun b hb=>(s2'.agr (d3 b hb)).1) (fun b hb=>s2'.same (d1 b hb) (d2 b hb)) fun hl=>?_
  refine s2'.af4 (fun q=>?_) (r1 hl);rcases s2.keys q with⟨q1,q2⟩|⟨dI,q1,q2⟩
  ·exact hn hl q1 q2
  ·by_cases hw:nx∈(bH E ts x ex).2
   ·exact d2 nx hw q
   ·have:=s1.af4 hw (r1 hl)
    rw[this]at q1;cases q1;cases q2
 ·obtain⟨rfl,g⟩:=TF hx h1;exact⟨h2,g _ (ZK hy h2),rfl,M5,rfl,rfl⟩
end
end
noncomputable section
abbrev Item:=Nat×Nat×Oper
abbrev Touch:=List Nat×List Nat
section
variable{E:Env}{P:Program}{pc:Pc}{ic yc:Ic}{dr:Bool}{ts ts':List AV}{H H':Hp}{aR nid':Nat}{o:Oper}{b:Nat}{ops:Array Oper}
variable{ι:cT}{w:World}{Lo:Nat->Prop}{w0:World}{a:Act}{B:Nat}
def Af(E:Env)(pc:Pc)(ic yc:Ic)(ops:Array Oper):List Item->List AV->Hp->Option (List AV×Hp×List (Nat×Touch))
 |[],ts,H=>some (ts,H,[])
 |it::rest,ts,H=>match kP E pc ic yc ops it.2.1 it.2.2 ts H with
  |some (v,e)=>match Af E pc ic yc ops rest (bA it.2.2.dst v ts) (e.app H)with
   |some (t,h,l)=>some (t,h,(it.1,bH E ts it.2.2 e)::l)
   |none=>none
  |none=>none
def Gl{it:Item}{rest:List Item}{t:List AV}{h:Hp}{L:List (Nat×Touch)}(hr:Af E pc ic yc ops (it::rest) ts H=some (t,h,L)):
  ∃v e l,kP E pc ic yc ops it.2.1 it.2.2 ts H=some (v,e)/\Af E pc ic yc ops rest (bA it.2.2.dst v ts) (e.app H)=some (t,h,l)/\L=(it.1,bH E ts it.2.2 e)::l:=by
 unfold Af at hr;split at hr
 case h_2=>cases hr
 rename_i v e h1;split at hr
 case h_2=>cases hr
 rename_i t' h' l h2;cases hr;exact⟨v,e,l,h1,h2,rfl⟩
def Rm{it:Item}{rest:List Item}{t:List AV}{h:Hp}{l:List (Nat×Touch)}{v:AV}{e:cF}(h1:kP E pc ic yc ops it.2.1 it.2.2 ts H=some (v,e))
  (h2:Af E pc ic yc ops rest (bA it.2.2.dst v ts) (e.app H)=some (t,h,l)):Af E pc ic yc ops (it::rest) ts H=some (t,h,(it.1,bH E ts it.2.2 e)::l):=by
 unfold Af;rw[h1];simp only;rw[h2]
def TOk(ps:List (Nat×Nat))(L:List (Nat×Touch)):Prop:=∀j i tj ti,(j,i)∈ps->(j,tj)∈L->(i,ti)∈L->
 (∀b,b∈tj.2->b∉ti.1)/\(∀b,b∈tj.2->b∉ti.2)/\(∀b,b∈tj.1->b∉ti.2)
def Pv(E:Env)(x y:Item):Prop:=bW E x.2.2=true->bW E y.2.2=true->x.2.1≠y.2.1
def noW{x:Oper}{nx:Nat}{v:AV}{e:cF}(h:kP E pc ic yc ops nx x ts H=some (v,e))(hc:iJ E x=.r):(bH E ts x e).2=[]:=
 (BR (.inl hc) h).1.noW hc
def Vi{ps:List (Nat×Nat)}{y:Item}{post:List Item}{t:List AV}{h:Hp}:∀(pre:List Item) (ts:List AV) (H:Hp) (L:List (Nat×Touch)),
  (∀x,x∈pre->y.2.2.apart ops x.2.2=true/\WR E ps x.1 y.1 x.2.2 y.2.2=true/\Pv E x y)->Af E pc ic yc ops (pre++y::post) ts H=some (t,h,L)->TOk ps L->
  ∃v e L',kP E pc ic yc ops y.2.1 y.2.2 ts H=some (v,e)/\Af E pc ic yc ops (pre++post) (bA y.2.2.dst v ts) (e.app H)=some (t,h,L')/\(y.1,bH E ts y.2.2 e)∈L/\∀z,z∈L'->z∈L
 |[],ts,H,L,_,hr,_=>by
  obtain⟨v,e,l,h1,h2,rfl⟩:=Gl hr;exact⟨v,e,l,h1,h2,by simp,fun z hz=>by simp[hz]⟩
 |x::pre,ts,H,L,hp,hr,ht=>by
  obtain⟨vx,ex,l,h1,h2,rfl⟩:=Gl hr;obtain⟨vy,ey,L',g1,g2,g3,g4⟩:=Vi pre _ _ l (fun z hz=>hp z (by simp[hz])) h2 (fun j i tj ti a b c=>ht j i tj ti a (by simp[b]) (by simp[c]));obtain⟨ha,hf,hn⟩:=hp x (by simp);have hf':iJ E x.2.2=.n∨iJ E y.2.2=.n∨((iJ E x.2.2=.r∨iJ E x.2.2=.s)/\(iJ E y.2.2=.r∨iJ E y.2.2=.s)/\
    (∀b,b∈(bH E ts x.2.2 ex).2->b∉(bH E (bA x.2.2.dst vx ts) y.2.2 ey).1)/\(∀b,b∈(bH E ts x.2.2 ex).2->b∉(bH E (bA x.2.2.dst vx ts) y.2.2 ey).2)/\
    (∀b,b∈(bH E ts x.2.2 ex).1->b∉(bH E (bA x.2.2.dst vx ts) y.2.2 ey).2))∨(yw x.2.2=true/\XU E y.2.2=true):=by
   have seen:ps.contains (x.1,y.1)=true->_:=fun q=>ht x.1 y.1 _ _ (by simpa using q) (aOw ..) (aOk _ g3)
   unfold WR at hf;cases cx:iJ E x.2.2 with
   |n=>exact .inl rfl
   |w=>rw[cx]at hf;cases cy:iJ E y.2.2<;>rw[cy]at hf<;>first|(cases hf;done)|exact .inr (.inl rfl)
   |r=>
    cases cy:iJ E y.2.2 with
    |n=>exact .inr (.inl rfl)
    |w=>rw[cx,cy]at hf;simp only[aM6]at hf;exact .inr (.inr (.inr hf))
    |r=>exact .inr (.inr (.inl ⟨.inl rfl,.inl rfl,by rw[noW h1 cx];simp,by rw[noW h1 cx];simp,by rw[noW g1 cy];simp⟩))
    |s=>rw[cx,cy]at hf;exact .inr (.inr (.inl ⟨.inl rfl,.inr rfl,seen hf⟩))
   |s=>
    cases cy:iJ E y.2.2 with
    |n=>exact .inr (.inl rfl)
    |w=>rw[cx,cy]at hf;cases hf
    |r=>rw[cx,cy]at hf;exact .inr (.inr (.inl ⟨.inr rfl,.inl rfl,seen hf⟩))
    |s=>rw[cx,cy]at hf;exact .inr (.inr (.inl ⟨.inr rfl,.inr rfl,seen hf⟩))
  obtain⟨s1,s2,s3,s4,s5,s6⟩:=swap ha h1 g1 hf' hn;refine⟨vy,ey,(x.1,bH E (bA y.2.2.dst vy ts) x.2.2 ex)::L',s1,?_,?_,fun z hz=>?_⟩
  ·refine Rm s2 ?_;rw[<-s3,<-s4];exact g2
  ·rw[<-s6];exact aOk _ g3
  ·rcases aNe.1 hz with rfl|hz
   ·rw[s5];simp
   ·exact aOk _ (g4 z hz)
def HV(S:fT E Lo w0 ι H w){v:AV}{e:cF}(h:kP E pc ic yc ops aR o ts H=some (v,e)):
  ∃nid',mG ι H nid'/\bV E pc ic yc true ops.toList nid' o ts H=some (bA o.dst v ts,e):=by
 unfold kP at h;split at h
 ·cases h
 rename_i il;have main:∀nid',(if bE ops.toList ts o then dH E pc ic yc true ts H nid' o else some (bT,.bJ []))=some (v,e)->bV E pc ic yc true ops.toList nid' o ts H=some (bA o.dst v ts,e):=fun nid' h=>by
  unfold bV;split at h
  ·rename_i hw;rw[if_pos hw,h]
  ·rename_i hw;rw[if_neg hw];cases h;rfl
 cases hl:bW E o with
 |true=>
  rw[hl]at il;exact⟨aR,WZ S (kX.1 (by simpa using il)),main aR h⟩
 |false=>
  refine⟨H.length,yf S,main _ ?_⟩;rw[BN (nid':=aR) hl];exact h
def Down(ops:Array Oper)(listed:Array Bool):Prop:=∀k o,ops[k]?=some o->listed.getD k false=true->∀e,e∈o.after->Region.binds .any e=true->listed.getD e.on false=true
def AO{listed:Array Bool}(hd:Down ops listed){j:Nat}:∀(n i:Nat) (o:Oper),ops[i]?=some o->(∀e,e∈o.after->Region.binds .any e=true->listed.getD e.on false=true)->Gf ops j n i=true->listed.getD j false=true
 |0,_,_,_,_,h=>by cases h
 |n+1,i,o,ho,he,h=>by
  unfold Gf at h;rw[ho]at h;simp only at h;rw[Array.any_eq_true']at h;obtain⟨e,h1,h2⟩:=h;simp only[aM6,Bool.or_eq_true,beq_iff_eq,decide_eq_true_eq]at h2;obtain⟨h2,h3⟩:=h2;have hl:=he e h1 h2;rcases h3 with h3|⟨_,h3⟩
  ·rw[<-h3];exact hl
  ·cases hk:ops[e.on]? with
   |none=>
    cases n with
    |zero=>cases h3
    |succ n=>unfold Gf at h3;rw[hk]at h3;cases h3
   |some o'=>exact AO hd n e.on o' hk (hd e.on o' hk hl) h3
def Dy{ps:List (Nat×Nat)}(h:yI E ps ops=true){i:Nat}{oi:Oper}(hi:ops[i]?=some oi):
  (∀e,e∈oi.after->Region.binds .any e=true->e.on<i)/\∀j oj,j<i->ops[j]?=some oj->(oi.apart ops oj=true/\WR E ps j i oj oi=true)∨Gf ops j ops.size i=true:=by
 unfold yI at h;have eh:=(aOi.1 hi).1
 have:=aMf.1 h i (aOo.2 eh)
 rw[hi]at this;simp only[aM6]at this;obtain⟨h1,h2⟩:=this;refine⟨fun e he hb=>?_,fun j oj hj hoj=>?_⟩
 ·rw[aOm]at h1
  have:=h1 e he
  rw[hb]at this;simpa using this
 ·have:=aMf.1 h2 j (aOo.2 hj)
  rw[hoj]at this;simpa using this
def ac1{listed:Array Bool}{j:Nat}(h1:listed.getD j true=false)(h2:listed.getD j false=true):False:=by
 cases hj:listed[j]?<;>simp[hj]at h1 h2
 rw[h1]at h2;cases h2
def PR(V:Valid E P)(hp:lY E P pc)(hi:qt E P ic)(hy:rf E P yc){F:Fence}(hF:ka F){ps:List (Nat×Nat)}(G1:yI E ps ops=true){Q:Exit->Act->World->Prop}{t:List AV}{h:Hp}:
  ∀(fuel:Nat) (rest:List Item) (listed:Array Bool) (ts:List AV) (H:Hp) (L:List (Nat×Touch)) (ι:cT) (w:World) (a:Act),rest.length=fuel->listed.size=ops.size->
   (∀it,it∈rest->ops[it.1]?=some it.2.2/\listed.getD it.1 true=false)->(∀k o,ops[k]?=some o->listed.getD k true=false->∃it,it∈rest/\it.1=k)->
   rest.Pairwise (fun x y=>x.1<y.1/\Pv E x y)->Down ops listed->Af E pc ic yc ops rest ts H=some (t,h,L)->TOk ps L->St E B Lo w0 ι H ts a w->A8 E B Lo w0 ι H w t h (Q .normal)->
   wpAnyIn F 0 P .any ops Q fuel listed a w
 |0,rest,listed,ts,H,L,ι,w,a,hlen,mh,hA,hB,hC,hD,hr,hT,S,hk=>by
  have:rest=[]:=List.length_eq_zero_iff.1 hlen
  subst this;unfold Af at hr;cases hr;refine⟨?_,hk _ _ ι (cT.le_refl _) (Ext.refl _ _) S⟩;rw[List.eq_nil_iff_forall_not_mem];intro j hj;obtain⟨h1,o,h2,_⟩:=mem_ready.1 hj;obtain⟨it,h3,_⟩:=hB j o h2 h1;simp at h3
 |fuel+1,rest,listed,ts,H,L,ι,w,a,hlen,mh,hA,hB,hC,hD,hr,hT,S,hk=>by
  refine⟨fun C0=>?_,fun i sB=>?_⟩
  ·
   exfalso
   match rest,hlen with
   |y::r,_=>
    obtain⟨y1,y2⟩:=hA y (by simp)
    have:y.1∈Region.ready .any ops listed:=by
     refine mem_ready.2 ⟨y2,_,y1,fun e he hb=>?_⟩;have eh:=(Dy G1 y1).1 e he hb;have hys:=(aOi.1 y1).1;have y8:e.on<listed.size:=by omega
     cases hv:listed.getD e.on false with
     |true=>rfl
     |false=>
      exfalso;have hv':listed.getD e.on true=false:=by simp[y8]at hv⊢;exact hv
      obtain⟨it,k1,k2⟩:=hB e.on _ (Array.getElem?_eq_getElem (by omega)) hv';rcases aNe.1 k1 with rfl|k1
      ·omega
      ·have:=(aOp.1 hC).1 it k1
       omega
    rw[C0]at this;simp at this
  ·obtain⟨h1,o,h2,h3⟩:=mem_ready.1 sB;obtain⟨y,k1,k2⟩:=hB i o h2 h1;obtain⟨pre,post,rfl⟩:=List.append_of_mem k1;have hyo:y.2.2=o:=by
    have:=(hA y k1).1
    rw[k2,h2]at this;injection this with this;exact this.symm
   rw[aOv]at hC;obtain⟨c1,c2,c3⟩:=hC;rw[aOp]at c2;have Bh:∀x,x∈pre->y.2.2.apart ops x.2.2=true/\WR E ps x.1 y.1 x.2.2 y.2.2=true/\Pv E x y:=by
    intro x hx;obtain⟨q1,q2⟩:=c3 x hx y (by simp);obtain⟨x1,x2⟩:=hA x (by simp[hx]);rcases(Dy G1 (by rw[hyo,k2];exact h2:ops[y.1]?=some y.2.2)).2 x.1 x.2.2 q1 x1 with q|q
    ·exact⟨q.1,q.2,q2⟩
    ·exfalso;rw[k2]at q;exact ac1 x2 (AO hD _ i o h2 h3 q)
   obtain⟨v,e,L',g1,g2,g3,g4⟩:=Vi pre ts H L Bh hr hT;rw[hyo]at g1 g2;obtain⟨nid',f1,f2⟩:=HV S.Bs g1;unfold wpOpIn;rw[h2];simp only;refine DV V hp hi hy S f1 f2 hF fun a1 w1 ι1 m1 m2 m3=>?_
   have ej:∀it,it∈pre++post->it.1≠i:=fun it hit=>by
    rcases aM7.1 hit with hit|hit
    ·have:=(c3 it hit y (by simp)).1;omega
    ·have:=(c2.1 it hit).1;omega
   refine PR V hp hi hy hF G1 fuel (pre++post) (listed.setIfInBounds i true) _ _ L' ι1 w1 a1 ?_ (by simpa using mh) (fun it hit=>?_) (fun k o' sM hl=>?_) ?_ ?_ g2 (fun j i tj ti a b c=>hT j i tj ti a (g4 _ b) (g4 _ c)) m3 (hk.chain m1 m2)
   ·simp only[List.length_append,List.length_cons]at hlen⊢;omega
   ·have hm:it∈pre++y::post:=by
     rcases aM7.1 hit with q|q<;>simp[q]
    obtain⟨q1,q2⟩:=hA it hm;exact⟨q1,by rw[getD_set_ne true (fun q=>ej it hit q.symm)];exact q2⟩
   ·have Xp:i≠k:=by
     intro q;subst q
     have:i<listed.size:=by rw[mh];exact(aOi.1 h2).1
     simp[this]at hl
    rw[getD_set_ne true Xp]at hl;obtain⟨it,q1,q2⟩:=hB k o' sM hl;refine⟨it,?_,q2⟩;rcases aM7.1 q1 with q|q
    ·exact aOu _ q
    ·rcases aNe.1 q with q|q
     ·exact absurd (by rw[<-q2,q,k2]) Xp.symm
     ·exact aNZ _ q
   ·rw[aOv];exact⟨c1,c2.2,fun x hx z hz=>c3 x hx z (by simp[hz])⟩
   ·intro k o' sM hl e' he hb;by_cases Xp:i=k
    ·subst Xp;rw[h2]at sM;cases sM
     exact getD_set_true (h3 e' he hb)
    ·rw[getD_set_ne false Xp]at hl;exact getD_set_true (hD k o' sM hl e' he hb)
end
end
section
variable{E:Env}{P:Program}{pc:Pc}{ic yc:Ic}{dr:Bool}{ts ts':List AV}{H H':Hp}{aR nid':Nat}{o:Oper}{b:Nat}{ops:Array Oper}
variable{ι:cT}{w:World}{Lo:Nat->Prop}{w0:World}{a:Act}{B:Nat}
def items(E:Env):Nat->Nat->List Oper->List Item
 |_,_,[]=>[]
 |k,aR,o::rest=>(k,aR,o)::items E (k+1) (if bW E o then aR+1 else aR) rest
def aaG:Nat->List Touch->List (Nat×Touch)
 |_,[]=>[]
 |k,t::l=>(k,t)::aaG (k+1) l
def Dp:∀{l:List Touch} {k j:Nat} {t:Touch},(j,t)∈aaG k l->∃d,j=k+d/\l[d]?=some t
 |[],_,_,_,h=>by simp[aaG]at h
 |x::l,k,j,t,h=>by
  rcases aNe.1 h with h|h
  ·cases h;exact⟨0,rfl,rfl⟩
  ·obtain⟨d,h1,h2⟩:=Dp h;exact⟨d+1,by omega,by simpa using h2⟩
def F9:∀(rest:List Oper) (k aR:Nat) (ts:List AV) (H:Hp) (t:List AV) (h:Hp) (l:List Touch),pz E pc ic yc ops.toList rest aR ts H=some (t,h,l)->
  Af E pc ic yc ops (items E k aR rest) ts H=some (t,h,aaG k l)
 |[],k,aR,ts,H,t,h,l,hr=>by
  unfold pz at hr;cases hr;rfl
 |o::rest,k,aR,ts,H,t,h,l,hr=>by
  unfold pz at hr;split at hr
  ·cases hr
  rename_i il;split at hr
  case h_2=>cases hr
  rename_i ts1 e dx;split at hr
  case h_2=>cases hr
  rename_i t' h' l' tM;cases hr
  have:∃v,ts1=bA o.dst v ts/\kP E pc ic yc ops aR o ts H=some (v,e):=by
   unfold bV at dx;unfold kP;rw[if_neg il];split at dx
   ·rename_i hw;rw[if_pos hw];split at dx
    ·rename_i v e' SB;cases dx;exact⟨v,rfl,SB⟩
    ·cases dx
   ·rename_i hw;rw[if_neg hw];cases dx;exact⟨bT,rfl,rfl⟩
  obtain⟨v,rfl,hd⟩:=this;exact Rm (it:=(k,aR,o)) hd (F9 rest (k+1) _ _ _ _ _ _ tM)
def z6:∀{rest:List Oper} {k aR:Nat} {it:Item},it∈items E k aR rest->∃d,it.1=k+d/\rest[d]?=some it.2.2/\aR<=it.2.1
 |[],_,_,_,h=>by simp[items]at h
 |o::rest,k,aR,it,h=>by
  rcases aNe.1 h with h|h
  ·subst h;exact⟨0,rfl,rfl,Nat.le_refl _⟩
  ·obtain⟨d,h1,h2,h3⟩:=z6 h;refine⟨d+1,by omega,by simpa using h2,?_⟩;split at h3<;>omega
def FK:∀{rest:List Oper} {k aR d:Nat} {o:Oper},rest[d]?=some o->∃it,it∈items E k aR rest/\it.1=k+d
 |[],_,_,_,_,h=>by simp at h
 |x::rest,k,aR,0,o,h=>⟨_,aOw ..,rfl⟩
 |x::rest,k,aR,d+1,o,h=>by
  obtain⟨it,h1,h2⟩:=FK (k:=k+1) (aR:=if bW E x then aR+1 else aR) (d:=d) (rest:=rest) (by simpa using h);exact⟨it,aOk _ h1,by omega⟩
def FJ:∀(rest:List Oper) (k aR:Nat),(items E k aR rest).length=rest.length
 |[],_,_=>rfl
 |_::rest,k,aR=>by simp[items,FJ rest]
def Dc:∀(rest:List Oper) (k aR:Nat),(items E k aR rest).Pairwise (fun x y=>x.1<y.1/\Pv E x y)
 |[],_,_=>.nil
 |o::rest,k,aR=>by
  refine aOp.2 ⟨fun y hy=>?_,Dc rest _ _⟩;obtain⟨d,h1,h2,h3⟩:=z6 hy;refine⟨by simp only;omega,fun l1 _=>?_⟩;simp only at l1⊢;rw[l1]at h3;simp only[if_true]at h3;omega
def ahL{ps:List (Nat×Nat)}{l:List Touch}(h:ps.all (rJ l)=true):TOk ps (aaG 0 l):=by
 intro j i tj ti hm hj hi;obtain⟨d,h1,h2⟩:=Dp hj;obtain⟨d',h3,h4⟩:=Dp hi
 have:=aMf.1 h _ hm
 unfold rJ at this;simp only[Nat.zero_add]at h1 h3;rw[h1,h3,h2,h4]at this;obtain⟨r1,w1⟩:=tj;obtain⟨r2,w2⟩:=ti;simp only[aM6]at this;obtain⟨⟨a1,a2⟩,a3⟩:=this;exact⟨wD.1 a1,wD.1 a2,wD.1 a3⟩
def aek(k b:Nat):(H++aLu k dp)[b]?=H[b]?∨(H[b]?=none/\(H++aLu k dp)[b]?=some dp):=by
 rw[List.getElem?_append]
 split
 ·exact .inl rfl
 ·rename_i hb;rw[List.getElem?_replicate]
  split
  ·exact .inr ⟨aLv (by omega),rfl⟩
  ·exact .inl (aLv (by omega)).symm
def ua{k b:Nat}{dI:cE}(h:(H++aLu k dp)[b]?=some dI)(hs:dI.st≠ .dead):H[b]?=some dI:=by
 rcases aek (H:=H) k b with q|⟨_,q⟩
 ·rw[<-q];exact h
 ·rw[q]at h;cases h;exact absurd rfl hs
def DB(k:Nat):Live Lo ι (H++aLu k dp)=Live Lo ι H:=by
 refine Live.congr fun c=>⟨?_,?_⟩
 ·rintro(h|⟨b,dI,co,h1,h2,h3⟩)
  ·exact .inl h
  ·exact .inr ⟨b,dI,co,ua h1 (by rw[h2];simp),h2,h3⟩
 ·rintro(h|⟨b,dI,co,h1,h2,h3⟩)
  ·exact .inl h
  ·refine .inr ⟨b,dI,co,?_,h2,h3⟩;rw[aOr (aLq.1 h1).1];exact h1
def fT.pad(S:fT E Lo w0 ι H w)(k:Nat):fT E Lo w0 ι (H++aLu k dp) w:=by
 refine⟨S.below,S.lo,fun b p hp=>?_,?_,?_,?_,?_,?_⟩
 ·have:=S.Ik b p hp
  exact⟨by simp;omega,this.2⟩
 ·intro b dI hb hd;rw[DB];exact S.obj b dI (ua hb hd) hd
 ·intro b b' dI blk' c co co' h1 h2 h3 h4 h5 h6;exact S.inj b b' dI blk' c co co' (ua h1 (by rw[h2];simp)) h2 (ua h3 (by rw[h4];simp)) h4 h5 h6
 ·rw[DB];exact S.glob
 ·intro b dI h1 h2;exact S.qa b dI (ua h1 (by rw[h2];simp)) h2
 ·intro b p hp;rw[aOr (S.Ik b p hp).1];exact S.res b p hp
def Wu(V:Valid E P)(O:o5 E P){rec:Cd}(jE:nj E P rec):L0 E P rec:=by
 intro id ops ts H ts' H' h G1 F hF B Lo w0 ι w a hB BF S Q hk;unfold x6 at h;split at h
 case h_2=>cases h
 rename_i t hh l az3;split at h
 case isFalse=>cases h
 rename_i XC;cases h;have S1:=S.Bs.pad (ops.toList.countP (bW E));have D:=S1.drew (w':={w with drawn:=w.drawn+1}) rfl rfl rfl rfl;have X:Ext w (Live Lo ι H) {w with drawn:=w.drawn+1} (Live Lo ι (H++aLu (ops.toList.countP (bW E)) dp)):=by
  have:=D.2
  rw[DB]at this⊢;exact this
 have atJ:(Array.replicate ops.size false).size=ops.size:=by simp
 refine wpIn_region_any V.mixed ?_;refine PR V (vt V O jE) (yQ V O jE) (oJ V jE) hF G1 ops.size (items E 0 H.length ops.toList) _ ts _ _ ι _ a ?_ atJ (fun it hit=>?_) (fun k o sM _=>?_) (Dc _ _ _) (fun k o sM hl=>?_)
  (F9 ops.toList 0 H.length _ _ _ _ _ az3) (ahL ?_) ⟨D.1,Rs.ext X _ _ _ _ (cT.le_refl _) S.tm,S.S8.ext X rfl⟩ (hk.chain (cT.le_refl _) X)
 ·rw[FJ];simp
 ·obtain⟨d,h1,h2,_⟩:=z6 hit;simp only[Nat.zero_add]at h1;rw[h1,<-aLR];refine⟨h2,?_⟩
  have:d<ops.size:=by
   have:=(aLq.1 h2).1
   simpa using this
  simp[this]
 ·obtain⟨it,h1,h2⟩:=FK (E:=E) (k:=0) (aR:=H.length) (d:=k) (rest:=ops.toList) (o:=o) (by rw[aLR];exact sM);exact⟨it,h1,by omega⟩
 ·exfalso
  have:=(aOi.1 sM).1
  simp[this]at hl
 ·have:ops.toList.length=ops.size:=by simp
  rw[this]at XC;exact XC
def GJ(V:Valid E P)(O:o5 E P)(n:Nat):lY E P (call E n):=
 vt V O (tu V O (fun rec h=>Wu V O h) n).1
end
def Nk:TypeDesc->Bool
 |.struct _|.array .. =>true
 |_=>false
def Nl:Value->Bool
 |.agg _=>true
 |_=>false
def zeroOf(isA:Bool)(size:Nat)(z:Value):Option (List AV):=
 match e9 (Bb 19) z.cells.toList with
 |some cs=>if cs.length==size&&Nl z==isA then some cs else none
 |none=>none
def aal(P:Program)(t:Nat):Option sk:=
 match P.info? t,P.underlying t with
 |some i,some u=>
  if Nk u||i.size==1 then
   some {cD:=u,isAgg:=Nk u,size:=i.size,bytes:=i.bytes,zero:=i.zero.bind (zeroOf (Nk u) i.size),dK:=!P.stoodInHeld t&&!P.eqGuardType P.depth t}
  else none
 |_,_=>none
def ae4{E:Env}{P:Program}{t:Nat}{i:sk}(h:aal P t=some i):anL E P t i:=by
 unfold aal at h;split at h
 case h_2=>cases h
 rename_i ti u h1 h2;split at h
 case isFalse=>cases h
 rename_i hc;cases h;refine⟨h2,?_,⟨ti,h1,rfl,rfl,fun cs pN=>?_⟩,?_,?_⟩
 ·cases u<;>rfl
 ·simp only[Option.bind_eq_some_iff]at pN;obtain⟨z,g1,g2⟩:=pN;refine⟨z,g1,?_⟩;unfold zeroOf at g2;split at g2
  case h_2=>cases g2
  rename_i As hm;split at g2
  case isFalse=>cases g2
  rename_i hc';cases g2;simp only[aM6,beq_iff_eq]at hc';refine⟨hm,hc'.1,fun ha=>?_,fun ha=>?_⟩
  ·simp only at ha
   have:=hc'.2.trans ha
   cases z<;>simp[Nl]at this
   exact⟨_,rfl⟩
  ·simp only at ha
   have:=hc'.2.trans ha
   cases z<;>simp[Nl]at this<;>rfl
 ·intro ha;simp only at ha⊢;simpa[ha]using hc
 ·intro he;simpa using he
def acR(P:Program)(imp eD skip:List Nat)(f:Nat):Option FnI:=
 if skip.contains f then none else match P.funcs[f]? with
 |some fn=>match fn.body with
  |some c=>some {code:=c,ntmps:=fn.ntmps,results:=fn.results.toList,pure:=!imp.contains f,eD:=eD.contains f}
  |none=>none
 |none=>none
def Wy(E:Env)(P:Program):Bool:=
 P.funcs.all (fun fn=>fn.name != "runtime.NumGoroutine")&&P.follows .mixedOrders&&
 (List.range P.funcs.size).all fun f=>match E.fn f with
  |some fi=>codeOk E fi.code
  |none=>true
def aap{E:Env}{P:Program}{imp eD skip:List Nat}(ht:E.ty=aal P)(hf:E.fn=acR P imp eD skip)(h:Wy E P=true):Valid E P:=by
 unfold Wy at h;simp only[aM6]at h;obtain⟨⟨h1,h2⟩,h3⟩:=h;refine⟨fun t i M8=>ae4 (by rw[<-ht];exact M8),fun f fi lT=>?_,h2⟩;have azD:=lT;rw[hf]at lT;unfold acR at lT;split at lT
 ·cases lT
 split at lT
 case h_2=>cases lT
 rename_i fn fC;split at lT
 case h_2=>cases lT
 rename_i c hc;cases lT;refine⟨fn,fC,hc,rfl,rfl,?_,?_⟩
 ·have:=(aOm.1 h1) fn (Array.mem_of_getElem? fC)
  simpa using this
 ·have eh:=(aOi.1 fC).1
  have:=aMf.1 h3 f (aOo.2 eh)
  rw[azD]at this;exact this
def nw(E:Env)(f:Nat):Bool:=match E.fn f with
 |some fi=>codeOk E fi.code
 |none=>true
def LB{E:Env}{P:Program}{imp eD skip:List Nat}(ht:E.ty=aal P)(hf:E.fn=acR P imp eD skip)(h1:P.funcs.all (fun fn=>fn.name != "runtime.NumGoroutine")=true)
  (h2:P.follows .mixedOrders=true) (h3:∀f,f<P.funcs.size->nw E f=true):Valid E P:=by
 refine aap ht hf ?_;unfold Wy;simp only[h1,h2,Bool.true_and];exact aMf.2 fun f hf=>h3 f (aOo.1 hf)
def dR{p:Nat->Bool}{s n f:Nat}(h:(List.range' s n).all p=true)(h1:s<=f:=by omega)(h2:f<s+n:=by omega):p f=true:=aMf.1 h f (List.mem_range'_1.2 ⟨h1,h2⟩)
noncomputable section
def ah2:IntKind->IntKind->Bool
 |.i8,.i8|.i16,.i16|.i32,.i32|.i64,.i64|.u8,.u8|.u16,.u16|.u32,.u32|.u64,.u64=>true
 |a,b=>decide (a=b)
def abp{a b:IntKind}(h:ah2 a b=true):a=b:=by
 unfold ah2 at h;split at h<;>first|rfl|simpa using h
mutual
def mJ:AV->AV->Bool
 |.int k n,.int j m=>n==m&&ah2 k j
 |.bool a,.bool b=>a==b
 |.str a,.str b=>a==b
 |.gQ,.gQ=>true
 |.cS a i,.cS b j=>i==j&&vL a b
 |.ie a i,.ie b j=>a==b&&i==j
 |.aH,.aH=>true
 |.dw,.dw=>true
 |.aK a i,.aK b j=>i==j&&vL a b
 |.gb,.gb=>true
 |.vV a c,.vV b d=>vL a b&&vL c d
 |.fR,.fR=>true
 |.func f a c,.func g b d=>f==g&&vL a b&&vL c d
 |.nilIface,.nilIface=>true
 |.iface t a,.iface u b=>t==u&&mJ a b
 |.agg a,.agg b=>vL a b
 |.tuple a,.tuple b=>vL a b
 |_,_=>false
def vL:List AV->List AV->Bool
 |[],[]=>true
 |a::a_,b::bs=>mJ a b&&vL a_ bs
 |_,_=>false
end
mutual
def GB:∀(a b:AV),mJ a b=true->a=b
 |.int k n,b,h=>by
  cases b<;>simp only[mJ,aLT,aM6,beq_iff_eq]at h
  rw[h.1,abp h.2]
 |.bool a,b,h=>by cases b<;>simp only[mJ,aLT,beq_iff_eq]at h;rw[h]
 |.str a,b,h=>by cases b<;>simp only[mJ,aLT,beq_iff_eq]at h;rw[h]
 |.gQ,b,h=>by cases b<;>simp only[mJ,aLT]at h;rfl
 |.bK ..,b,h=>by cases b<;>simp[mJ]at h
 |.cS a i,b,h=>by
  cases b<;>simp only[mJ,aLT,aM6,beq_iff_eq]at h
  rw[h.1,kK _ _ h.2]
 |.ie a i,b,h=>by
  cases b<;>simp only[mJ,aLT,aM6,beq_iff_eq]at h
  rw[h.1,h.2]
 |.aH,b,h=>by cases b<;>simp only[mJ,aLT]at h;rfl
 |.dw,b,h=>by cases b<;>simp only[mJ,aLT]at h;rfl
 |.aI ..,b,h=>by cases b<;>simp[mJ]at h
 |.aK a i,b,h=>by
  cases b<;>simp only[mJ,aLT,aM6,beq_iff_eq]at h
  rw[h.1,kK _ _ h.2]
 |.gb,b,h=>by cases b<;>simp only[mJ,aLT]at h;rfl
 |.eR _,b,h=>by cases b<;>simp[mJ]at h
 |.vV a c,b,h=>by
  cases b<;>simp only[mJ,aLT,aM6]at h
  rw[kK _ _ h.1,kK _ _ h.2]
 |.fR,b,h=>by cases b<;>simp only[mJ,aLT]at h;rfl
 |.func f a c,b,h=>by
  cases b<;>simp only[mJ,aLT,aM6,beq_iff_eq]at h
  rw[h.1.1,kK _ _ h.1.2,kK _ _ h.2]
 |.nilIface,b,h=>by cases b<;>simp only[mJ,aLT]at h;rfl
 |.iface t a,b,h=>by
  cases b<;>simp only[mJ,aLT,aM6,beq_iff_eq]at h
  rw[h.1,GB _ _ h.2]
 |.agg a,b,h=>by
  cases b<;>simp only[mJ,aLT]at h
  rw[kK _ _ h]
 |.tuple a,b,h=>by
  cases b<;>simp only[mJ,aLT]at h
  rw[kK _ _ h]
 |.yield l,b,h=>by cases b<;>simp[mJ]at h
def kK:∀(a b:List AV),vL a b=true->a=b
 |[],b,h=>by cases b<;>simp[vL]at h;rfl
 |x::xs,b,h=>by
  cases b with
  |nil=>simp[vL]at h
  |cons y ys=>
   simp only[vL,aM6]at h;rw[GB _ _ h.1,kK _ _ h.2]
end
abbrev aX:=List (List AV×AV)
abbrev Table:=List (Nat×aX)
def Qa:aX->List AV->Option AV
 |[],_=>none
 |(a_,r)::K,args=>if vL a_ args then some r else Qa K args
def s9(E:Env)(n:Nat)(f:Nat)(K:aX):Bool:=K.all fun e=>match call E n f e.1 with
 |some v=>mJ v e.2
 |none=>false
def fl(E:Env)(n:Nat)(T:Table):Bool:=T.all fun p=>s9 E n p.1 p.2
def Fw:∀{K:aX} {args:List AV} {r:AV},Qa K args=some r->(args,r)∈K
 |[],_,_,h=>by cases h
 |(a_,r')::K,args,r,h=>by
  unfold Qa at h;split at h
  ·rename_i hb;cases h;rw[kK _ _ hb];simp
  ·exact aOk _ (Fw h)
def gm{E:Env}(x:Nat->List AV->Option AV)(y:Nat->List AV->Hp->Option (AV×Hp)):∀c,codeOk {E with ov:=x,rH:=y} c=codeOk E c
 |.seq a b=>by simp only[codeOk,gm x y a,gm x y b]
 |.cond _ a b=>by simp only[codeOk,gm x y a,gm x y b]
 |.block _ a=>by simp only[codeOk,gm x y a]
 |.loop a=>by simp only[codeOk,gm x y a]
 |.scope a=>by simp only[codeOk,gm x y a]
 |.rangeFunc _ _ a b=>by simp only[codeOk,gm x y a,gm x y b]
 |.region id ops draw=>rfl
 |.skip=>rfl
 |.exit _=>rfl
 |.label _=>rfl
 |.goto _=>rfl
 |.ret=>rfl
 |.refuse _=>rfl
def Valid.ov{E:Env}{P:Program}(V:Valid E P)(x:Nat->List AV->Option AV)(y:Nat->List AV->Hp->Option (AV×Hp)):Valid {E with ov:=x,rH:=y} P:=
 ⟨fun t i h=>by
  obtain⟨h1,h2,h3,h4,h5⟩:=V.ty t i h;exact⟨h1,h2,h3,h4,h5⟩,
  fun f fi h=>by
  obtain⟨fn,h1,h2,h3,h4,h5,h6⟩:=V.fn f fi h;exact⟨fn,h1,h2,h3,h4,h5,by rw[gm];exact h6⟩,V.mixed⟩
def lY.glob{E E':Env}{P:Program}{pc:Pc}(h:lY E P pc)(hg:E'.glob=E.glob):lY E' P pc:=fun f a_ r hp L w vs hl Xn ha=>
 h f a_ r hp L w vs hl (fun g cs q=>Xn g cs (by rw[hg];exact q)) ha
def fT.env{E E':Env}{Lo:Nat->Prop}{w0:World}{ι:cT}{H:Hp}{w:World}(hg:E'.glob=E.glob)(hc:∀c,codeOk E' c=codeOk E c)(S:fT E Lo w0 ι H w):fT E' Lo w0 ι H w:=
 ⟨S.below,S.lo,S.Ik,S.obj,S.inj,fun g cs h=>S.glob g cs (by rw[<-hg];exact h),fun b dI h1 h2=>by
  have:=S.qa b dI h1 h2
  cases dI<;>simp only[cE.qa]at this⊢
  simp only[hc];exact this,S.res⟩
def qt.env{E E':Env}{P:Program}{ic:Ic}(h:qt E P ic)(hg:E'.glob=E.glob)(hc:∀c,codeOk E' c=codeOk E c):qt E' P ic:=fun f a_ H v H2 hp Lo w0 ι w vs S ha=>
 (h f a_ H v H2 hp Lo w0 ι w vs (S.env hg.symm (fun c=>(hc c).symm)) ha).mono fun cv w' ⟨ι',h1,h2,h3,h4⟩=>⟨ι',h1,h2.env hg hc,h3,h4⟩
end
def Gx(a b:Pc):Prop:=∀f a_ r,a f a_=some r->b f a_=some r
def vJ(a b:Ic):Prop:=∀f a_ H r,a f a_ H=some r->b f a_ H=some r
def vI(a b:Cd):Prop:=∀c ts H r,a c ts H=some r->b c ts H=some r
def vI.refl(a:Cd):vI a a:=fun _ _ _ _ h=>h
def vI.trans{a b c:Cd}(h:vI a b)(k:vI b c):vI a c:=fun _ _ _ _ q=>k _ _ _ _ (h _ _ _ _ q)
section
variable{E:Env}{rec EX:Cd}
def lK(h:vI rec EX):Gx (jF E rec) (jF E EX):=by
 intro f a_ r hr;unfold jF at hr⊢;cases kh:E.ov f a_ with
 |some q=>simp only[kh]at hr⊢;exact hr
 |none=>
  simp only[kh]at hr⊢;cases lT:E.fn f with
  |none=>simp only[lT]at hr;cases hr
  |some fi=>
   simp only[lT]at hr⊢;by_cases hd:(!(fi.pure||fi.eD))=true
   ·rw[if_pos hd]at hr;cases hr
   ·rw[if_neg hd]at hr⊢;cases jE:rec fi.code (a_++aLu (fi.ntmps-a_.length) bT) []with
    |none=>rw[jE]at hr;cases hr
    |some x=>rw[h _ _ _ _ jE];rw[jE]at hr;exact hr
def Lb(h:vI rec EX):vJ (oI E rec) (oI E EX):=by
 intro f a_ H r hr;unfold oI at hr⊢;cases lT:E.fn f with
 |none=>simp only[lT]at hr;cases hr
 |some fi=>
  simp only[lT]at hr⊢;cases jE:rec fi.code (a_++aLu (fi.ntmps-a_.length) bT) H with
  |none=>rw[jE]at hr;cases hr
  |some x=>rw[h _ _ _ _ jE];rw[jE]at hr;exact hr
def jW(h:vI rec EX):vJ (kQ E rec) (kQ E EX):=by
 intro f a_ H r hr;unfold kQ at hr⊢;cases kh:E.rH f a_ H with
 |some q=>simp only[kh]at hr⊢;exact hr
 |none=>simp only[kh]at hr⊢;exact Lb h _ _ _ _ hr
def jX(h:vI rec EX):vJ (lL rec) (lL EX):=by
 intro l a_ H r hr;simp only[lL]at hr⊢;cases q0:H[l]? with
 |none=>simp only[q0]at hr;cases hr
 |some b0=>
  cases b0 with
  |cells _ _=>simp only[q0]at hr;cases hr
  |map _ _ _=>simp only[q0]at hr;cases hr
  |iF _ _=>simp only[q0]at hr;cases hr
  |loop st im ts ps assign body=>
   cases st<;>try (simp only[q0]at hr;cases hr)
   simp only[q0]at hr⊢;cases q1:HN ts ps a_ with
   |none=>simp only[q1]at hr;cases hr
   |some ts'=>
    simp only[q1]at hr⊢;cases q2:rec assign ts' H with
    |none=>simp only[q2]at hr;cases hr
    |some x=>
     obtain⟨ex,t1,H1⟩:=x;rw[h _ _ _ _ q2];cases ex<;>try (simp only[q2]at hr;cases hr)
     simp only[q2]at hr⊢;cases q3:H1[l]? with
     |none=>simp only[q3]at hr;cases hr
     |some b1=>
      cases b1 with
      |cells _ _=>simp only[q3]at hr;cases hr
      |map _ _ _=>simp only[q3]at hr;cases hr
      |iF _ _=>simp only[q3]at hr;cases hr
      |loop st1 avi ts1 ps1 as1 b1=>
       cases st1<;>try (simp only[q3]at hr;cases hr)
       simp only[q3]at hr⊢;cases q4:rec body t1 (H1.set l (.loop .busy avi ts1 ps1 as1 b1))with
       |none=>rw[q4]at hr;cases hr
       |some y=>rw[h _ _ _ _ q4];rw[q4]at hr;exact hr
variable{pc pc':Pc}{ic ic' yc yc':Ic}{dr:Bool}
def map_le{α β:Type}{a b:Option α}{g:α->β}{r:β}(hab:∀x,a=some x->b=some x)(h:a.map g=some r):b.map g=some r:=by
 cases a with
 |none=>cases h
 |some x=>rw[hab x rfl];exact h
def VZ(hp:Gx pc pc')(hi:vJ ic ic')(hy:vJ yc yc'){H:Hp}{fv:AV}{args:List AV}{r}(h:ke E pc ic yc dr H fv args=some r):ke E pc' ic' yc' dr H fv args=some r:=by
 unfold ke at h⊢;cases fv with
 |func f first cap=>
  simp only at h⊢;have key:∀(c:Bool) (h:(if c=true then match bX H (first++args++cap)with
    |some (a_,bs)=>Option.map (fun v=>(v,if bQ v=true then cF.looks bs else cF.marks bs)) (pc f a_)
    |none=>none
   else(match ic f (first++args++cap) H with
    |some (v,h)=>if(dr&&!sf H h)=true then none else some (v,cF.Ep h)
    |none=>none))=some r),
   (if c=true then match bX H (first++args++cap)with
    |some (a_,bs)=>Option.map (fun v=>(v,if bQ v=true then cF.looks bs else cF.marks bs)) (pc' f a_)
    |none=>none
   else(match ic' f (first++args++cap) H with
    |some (v,h)=>if(dr&&!sf H h)=true then none else some (v,cF.Ep h)
    |none=>none))=some r:=by
   intro c h;cases c with
   |true=>
    rw[if_pos rfl]at h⊢;cases hf:bX H (first++args++cap)with
    |none=>rw[hf]at h;cases h
    |some x=>rw[hf]at h;exact map_le (fun _ q=>hp _ _ _ q) h
   |false=>
    rw[if_neg (by simp)]at h⊢;cases hf:ic f (first++args++cap) H with
    |none=>rw[hf]at h;cases h
    |some x=>rw[hf]at h;rw[hi _ _ _ _ hf];exact h
  split at h<;>exact key _ h
 |yield l=>exact map_le (fun _ q=>hy _ _ _ _ q) h
 |_=>cases h
def Zi(hp:Gx pc pc')(hi:vJ ic ic')(hy:vJ yc yc'){ts:List AV}{H:Hp}{aR:Nat}{o:Oper}{r}(h:dH E pc ic yc dr ts H aR o=some r):dH E pc' ic' yc' dr ts H aR o=some r:=by
 by_cases hc:∃c f,o.op=.call c/\c.callee=.value f
 ·obtain⟨c,f,h1,h2⟩:=hc;unfold dH at h⊢;simp only[h1,h2]at h⊢;cases q1:bU ts f with
  |none=>simp only[q1]at h;cases h
  |some fv=>
   cases q2:kr ts c.args.toList with
   |none=>simp only[q1,q2]at h;cases h
   |some a_=>
    simp only[q1,q2]at h⊢;exact VZ hp hi hy h
 ·rw[<-h];unfold dH
  split<;>try rfl
  rename_i c SB
  split<;>try rfl
  rename_i f mQ;exact absurd ⟨c,f,SB,mQ⟩ hc
def oO(hp:Gx pc pc')(hi:vJ ic ic')(hy:vJ yc yc'){ops:List Oper}{ts:List AV}{H:Hp}{aR:Nat}{o:Oper}{r}(h:bV E pc ic yc dr ops aR o ts H=some r):bV E pc' ic' yc' dr ops aR o ts H=some r:=by
 unfold bV at h⊢;by_cases hw:bE ops ts o=true
 ·rw[if_pos hw]at h⊢;cases q:dH E pc ic yc dr ts H aR o with
  |none=>rw[q]at h;cases h
  |some x=>rw[Zi hp hi hy q];rw[q]at h;exact h
 ·rw[if_neg hw]at h⊢;exact h
def rF(hp:Gx pc pc')(hi:vJ ic ic')(hy:vJ yc yc'){ops:List Oper}:∀{rest:List Oper} {ts:List AV} {H:Hp} {r},qi E pc ic yc ops rest ts H=some r->qi E pc' ic' yc' ops rest ts H=some r
 |[],_,_,_,h=>h
 |o::rest,ts,H,r,h=>by
  unfold qi at h⊢;cases q:bV E pc ic yc false ops H.length o ts H with
  |none=>rw[q]at h;cases h
  |some x=>
   rw[oO hp hi hy q];rw[q]at h;exact rF hp hi hy h
def uO(hp:Gx pc pc')(hi:vJ ic ic')(hy:vJ yc yc'){ops:List Oper}:∀{rest:List Oper} {aR:Nat} {ts:List AV} {H:Hp} {r},pz E pc ic yc ops rest aR ts H=some r->pz E pc' ic' yc' ops rest aR ts H=some r
 |[],_,_,_,_,h=>h
 |o::rest,aR,ts,H,r,h=>by
  unfold pz at h⊢;by_cases hc:(bW E o&&!kE H[aR]?)=true
  ·rw[if_pos hc]at h;cases h
  rw[if_neg hc]at h⊢;cases q:bV E pc ic yc true ops aR o ts H with
  |none=>rw[q]at h;cases h
  |some x=>
   rw[oO hp hi hy q];rw[q]at h;obtain⟨ts',e⟩:=x;simp only at h⊢;cases q2:pz E pc ic yc ops rest (if bW E o then aR+1 else aR) ts' (e.app H)with
   |none=>rw[q2]at h;cases h
   |some y=>
    rw[uO hp hi hy q2];rw[q2]at h;exact h
def Wt(hp:Gx pc pc')(hi:vJ ic ic')(hy:vJ yc yc'){id:Nat}{ops:List Oper}{ts:List AV}{H:Hp}{r}(h:x6 E pc ic yc id ops ts H=some r):x6 E pc' ic' yc' id ops ts H=some r:=by
 unfold x6 at h⊢;cases q:pz E pc ic yc ops ops H.length ts (H++aLu (ops.countP (bW E)) dp)with
 |none=>rw[q]at h;cases h
 |some x=>rw[uO hp hi hy q];rw[q]at h;exact h
def WD(h:vI rec EX):vI (cL E rec) (cL E EX):=by
 intro c ts H r hr;have hp:=lK (E:=E) h;have hi:=jW (E:=E) h;have hy:=jX h;cases c with
 |skip=>exact hr
 |label _=>exact hr
 |region id ops draw=>
  cases draw with
  |true=>
   simp only[cL,if_true]at hr⊢;exact map_le (fun _ q=>Wt hp hi hy q) hr
  |false=>
   simp only[cL,aLT,if_false]at hr⊢;exact map_le (fun _ q=>rF hp hi hy q) hr
 |seq a b=>
  simp only[cL]at hr⊢;cases q:rec a ts H with
  |none=>rw[q]at hr;cases hr
  |some x=>
   rw[h _ _ _ _ q];rw[q]at hr;obtain⟨ex,t,H'⟩:=x;cases ex with
   |normal=>exact h _ _ _ _ hr
   |exit _=>exact hr
   |ret=>exact hr
 |cond c a b=>
  simp only[cL]at hr⊢;cases q:bU ts c with
  |none=>rw[q]at hr;cases hr
  |some v=>
   rw[q]at hr;cases v<;>try (cases hr)
   simp only at hr⊢;exact h _ _ _ _ hr
 |block id body=>
  simp only[cL]at hr⊢;cases q:rec body ts H with
  |none=>rw[q]at hr;cases hr
  |some x=>rw[h _ _ _ _ q];rw[q]at hr;exact hr
 |loop body=>
  simp only[cL]at hr⊢;cases q:rec body ts H with
  |none=>rw[q]at hr;cases hr
  |some x=>
   rw[h _ _ _ _ q];rw[q]at hr;obtain⟨ex,t,H'⟩:=x;cases ex with
   |normal=>exact h _ _ _ _ hr
   |exit _=>exact hr
   |ret=>exact hr
 |exit id=>exact hr
 |ret=>exact hr
 |rangeFunc g ps assign body=>
  simp only[cL]at hr⊢;cases q:bU ts g with
  |none=>rw[q]at hr;cases hr
  |some v=>
   rw[q]at hr;cases v<;>try (cases hr)
   rename_i f first cap
   simp only at hr⊢;cases q1:oI E rec f (first++[.yield H.length]++cap) (H++[.loop .ready none ts ps.toList assign body])with
   |none=>rw[q1]at hr;cases hr
   |some x=>
    rw[Lb h _ _ _ _ q1];rw[q1]at hr;obtain⟨v,H2⟩:=x;simp only at hr⊢;cases q2:H2[H.length]? with
    |none=>rw[q2]at hr;cases hr
    |some b=>
     rw[q2]at hr;cases b with
     |cells _ _=>cases hr
     |map _ _ _=>cases hr
     |iF _ _=>cases hr
     |loop st im Aj Ab zu b3=>
      simp only at hr⊢;by_cases hb:st=.busy
      ·rw[if_pos hb]at hr;cases hr
      ·rw[if_neg hb]at hr⊢;cases im with
       |none=>exact hr
       |some c=>exact h _ _ _ _ hr
 |goto _=>cases hr
 |scope _=>cases hr
 |refuse _=>cases hr
def Fu:∀n,vI (bS E n) (bS E (n+1))
 |0=>fun _ _ _ _ h=>by cases h
 |n+1=>by
  show vI (cL E (bS E n)) (cL E (bS E (n+1)))
  exact WD (Fu n)
def cY{n m:Nat}(h:n<=m):vI (bS E n) (bS E m):=by
 induction h with
 |refl=>exact vI.refl _
 |step _ ih=>exact ih.trans (Fu _)
def ll{n m:Nat}(h:n<=m):Gx (call E n) (call E m):=lK (cY h)
end
def Cv(E:Env)(c:Code)(ts:List AV)(H:Hp)(Q:Ex->List AV->Hp->Prop):Prop:=∃n ex ts' H',bS E n c ts H=some (ex,ts',H')/\Q ex ts' H'
def Fn(E:Env)(f:Nat)(args:List AV)(Q:AV->Prop):Prop:=∃n r,call E n f args=some r/\Q r
def Fi(E:Env)(f:Nat)(args:List AV)(H:Hp)(Q:AV->Hp->Prop):Prop:=∃n r H',kQ E (bS E n) f args H=some (r,H')/\Q r H'
def gz(E:Env)(ops rest:List Oper)(ts:List AV)(H:Hp)(Q:List AV->Hp->Prop):Prop:=
 ∃n ts' H',qi E (jF E (bS E n)) (kQ E (bS E n)) (lL (bS E n)) ops rest ts H=some (ts',H')/\Q ts' H'
section
variable{E:Env}{ts:List AV}{H:Hp}{Q:Ex->List AV->Hp->Prop}
def Cv.mono{c:Code}{Q':Ex->List AV->Hp->Prop}(h:Cv E c ts H Q)(hq:∀ex ts' H',Q ex ts' H'->Q' ex ts' H'):Cv E c ts H Q':=by obtain⟨n,ex,ts',H',h1,h2⟩:=h;exact⟨n,ex,ts',H',h1,hq _ _ _ h2⟩
def Fn.mono{f:Nat}{args:List AV}{Q Q':AV->Prop}(h:Fn E f args Q)(hq:∀r,Q r->Q' r):Fn E f args Q':=by obtain⟨n,r,h1,h2⟩:=h;exact⟨n,r,h1,hq _ h2⟩
def Cv.skip(h:Q .normal ts H):Cv E .skip ts H Q:=⟨1,_,_,_,rfl,h⟩
def Cv.label{l}(h:Q .normal ts H):Cv E (.label l) ts H Q:=⟨1,_,_,_,rfl,h⟩
def Cv.exit{id:Nat}(h:Q (.exit id) ts H):Cv E (.exit id) ts H Q:=⟨1,_,_,_,rfl,h⟩
def Cv.ret(h:Q .ret ts H):Cv E .ret ts H Q:=⟨1,_,_,_,rfl,h⟩
def Cv.seq{a b:Code}(h:Cv E a ts H fun ex ts' H'=>match ex with|.normal=>Cv E b ts' H' Q|e=>Q e ts' H'):Cv E (.seq a b) ts H Q:=by
 obtain⟨n,ex,ts',H',h1,h2⟩:=h;cases ex with
 |normal=>
  obtain⟨m,ex2,oe,H2,k1,k2⟩:=h2;refine⟨max n m+1,ex2,oe,H2,?_,k2⟩;show cL E (bS E (max n m)) (.seq a b) ts H=_
  unfold cL;simp only[cY (aOt n m) _ _ _ _ h1];exact cY (aOs n m) _ _ _ _ k1
 |exit id=>
  refine⟨n+1,_,_,_,?_,h2⟩;show cL E (bS E n) (.seq a b) ts H=_
  unfold cL;simp only[h1]
 |ret=>
  refine⟨n+1,_,_,_,?_,h2⟩;show cL E (bS E n) (.seq a b) ts H=_
  unfold cL;simp only[h1]
def Cv.cond{c:Operand}{a b:Code}{t:Bool}(hc:bU ts c=some (.bool t))(h:Cv E (if t then a else b) ts H Q):Cv E (.cond c a b) ts H Q:=by
 obtain⟨n,ex,ts',H',h1,h2⟩:=h;refine⟨n+1,ex,ts',H',?_,h2⟩;show cL E (bS E n) (.cond c a b) ts H=_
 unfold cL;simp only[hc];exact h1
def Cv.block{id:Nat}{c:Code}(h:Cv E c ts H fun ex ts' H'=>match ex with|.exit Nc=>if Nc=id then Q .normal ts' H' else Q (.exit Nc) ts' H'|e=>Q e ts' H'):Cv E (.block id c) ts H Q:=by
 obtain⟨n,ex,ts',H',h1,h2⟩:=h;cases ex with
 |normal=>
  refine⟨n+1,_,_,_,?_,h2⟩;show cL E (bS E n) (.block id c) ts H=_
  unfold cL;simp only[h1]
 |ret=>
  refine⟨n+1,_,_,_,?_,h2⟩;show cL E (bS E n) (.block id c) ts H=_
  unfold cL;simp only[h1]
 |exit Nc=>
  simp only at h2;by_cases he:Nc=id
  ·rw[if_pos he]at h2;refine⟨n+1,_,_,_,?_,h2⟩;show cL E (bS E n) (.block id c) ts H=_
   unfold cL;simp only[h1,if_pos he]
  ·rw[if_neg he]at h2;refine⟨n+1,_,_,_,?_,h2⟩;show cL E (bS E n) (.block id c) ts H=_
   unfold cL;simp only[h1,if_neg he]
def Cv.loop{body:Code}(I:Nat->List AV->Hp->Prop)(yo:∀k ts H,I k ts H->Cv E body ts H fun ex ts' H'=>match ex with
  |.normal=>∃k',k'<k/\I k' ts' H'
  |e=>Q e ts' H'):∀(k:Nat) (ts:List AV) (H:Hp),I k ts H->Cv E (.loop body) ts H Q:=by
 intro k;induction k using Nat.strongRecOn with
 |_ k ih=>
  intro ts H hI;obtain⟨n,ex,ts',H',h1,h2⟩:=yo k ts H hI;cases ex with
  |normal=>
   obtain⟨k',hk,hI'⟩:=h2;obtain⟨m,ex2,oe,H2,k1,k2⟩:=ih k' hk ts' H' hI';refine⟨max n m+1,ex2,oe,H2,?_,k2⟩;show cL E (bS E (max n m)) (.loop body) ts H=_
   unfold cL;simp only[cY (aOt n m) _ _ _ _ h1];exact cY (aOs n m) _ _ _ _ k1
  |ret=>
   refine⟨n+1,_,_,_,?_,h2⟩;show cL E (bS E n) (.loop body) ts H=_
   unfold cL;simp only[h1]
  |exit id=>
   refine⟨n+1,_,_,_,?_,h2⟩;show cL E (bS E n) (.loop body) ts H=_
   unfold cL;simp only[h1]
def Cv.round{body:Code}(h:Cv E body ts H fun ex ts' H'=>match ex with|.normal=>Cv E (.loop body) ts' H' Q|e=>Q e ts' H'):Cv E (.loop body) ts H Q:=by
 obtain⟨n,ex,ts',H',h1,h2⟩:=h;cases ex with
 |normal=>
  obtain⟨m,ex2,oe,H2,k1,k2⟩:=h2;refine⟨max n m+1,ex2,oe,H2,?_,k2⟩;show cL E (bS E (max n m)) (.loop body) ts H=_
  unfold cL;simp only[cY (aOt n m) _ _ _ _ h1];exact cY (aOs n m) _ _ _ _ k1
 |ret=>
  refine⟨n+1,_,_,_,?_,h2⟩;show cL E (bS E n) (.loop body) ts H=_
  unfold cL;simp only[h1]
 |exit id=>
  refine⟨n+1,_,_,_,?_,h2⟩;show cL E (bS E n) (.loop body) ts H=_
  unfold cL;simp only[h1]
def Cv.region{id:Nat}{ops:Array Oper}(h:gz E ops.toList ops.toList ts H (Q .normal)):Cv E (.region id ops false) ts H Q:=by
 obtain⟨n,ts',H',h1,h2⟩:=h;refine⟨n+1,_,_,_,?_,h2⟩;show cL E (bS E n) (.region id ops false) ts H=_
 unfold cL;simp only[h1,aLT,if_false,aMi]
variable{ops rest:List Oper}{q:List AV->Hp->Prop}
def gz.nil(h:q ts H):gz E ops [] ts H q:=⟨0,_,_,rfl,h⟩
def gz.step{o:Oper}{ts1:List AV}{e:cF}(h1:bV E (fun _ _=>none) (fun _ _ _=>none) (fun _ _ _=>none) false ops H.length o ts H=some (ts1,e))(h:gz E ops rest ts1 (e.app H) q):gz E ops (o::rest) ts H q:=by obtain⟨n,ts',H',k1,k2⟩:=h;refine⟨n,ts',H',?_,k2⟩;unfold qi;rw[oO (fun _ _ _ h=>by cases h) (fun _ _ _ _ h=>by cases h) (fun _ _ _ _ h=>by cases h) h1];exact k1
end
end Dv
