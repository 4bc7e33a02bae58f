/- Lemmas for AssemblyChecks; no condition. -/
import Derived.Test.YtmkjgfnicfpjpaaGreatDoorTad
set_option linter.all false
set_option maxHeartbeats 100000000
set_option maxRecDepth 100000
noncomputable section
open Bool renaming false_eq_true->aK4,and_eq_true->aMh,false_and->aNx
open Option renaming map_eq_some_iff->aKD,map_some->aLt
open List renaming getElem?_eq_some_iff->aKB,replicate->aKF,getElem?_set_ne->aNt,mem_cons_of_mem->aNu,mem_map->aMr,all_eq_true->aLq,mem_cons->aMp,mem_singleton->aMs,getElem?_set_self->aNv,mem_append->aMi,foldl_cons->aMo,mem_range->aNy,pairwise_cons->aNz,ext_getElem?->aNA,getElem?_append_left->aNB,mem_append_right->aNa,getElem?_eq_none->aKG,mem_append_left->aNE,pairwise_append->aNF,mem_cons_self->aNG,flatMap_cons->aMu
open Array renaming getElem?_eq_some_iff->aNs,all_eq_true_iff_forall_mem->aNw,getElem?_toList->aK2
open Nat renaming le_max_right->aNC,le_max_left->aND
namespace Dv
open Go Go.RowKit
section
variable{E:Env}{pc:Pc}{ic yc:Ic}{dr:Bool}{ts ts':List AV}{H H':Hp}{aP nid':Nat}{o:Oper}{b:Nat}
def kg(H:Hp)(aP:Nat)(l:List (Nat×ct)):Prop:=∀p,p∈l->p.2≠dw/\(p.1=aP∨∃dI,H[p.1]?=some dI/\dI.st=.live)
def kg.new{dI:ct}(h:dI.st=.live):kg H aP [(aP,dI)]:=fun p hp=>by
 simp only[aMs]at hp;subst hp
 exact⟨fun q=>(by rw[show dI=dw from q]at h;cases h),.inl rfl⟩
def kg.nil:kg H aP []:=fun p hp=>by simp at hp
def kg.one{k:Nat}{dI blk':ct}(h:dI.st=.live)(hk:H[k]?=some blk')(hl:blk'.st=.live):kg H aP [(k,dI)]:=fun p hp=>by
 simp only[aMs]at hp;subst hp
 exact⟨fun q=>(by rw[show dI=dw from q]at h;cases h),.inr ⟨blk',hk,hl⟩⟩
def HV{t:Nat}{p x:AV}{l:List (Nat×ct)}(h:fe E H t p x=some l):kg H aP l/\∀H',(∀q,q∈l->H'[q.1]?=H[q.1]?)->fe E H' t p x=some l:=by
 unfold fe at h;split at h
 case h_2=>cases h
 rename_i b off i hi;split at h
 case h_2=>cases h
 rename_i cs hb;split at h
 ·cases h
 rename_i hc;cases h;refine⟨.one rfl hb rfl,fun H' hw=>?_⟩;unfold fe;rw[hi];simp only;rw[hw _ (aMs.2 rfl),hb];simp only;rw[if_neg hc]
def qF{t:Nat}{m k x:AV}{l:List (Nat×ct)}(h:fU E H t m k x=some l):kg H aP l/\∀H',(∀q,q∈l->H'[q.1]?=H[q.1]?)->fU E H' t m k x=some l:=by
 have h0:=h;unfold fU at h;split at h
 case h_2=>cases h
 rename_i kt et _ _ _ _ _ b hi;split at h
 case h_2=>cases h
 rename_i ks vs hb;have main:(∃dI:ct,dI.st=.live/\l=[(b,dI)])->kg H aP l/\∀H',(∀q,q∈l->H'[q.1]?=H[q.1]?)->fU E H' t (.eS b) k x=some l:=by rintro⟨dI,hl,rfl⟩;refine⟨.one hl hb rfl,fun H' hw=>?_⟩;unfold fU at h0⊢;rw[hi]at h0⊢;simp only at h0⊢;rw[hw (b,dI) (by simp)];exact h0
 split at h
 ·cases h
 split at h
 ·split at h
  ·split at h
   ·cases h;exact main ⟨_,rfl,rfl⟩
   ·cases h
  ·cases h
 ·cases h;exact main ⟨_,rfl,rfl⟩
 ·cases h
def DR{n:Nat}{x:AV}{r:List AV}(hr:∀b,b∈ej x->o9 H H' b)(h:mX H n x=some r):mX H' n x=some r:=by
 unfold mX at h⊢;split at h
 ·exact h
 ·exact xW hr h
def OO{ei:sO}{x:AV}{r:Nat×List AV}(hr:∀b,b∈ej x->o9 H H' b)(h:qM H ei false x=some r):qM H' ei false x=some r:=by
 unfold qM at h⊢;simp only[aK4,if_false]at h⊢;split at h
 case h_2=>cases h
 rename_i n xs h1 h2;rw[h1,DR hr h2];exact h
def Er{t:Nat}{s x v:AV}{l:List (Nat×ct)}(h:dT E H aP false t s x=some (v,l)):
  kg H aP l/\∀H',(∀b,b∈ej x->o9 H H' b)->(∀q,q∈l->H'[q.1]?=H[q.1]?)->dT E H' aP false t s x=some (v,l):=by
 unfold dT at h;split at h
 case h_2=>cases h
 rename_i e _ _ _ _ _ ht;split at h
 case h_2=>cases h
 rename_i ei he;split at h
 case h_2=>cases h
 rename_i n xs o6;have red:∀H',(∀b,b∈ej x->o9 H H' b)->dT E H' aP false t s x=
   (if n=0 then(match s with|.aH|.dx|.aI .. |.aK .. =>some (s,[])|_=>none)else
    if ei.size=0||!xs.all cL||ei.zero.isNone then none else
    match s with
    |.aH=>
     if n*ei.bytes<=eU/\n<=4611686018427387904 then some (.aI aP 0 n ei.size n,[(aP,.cells .live xs)])else none
    |.aI b off len esz kc=>match H'[b]? with
     |some (.cells .live cs)=>
      if len+n<=kc then(if esz=ei.size/\off+(len+n)*esz<=cs.length then
       some (.aI b off (len+n) esz kc,[(b,.cells .live (cV cs (off+len*esz) xs))])else none)else
      if esz=ei.size/\off+len*esz<=cs.length/\(len+n)*ei.bytes<=eU/\len+n<=4611686018427387904 then
       some (.aI aP 0 (len+n) esz (len+n),[(b,.cells .dead []),(aP,.cells .live ((cs.drop off).take (len*esz)++xs))])
      else none
     |_=>none
    |_=>none):=fun H' hr=>by
  unfold dT;rw[ht];simp only;rw[he];simp only;rw[OO hr o6];cases s<;>rfl
 split at h
 ·rename_i hn;have hl:l=[]:=by
   split at h<;>first|(cases h;rfl)|cases h
  subst hl;refine⟨.nil,fun H' hr _=>?_⟩;rw[red H' hr,if_pos hn,<-h];cases s<;>rfl
 rename_i hn;split at h
 ·cases h
 rename_i hc;cases s<;>simp only at h<;>try (cases h;done)
 case aH=>
  have hl:l=[(aP,.cells .live xs)]:=by
   split at h
   ·cases h;rfl
   ·cases h
  subst hl;refine⟨.new rfl,fun H' hr _=>?_⟩;rw[red H' hr,if_neg hn,if_neg hc];exact h
 case aI b off len esz kc=>
  split at h
  case h_2=>cases h
  rename_i cs hb;have fin:∀dI,(b,dI)∈l->∀H',(∀b,b∈ej x->o9 H H' b)->(∀q,q∈l->H'[q.1]?=H[q.1]?)->dT E H' aP false t (.aI b off len esz kc) x=some (v,l):=by intro dI hm H' hr hw;rw[red H' hr,if_neg hn,if_neg hc];simp only;rw[hw (b,dI) hm,hb];exact h
  split at h
  ·split at h
   ·cases h;exact⟨.one rfl hb rfl,fin _ (aMs.2 rfl)⟩
   ·cases h
  ·split at h
   ·cases h;refine⟨fun p hp=>?_,fin (.cells .dead []) (by simp)⟩;simp only[aMp,List.not_mem_nil,or_false]at hp;rcases hp with rfl|rfl
    ·exact⟨by simp[dw],.inr ⟨_,hb,rfl⟩⟩
    ·exact⟨by simp[dw],.inl rfl⟩
   ·cases h
def xO{t:Nat}{s x v:AV}{l:List (Nat×ct)}(h:kS E aP t s x=some (v,l)):kg H aP l:=by
 unfold kS at h;split at h
 case h_2=>cases h
 split at h
 case h_2=>cases h
 split at h
 case h_2=>cases h
 split at h
 ·cases h;exact .new rfl
 ·cases h
def I1{t:Nat}{d x v:AV}{l:List (Nat×ct)}(h:s7 E H t d x=some (v,l)):
  kg H aP l/\∀H',(∀b,b∈ej x->o9 H H' b)->(∀q,q∈l->H'[q.1]?=H[q.1]?)->s7 E H' t d x=some (v,l):=by
 unfold s7 at h;split at h
 case h_2=>cases h
 rename_i e _ _ _ _ _ ht;split at h
 case h_2=>cases h
 rename_i ei he;split at h
 case h_2=>cases h
 rename_i dn xn xs h1 h2 h3;have red:∀d',d'=d->∀H',(∀b,b∈ej x->o9 H H' b)->s7 E H' t d x=
   (let n:=min xn dn
    if n=0 then(match d' with|.aH|.dx|.aI .. =>some (.int .i64 0,[])|_=>none)else
    match d' with
    |.aI b off _ esz _=>match H'[b]? with
     |some (.cells .live cs)=>
      if esz=ei.size/\off+n*esz<=cs.length/\xs.all cL then
       some (.int .i64 n,[(b,.cells .live (cV cs off (xs.take (n*esz))))])
      else none
     |_=>none
    |_=>none):=fun d' hd H' hr=>by
  subst hd;unfold s7;rw[ht];simp only;rw[he];simp only;rw[h1,h2,DR hr h3];cases d'<;>rfl
 simp only at h red;split at h
 ·rename_i hn;have hl:l=[]:=by
   split at h<;>first|(cases h;rfl)|cases h
  subst hl;refine⟨.nil,fun H' hr _=>?_⟩;rw[red d rfl H' hr,if_pos hn,<-h];cases d<;>rfl
 rename_i hn;cases d<;>simp only at h<;>try (cases h;done)
 case aI b off len esz kc=>
  split at h
  case h_2=>cases h
  rename_i cs hb;split at h
  case isFalse=>cases h
  rename_i hc;cases h;refine⟨.one rfl hb rfl,fun H' hr hw=>?_⟩;rw[red _ rfl H' hr,if_neg hn];simp only;rw[hw _ (aMs.2 rfl),hb];simp only;rw[if_pos hc]
def agV(hc:iJ E o=.s){v:AV}{e:cC}(h:dH E pc ic yc true ts H aP o=some (v,e)):
  ∃l,e=.bJ l/\kg H aP l/\∀H',(∀b,b∈lG ts o->o9 H H' b)->(∀q,q∈l->H'[q.1]?=H[q.1]?)->dH E pc ic yc true ts H' aP o=some (v,e):=by
 have key:∀{r:Option (AV×List (Nat×ct))},(r.map fun x=>(x.1,cC.bJ x.2))=some (v,e)->∃l,e=.bJ l/\r=some (v,l):=fun{r} h=>by
  rw[aKD]at h;obtain⟨⟨a,l⟩,q1,q⟩:=h;cases q;exact⟨l,rfl,q1⟩
 have akZ:∀{r:Option (List (Nat×ct))},(r.map fun l=>(bS,cC.bJ l))=some (v,e)->∃l,e=.bJ l/\v=bS/\r=some l:=fun{r} h=>by
  rw[aKD]at h;obtain⟨l,q1,q⟩:=h;cases q;exact⟨l,rfl,rfl,q1⟩
 have Km:∀{r:Option (AV×List (Nat×ct))},(r.map fun x=>(x.1,cC.bJ x.2))=some (v,e)->(∀a l,r=some (a,l)->kg H aP l)->∃l,e=.bJ l/\kg H aP l:=fun{r} h hk=>by
  obtain⟨l,h1,h2⟩:=key h;exact⟨l,h1,hk _ _ h2⟩
 have AG:∀(H':Hp),(∀b,b∈lG ts o->o9 H H' b)->∀x,x∈o.op.operands.toList->∀v,bT ts x=some v->∀b,b∈ej v->o9 H H' b:=
  fun H' hr x hx v hv b hb=>hr b (Ga hx hv hb)
 unfold dH at h;unfold iJ at hc;unfold dH;cases ho:o.op<;>simp only[ho]at hc h⊢<;>try (cases hc;done)
 case alloc t=>
  obtain⟨l,h1,h2⟩:=Km h (fun a l q=>by
   rw[aKD]at q;obtain⟨_,_,q⟩:=q;cases q;exact .new rfl)
  exact⟨l,h1,h2,fun _ _ _=>h⟩
 case box t x=>
  obtain⟨l,h1,h2⟩:=Km h (fun a l q=>by
   rw[aKD]at q;obtain⟨_,_,q⟩:=q;cases q;exact .new rfl)
  exact⟨l,h1,h2,fun _ _ _=>h⟩
 case buildSlice t len ps=>
  split at h
  case h_2=>cases h
  split at h
  case h_2=>cases h
  split at h
  case h_2=>cases h
  split at h
  case isFalse=>cases h
  rename_i yi;obtain⟨l,h1,h2⟩:=Km h (fun a l q=>by
   rw[aKD]at q;obtain⟨_,_,q⟩:=q;cases q;exact .new rfl)
  exact⟨l,h1,h2,fun _ _ _=>by rw[if_pos yi];exact h⟩
 case makeMap t r=>
  split at h
  ·obtain⟨l,h1,h2⟩:=Km h (fun a l q=>by cases q;exact .new rfl);exact⟨l,h1,h2,fun _ _ _=>h⟩
  ·obtain⟨l,h1,h2⟩:=Km h (fun a l q=>by cases q;exact .new rfl);exact⟨l,h1,h2,fun _ _ _=>h⟩
  ·cases h
 case makeSlice t x y=>
  split at h
  case h_2=>cases h
  obtain⟨l,h1,h2⟩:=Km h (fun a l q=>by
   unfold fp at q;split at q
   case h_2=>cases q
   split at q
   case h_2=>cases q
   split at q
   case h_2=>cases q
   split at q
   ·cases q;exact .new rfl
   ·cases q)
  exact⟨l,h1,h2,fun _ _ _=>h⟩
 case range t x=>
  split at h
  case h_2=>cases h
  obtain⟨l,h1,h2⟩:=Km h (fun a l q=>by cases q;exact .new rfl);exact⟨l,h1,h2,fun _ _ _=>h⟩
 case convert s d x=>
  split at h
  ·cases h
  ·simp[*]at hc
  ·rename_i z hx q1 q2 q3;rw[aKD]at h;obtain⟨y,h1,h2⟩:=h;cases h2;exact⟨[],rfl,.nil,fun _ _ _=>by rw[h1];rfl⟩
  ·cases h
 case next it s=>
  cases s
  ·cases h
  simp only at h⊢;split at h
  case h_2=>cases h
  rename_i i hit;split at h
  case h_2=>cases h
  rename_i z pos hi;have fin:∀H',(∀b,b∈lG ts o->o9 H H' b)->H'[i]?=some (.iG z pos):=fun H' hr=>
   (AG H' hr it (by simp[ho,Op.operands]) _ hit i (by simp[ej])).iG hi
  split at h
  ·rename_i hp;obtain⟨l,h1,h2⟩:=Km h (fun a l q=>by cases q;exact .one rfl hi rfl);exact⟨l,h1,h2,fun H' hr _=>by rw[fin H' hr];simp only;rw[if_pos hp];exact h⟩
  ·rename_i hp;have h':=h;simp only[aLt,Option.some.injEq,Prod.mk.injEq]at h';exact⟨[],h'.2.symm,.nil,fun H' hr _=>by rw[fin H' hr];simp only;rw[if_neg hp];exact h⟩
 case store t p x=>
  split at h
  case h_2=>cases h
  rename_i a z hp hx;obtain⟨l,rfl,rfl,h2⟩:=akZ h;obtain⟨g1,g2⟩:=HV (aP:=aP) h2;exact⟨l,rfl,g1,fun H' hr hw=>by rw[g2 H' hw];rfl⟩
 case mapUpdate t m k x=>
  split at h
  case h_2=>cases h
  rename_i a b c hp hx hy;obtain⟨l,rfl,rfl,h2⟩:=akZ h;obtain⟨g1,g2⟩:=qF (aP:=aP) h2;exact⟨l,rfl,g1,fun H' hr hw=>by rw[g2 H' hw];rfl⟩
 case insert t m k x=>
  split at h
  case h_2=>cases h
  rename_i a b c hp hx hy;obtain⟨l,rfl,rfl,h2⟩:=akZ h;obtain⟨g1,g2⟩:=qF (aP:=aP) h2;exact⟨l,rfl,g1,fun H' hr hw=>by rw[g2 H' hw];rfl⟩
 case slice t x lo hi mx=>
  split at hc<;>cases hc
 case call c=>
  cases mO:c.callee with
  |invoke r m=>simp only[mO]at h;cases h
  |value f=>
   simp only[mO]at hc;cases f<;>simp only at hc<;>try (cases hc;done)
   split at hc<;>cases hc
  |builtin bi=>
   simp only[mO]at hc h⊢;split at h
   case h_2=>cases h
   rename_i a_ has;obtain⟨l,rfl,h1⟩:=key h;have asz:∀H',(∀b,b∈lG ts o->o9 H H' b)->∀x,x∈a_->∀b,b∈ej x->o9 H H' b:=fun H' hr x hx=>by
    obtain⟨xo,k1,k2⟩:=GR has x hx;exact AG H' hr xo (by rw[ho];simp only[Op.operands,Call.operands,Array.toList_append,aMi];exact .inr k1) x k2
   cases bi<;>simp only at hc<;>try (cases hc;done)
   case append=>
    rcases sk:c.argTypes.toList with _|⟨t,_|⟨u,ats⟩⟩
    ·rw[sk]at h1;rcases a_ with _|⟨x,_|⟨y,a_⟩⟩<;>cases h1
    ·rw[sk]at h1;rcases a_ with _|⟨x,_|⟨y,a_⟩⟩<;>cases h1
    rw[sk]at h1;rcases a_ with _|⟨s,_|⟨x,a_⟩⟩
    ·cases h1
    ·cases h1
    have e1:∀H,bB E H aP .append (t::u::ats) (s::x::a_)=(match E.ty u with
     |some {cD:=.int _,..}=>kS E aP t s x
     |some _=>dT E H aP false t s x
     |none=>none):=fun H=>rfl
    rw[e1]at h1;split at h1
    ·rename_i hu;refine⟨l,rfl,xO h1,fun H' hr hw=>?_⟩;rw[e1,hu];simp only;rw[h1];rfl
    ·rename_i ui eQ hu;obtain⟨g1,g2⟩:=Er h1;refine⟨l,rfl,g1,fun H' hr hw=>?_⟩;rw[e1]
     split
     ·rename_i hu2;exact absurd (hu.symm.trans hu2) (by intro q;injection q with q;exact eQ _ _ _ _ _ _ q)
     ·rw[g2 H' (asz H' hr x (by simp)) hw];rfl
     ·rename_i hu2;rw[hu]at hu2;cases hu2
    ·cases h1
   case copy=>
    rcases sk:c.argTypes.toList with _|⟨t,ats⟩
    ·rw[sk]at h1;rcases a_ with _|⟨x,_|⟨y,a_⟩⟩<;>cases h1
    rw[sk]at h1;rcases a_ with _|⟨d,_|⟨x,a_⟩⟩
    ·rcases ats with _|⟨u,r⟩<;>cases h1
    ·rcases ats with _|⟨u,r⟩<;>cases d<;>cases h1
    have e1:∀H,bB E H aP .copy (t::ats) (d::x::a_)=s7 E H t d x:=fun H=>by
     rcases ats with _|⟨u,r⟩<;>cases d<;>rfl
    rw[e1]at h1;obtain⟨g1,g2⟩:=I1 (aP:=aP) h1;refine⟨l,rfl,g1,fun H' hr hw=>?_⟩;rw[e1,g2 H' (asz H' hr x (by simp)) hw];rfl
end
section
variable{E:Env}{pc:Pc}{ic yc:Ic}{dr:Bool}{ts ts':List AV}{H H':Hp}{aP nid':Nat}{o:Oper}{b:Nat}
def lP(H:Hp)(l:List (Nat×ct)):Hp:=l.foldl (fun H p=>cJ H p.1 p.2) H
def dk{k:Nat}{x:ct}(h:k<H.length:=by omega):cJ H k x=H.set k x:=by simp[cJ,h]
def yH:∀(l:List (Nat×ct)) (H:Hp),(∀p,p∈l->p.1<H.length)->(lP H l).length=H.length
 |[],_,_=>rfl
 |p::l,H,h=>by
  simp only[lP,aMo];rw[dk (h p (by simp))]
  have:=yH l (H.set p.1 p.2) (fun q hq=>by simpa using h q (by simp[hq]))
  simp only[lP]at this;rw[this];simp
def iO:∀(l:List (Nat×ct)) (H:Hp) (b:Nat),(∀p,p∈l->p.1<H.length)->(∀p,p∈l->p.1≠b)->(lP H l)[b]?=H[b]?
 |[],_,_,_,_=>rfl
 |p::l,H,b,h,hb=>by
  simp only[lP,aMo];rw[dk (h p (by simp))]
  have:=iO l (H.set p.1 p.2) b (fun q hq=>by simpa using h q (by simp[hq])) (fun q hq=>hb q (by simp[hq]))
  simp only[lP]at this;rw[this,aNt (hb p (by simp))]
def KY:∀(l:List (Nat×ct)) (H:Hp) (b:Nat),(∀p,p∈l->p.1<H.length)->(lP H l)[b]?=H[b]?∨∃x,(b,x)∈l/\(lP H l)[b]?=some x
 |[],_,_,_=>.inl rfl
 |p::l,H,b,h=>by
  have hl:∀q,q∈l->q.1<(H.set p.1 p.2).length:=fun q hq=>by simpa using h q (by simp[hq])
  have e:lP H (p::l)=lP (H.set p.1 p.2) l:=by simp only[lP,aMo];rw[dk (h p (by simp))]
  rw[e];rcases KY l (H.set p.1 p.2) b hl with g|⟨x,g1,g2⟩
  ·by_cases hb:p.1=b
   ·right
    refine⟨p.2,by subst hb;simp,?_⟩;rw[g,<-hb,aNv (h p (by simp))]
   ·left;rw[g,aNt hb]
  ·exact .inr ⟨x,by simp[g1],g2⟩
def uU:∀(l:List (Nat×ct)) (H H':Hp) (b:Nat),H.length=H'.length->(∀p,p∈l->p.1<H.length)->(H[b]?=H'[b]?∨∃x,(b,x)∈l)->(lP H l)[b]?=(lP H' l)[b]?
 |[],_,_,_,_,_,h=>by
  rcases h with h|⟨x,h⟩
  ·exact h
  ·simp at h
 |p::l,H,H',b,hlen,hl,h=>by
  have e:∀(H:Hp),p.1<H.length->lP H (p::l)=lP (H.set p.1 p.2) l:=fun H hp=>by simp only[lP,aMo];rw[dk hp]
  rw[e H (hl p (by simp)),e H' (by have:=hl p (by simp);omega)];refine uU l _ _ b (by simpa using hlen) (fun q hq=>by simpa using hl q (by simp[hq])) ?_;by_cases hb:p.1=b
  ·left
   have:=hl p (by simp)
   subst hb;rw[aNv this,aNv (by omega)]
  ·rw[aNt hb,aNt hb];rcases h with h|⟨x,h⟩
   ·exact .inl h
   ·rcases aMp.1 h with h|h
    ·exact absurd (by rw[<-h]) hb
    ·exact .inr ⟨x,h⟩
def Tl{l m:List (Nat×ct)}(hl:∀p,p∈l->p.1<H.length)(hm:∀p,p∈m->p.1<H.length)(hd:∀p,p∈l->∀q,q∈m->p.1≠q.1):
  lP (lP H l) m=lP (lP H m) l:=by
 have l1:=yH l H hl;have m1:=yH m H hm;apply aNA;intro b;by_cases hb:∃x,(b,x)∈m
 ·obtain⟨x,hx⟩:=hb
  have:∀p,p∈l->p.1≠b:=fun p hp=>hd p hp (b,x) hx
  rw[iO l (lP H m) b (by rw[m1];exact hl) this];exact uU m _ _ b l1 (by rw[l1];exact hm) (.inr ⟨x,hx⟩)
 ·have hn:∀p,p∈m->p.1≠b:=fun p hp q=>hb ⟨p.2,by rw[<-q];exact hp⟩
  rw[iO m (lP H l) b (by rw[l1];exact hm) hn];exact uU l _ _ b m1.symm hl (.inl (iO m H b hm hn).symm)
def SO(l m:List Nat):mark (mark H l) m=mark (mark H m) l:=by
 apply aNA;intro b;simp only[kD];by_cases h1:b∈l<;>by_cases h2:b∈m<;>simp[h1,h2]
def F8{l:List (Nat×ct)}{m:List Nat}(hl:∀p,p∈l->p.1<H.length)(hd:∀p,p∈l->p.1∉m):mark (lP H l) m=lP (mark H m) l:=by
 apply aNA;intro b;rw[kD];have ml:(mark H m).length=H.length:=Dl m H;by_cases hb:∃x,(b,x)∈l
 ·obtain⟨x,hx⟩:=hb;rw[if_neg (hd _ hx)];exact uU l _ _ b ml.symm hl (.inr ⟨x,hx⟩)
 ·have hn:∀p,p∈l->p.1≠b:=fun p hp q=>hb ⟨p.2,by rw[<-q];exact hp⟩
  rw[iO l H b hl hn,iO l (mark H m) b (by rw[ml];exact hl) hn,kD]
def TM(k:ct):k.j7.j7=k.j7:=by
 cases k
 case cells st c=>cases st<;>rfl
 case map st a b=>cases st<;>rfl
 all_goals rfl
def IF(l:List Nat)(b:Nat):o9 (mark H l) H b/\o9 H (mark H l) b:=by
 have:(mark H l)[b]?.map ct.j7=H[b]?.map ct.j7:=by
  rw[kD]
  split
  ·rw[Option.map_map];congr 1;funext k;exact TM k
  ·rfl
 exact⟨this.symm,this⟩
def TL{k:ct}(h:k.j7=dw):k=dw:=by
 cases k
 case cells st c=>cases st<;>simp[ct.j7,dw]at h⊢;exact h
 case map st a b=>cases st<;>simp[ct.j7,dw]at h
 all_goals cases h
def F7{l:List Nat}:(mark H l)[b]?=some dw↔H[b]?=some dw:=by
 rw[kD]
 split
 ·rw[aKD];constructor
  ·rintro⟨k,h1,h2⟩;rw[h1,TL h2]
  ·intro h;exact⟨_,h,rfl⟩
 ·rfl
def kW{x:Option ct}:kB x=true↔x=some dw:=by
 unfold kB dw bS
 split
 ·simp
 ·rename_i h;simp only[aK4,false_iff];exact fun q=>h q
def wo{a b:List Nat}:wk a b=true↔∀x,x∈a->x∉b:=by simp[wk]
def PV{dst:Option Nat}{v:AV}{x:Operand}(h:∀d,dst=some d->x≠ .tmp d):bT (bt dst v ts) x=bT ts x:=by
 cases dst with
 |none=>rfl
 |some d=>
  cases x with
  |tmp t=>
   have:t≠d:=fun q=>h d rfl (by rw[q])
   simp only[bT,bt];rw[aNt (fun q=>this q.symm)]
  |_=>rfl
def F9{ops:Array Oper}{d:Nat}(h:Operand.tmp d∈o.op.operands.toList):d∈o.looksAt ops:=
 aNE _ (List.mem_filterMap.2 ⟨.tmp d,h,rfl⟩)
def ad7{ops:Array Oper}{dst:Option Nat}{u:AV}(h:∀d,dst=some d->d∉o.looksAt ops):dH E pc ic yc dr (bt dst u ts) H aP o=dH E pc ic yc dr ts H aP o:=
 Tc fun x hx=>PV fun d hd q=>h d hd (F9 (by rw[<-q];exact hx))
def Ty{ops:Array Oper}{dst:Option Nat}{u:AV}(h:∀d,dst=some d->d∉o.looksAt ops):lG (bt dst u ts) o=lG ts o:=by
 unfold lG
 have:∀(l:List Operand),(∀x,x∈l->x∈o.op.operands.toList)->(l.flatMap fun x=>match bT (bt dst u ts) x with|some v=>ej v|none=>[])=(l.flatMap fun x=>match bT ts x with|some v=>ej v|none=>[]):=by
  intro l;induction l with
  |nil=>intro _;rfl
  |cons x l ih=>
   intro hl;rw[aMu,aMu,ih (fun y hy=>hl y (by simp[hy]))];rw[PV fun d hd q=>h d hd (F9 (by rw[<-q];exact hl x (by simp)))]
 exact this _ (fun _ h=>h)
def Al{ops:Array Oper}{dst:Option Nat}{u:AV}{e:cC}(h:∀d,dst=some d->d∉o.looksAt ops):bH E (bt dst u ts) o e=bH E ts o e:=by unfold bH;rw[Ty h]
def LF{ops:Array Oper}{dst:Option Nat}{u:AV}(h:∀d,dst=some d->d∉o.looksAt ops):bE ops.toList (bt dst u ts) o=bE ops.toList ts o:=by
 unfold bE
 split
 ·rfl
 ·rename_i j want hg
  split
  ·rfl
  ·rename_i d hd;cases dst with
   |none=>rfl
   |some d'=>
    have:d'≠d:=fun q=>h d' rfl (by
     unfold Oper.looksAt;rw[hg];refine aNa _ ?_;simp only[aK2]at hd;simp[hd,q])
    simp only[bt];rw[aNt this]
def put_comm{d1 d2:Option Nat}{v1 v2:AV}(h:∀d,d1=some d->d2≠some d):bt d1 v1 (bt d2 v2 ts)=bt d2 v2 (bt d1 v1 ts):=by
 cases d1<;>cases d2<;>simp only[bt]
 rename_i a b;rw[List.set_comm];exact fun q=>h a rfl (by rw[q])
end
noncomputable section
section
variable{E:Env}{pc:Pc}{ic yc:Ic}{dr:Bool}{ts ts':List AV}{H H':Hp}{aP nid':Nat}{o:Oper}{b:Nat}{ops:Array Oper}
def kP(E:Env)(pc:Pc)(ic yc:Ic)(ops:Array Oper)(aP:Nat)(o:Oper)(ts:List AV)(H:Hp):Option (AV×cC):=
 if bV E o&&!kB H[aP]? then none else if bE ops.toList ts o then dH E pc ic yc true ts H aP o else some (bS,.bJ [])
def K6{dst:Option Nat}{u:AV}(h:∀d,dst=some d->d∉o.looksAt ops):kP E pc ic yc ops aP o (bt dst u ts) H=kP E pc ic yc ops aP o ts H:=by unfold kP;rw[LF h,ad7 h]
def ale(h:bV E o=true):iJ E o=.s:=by
 unfold bV at h;unfold iJ;cases ho:o.op<;>simp only[ho]at h⊢<;>try (cases h;done)
 case convert s d x=>
  split at h
  ·rfl
  ·cases h
 case call c=>
  cases hc:c.callee with
  |builtin bi=>
   simp only[hc]at h;cases bi<;>first|rfl|(cases h;done)
  |value f=>simp only[hc]at h;cases h
  |invoke r m=>simp only[hc]at h;cases h
def ZM(hc:iJ E o=.n){v:AV}{e:cC}(h:kP E pc ic yc ops aP o ts H=some (v,e)):e=.bJ []/\∀H',kP E pc ic yc ops aP o ts H'=some (v,e):=by
 have hl:bV E o=false:=by
  cases hq:bV E o with
  |false=>rfl
  |true=>rw[ale hq]at hc;cases hc
 unfold kP at h⊢;simp only[hl,aNx,aK4,if_false]at h⊢;split at h
 ·rename_i hw;obtain⟨h1,h2⟩:=auW hc h;exact⟨h1,fun H'=>by rw[if_pos hw];exact h2 H' aP⟩
 ·rename_i hw;cases h;exact⟨rfl,fun H'=>by rw[if_neg hw]⟩
inductive Shape(E:Env)(H:Hp)(aP:Nat)(o:Oper)(t:List Nat×List Nat):cC->Prop where
 |bJ (l:List (Nat×ct)) (hk:∀p,p∈l->p.2≠dw/\p.1<H.length/\(bV E o=true/\p.1=aP∨∃dI,H[p.1]?=some dI/\dI.st=.live)) (ht:t.2=l.map (·.1)) (hr:iJ E o=.r->l=[]):Shape E H aP o t (.bJ l)
 |looks (m:List Nat) (ht:t=(m,[])):Shape E H aP o t (.looks m)
 |marks (m:List Nat) (ht:t=(m,[])):Shape E H aP o t (.marks m)
def adF{l:List (Nat×ct)}(hs:iJ E o=.s)(il:bV E o=true->kB H[aP]?=true){v:AV}(h:dH E pc ic yc true ts H aP o=some (v,.bJ l)):
  ∀p,p∈l->p.2≠dw/\p.1<H.length/\(bV E o=true/\p.1=aP∨∃dI,H[p.1]?=some dI/\dI.st=.live):=by
 intro p hp;have get:∀{aP},dH E pc ic yc true ts H aP o=some (v,.bJ l)->kg H aP l:=fun{aP} h=>by
  obtain⟨l',h1,h2,_⟩:=agV hs h;cases h1;exact h2
 cases hl:bV E o with
 |true=>
  have:=get h p hp
  refine⟨this.1,?_,?_⟩
  ·rcases this.2 with q|⟨dI,q,_⟩
   ·rw[q]
    have:=kW.1 (il hl)
    exact(aKB.1 this).1
   ·exact(aKB.1 q).1
  ·rcases this.2 with q|q
   ·exact .inl ⟨rfl,q⟩
   ·exact .inr q
 |false=>
  have a1:=get ((BP (nid':=H.length+1) hl).symm.trans h) p hp;have a2:=get ((BP (nid':=H.length+2) hl).symm.trans h) p hp
  have:∃dI,H[p.1]?=some dI/\dI.st=.live:=by
   rcases a1.2 with q|q
   ·rcases a2.2 with q'|q'
    ·omega
    ·exact q'
   ·exact q
  obtain⟨dI,g1,g2⟩:=this;exact⟨a1.1,(aKB.1 g1).1,.inr ⟨dI,g1,g2⟩⟩
def BU(hc:iJ E o=.r∨iJ E o=.s){v:AV}{e:cC}(h:kP E pc ic yc ops aP o ts H=some (v,e)):
  Shape E H aP o (bH E ts o e) e/\(bV E o=true->H[aP]?=some dw)/\
  ∀H',(∀b,b∈(bH E ts o e).1->o9 H H' b)->(∀b,b∈(bH E ts o e).2->H'[b]?=H[b]?)->(bV E o=true->H'[aP]?=some dw)->kP E pc ic yc ops aP o ts H'=some (v,e):=by
 have nu:iJ E o≠ .n:=by rcases hc with q|q<;>rw[q]<;>simp
 have Ak:∀l,bH E ts o (.bJ l)=(lG ts o,l.map (·.1)):=fun l=>by
  unfold bH
  split
  ·exact absurd ‹_› nu
  ·rfl
 have aaj:∀m,bH E ts o (.marks m)=(m,[]):=fun l=>by
  unfold bH
  split
  ·exact absurd ‹_› nu
  ·rfl
 have aai:∀m,bH E ts o (.looks m)=(m,[]):=fun l=>by
  unfold bH
  split
  ·exact absurd ‹_› nu
  ·rfl
 unfold kP at h;split at h
 ·cases h
 rename_i il;have FG:bV E o=true->kB H[aP]?=true:=fun q=>by
  rw[q]at il;simpa using il
 have cond:∀H':Hp,(bV E o=true->H'[aP]?=some dw)->¬(bV E o&&!kB H'[aP]?)=true:=fun H' hq=>by
  cases hl:bV E o with
  |false=>simp
  |true=>
   have:=kW.2 (hq hl)
   simp[this]
 split at h
 ·rename_i hw;have back:∀H',(bV E o=true->H'[aP]?=some dw)->dH E pc ic yc true ts H' aP o=some (v,e)->kP E pc ic yc ops aP o ts H'=some (v,e):=fun H' h1 h2=>by
   unfold kP;rw[if_neg (cond H' h1),if_pos hw];exact h2
  rcases hc with hc|hc
  ·rcases auX hc h with⟨rfl,hf⟩|⟨bs,he,hf⟩
   ·refine⟨.bJ [] (fun p hp=>by simp at hp) (by rw[Ak]) (fun _=>rfl),fun q=>kW.1 (FG q),fun H' h1 h2 h3=>back H' h3 (hf H' fun b hb=>h1 b (by rw[Ak];exact hb))⟩
   ·rcases he with rfl|rfl
    ·exact⟨.looks bs (aai bs),fun q=>kW.1 (FG q),fun H' h1 h2 h3=>back H' h3 (hf H' fun b hb=>h1 b (by rw[aai];exact hb))⟩
    ·exact⟨.marks bs (aaj bs),fun q=>kW.1 (FG q),fun H' h1 h2 h3=>back H' h3 (hf H' fun b hb=>h1 b (by rw[aaj];exact hb))⟩
  ·obtain⟨l,rfl,hk,hf⟩:=agV hc h;refine⟨.bJ l (adF hc FG h) (by rw[Ak]) (fun q=>by rw[hc]at q;cases q),fun q=>kW.1 (FG q),fun H' h1 h2 h3=>back H' h3 (hf H' (fun b hb=>h1 b (by rw[Ak];exact hb)) fun p hp=>h2 p.1 (by rw[Ak];exact aMr.2 ⟨p,hp,rfl⟩))⟩
 ·rename_i hw;cases h;refine⟨.bJ [] (fun p hp=>by simp at hp) (by rw[Ak]) (fun _=>rfl),fun q=>kW.1 (FG q),fun H' h1 h2 h3=>?_⟩;unfold kP;rw[if_neg (cond H' h3),if_neg hw]
section
variable{t:List Nat×List Nat}{e:cC}
def Shape.len(h:Shape E H aP o t e):(e.app H).length=H.length:=by
 cases h with
 |bJ l hk ht hr=>exact yH l H fun p hp=>(hk p hp).2.1
 |looks m ht=>rfl
 |marks m ht=>exact Dl m H
def Shape.agr(h:Shape E H aP o t e){b:Nat}(hb:b∉t.2):o9 H (e.app H) b/\o9 (e.app H) H b:=by
 cases h with
 |bJ l hk ht hr=>
  have:(lP H l)[b]?=H[b]?:=iO l H b (fun p hp=>(hk p hp).2.1) fun p hp q=>hb (by rw[ht];exact aMr.2 ⟨p,hp,q⟩)
  have e1:(cC.bJ l).app H=lP H l:=rfl;rw[e1];unfold o9;rw[this];exact⟨rfl,rfl⟩
 |looks m ht=>exact⟨rfl,rfl⟩
 |marks m ht=>exact⟨(IF m b).2,(IF m b).1⟩
def Shape.same(h:Shape E H aP o t e){b:Nat}(h1:b∉t.1)(h2:b∉t.2):(e.app H)[b]?=H[b]?:=by
 cases h with
 |bJ l hk ht hr=>exact iO l H b (fun p hp=>(hk p hp).2.1) fun p hp q=>h2 (by rw[ht];exact aMr.2 ⟨p,hp,q⟩)
 |looks m ht=>rfl
 |marks m ht=>
  subst ht;show(mark H m)[b]?=_
  rw[kD,if_neg h1]
def Shape.dead(h:Shape E H aP o t e){b:Nat}(hb:(e.app H)[b]?=some dw):H[b]?=some dw:=by
 cases h with
 |bJ l hk ht hr=>
  rcases KY l H b (fun p hp=>(hk p hp).2.1)with g|⟨x,g1,g2⟩
  ·rw[<-g];exact hb
  ·have:some x=some dw:=g2.symm.trans hb
   cases this;exact absurd rfl (hk _ g1).1
 |looks m ht=>exact hb
 |marks m ht=>exact F7.1 hb
def Shape.afX(h:Shape E H aP o t e){b:Nat}(h2:b∉t.2)(hb:H[b]?=some dw):(e.app H)[b]?=some dw:=by
 cases h with
 |bJ l hk ht hr=>
  have:(lP H l)[b]?=H[b]?:=iO l H b (fun p hp=>(hk p hp).2.1) fun p hp q=>h2 (by rw[ht];exact aMr.2 ⟨p,hp,q⟩)
  show(lP H l)[b]?=_
  rw[this];exact hb
 |looks m ht=>exact hb
 |marks m ht=>exact F7.2 hb
def Shape.keys(h:Shape E H aP o t e){b:Nat}(hb:b∈t.2):(bV E o=true/\b=aP)∨∃dI,H[b]?=some dI/\dI.st=.live:=by
 cases h with
 |bJ l hk ht hr=>
  rw[ht]at hb;obtain⟨p,hp,rfl⟩:=aMr.1 hb;exact(hk p hp).2.2
 |looks m ht=>subst ht;simp at hb
 |marks m ht=>subst ht;simp at hb
def Shape.noW(h:Shape E H aP o t e)(hc:iJ E o=.r):t.2=[]:=by
 cases h with
 |bJ l hk ht hr=>rw[ht,hr hc];rfl
 |looks m ht=>subst ht;rfl
 |marks m ht=>subst ht;rfl
end
def U3{o1 o2:Oper}{n1 n2:Nat}{t1 t2:List Nat×List Nat}{e1 e2:cC}{H1 H2:Hp}(h1:Shape E H1 n1 o1 t1 e1)(h2:Shape E H2 n2 o2 t2 e2)(l1:H1.length=H.length)(l2:H2.length=H.length)
  (d1:∀x,x∈t1.2->x∉t2.1) (d2:∀x,x∈t1.2->x∉t2.2) (d3:∀x,x∈t1.1->x∉t2.2):e2.app (e1.app H)=e1.app (e2.app H):=by
 cases h1 with
 |looks m ht=>rfl
 |bJ l hk ht hr=>
  have hl:∀p,p∈l->p.1<H.length:=fun p hp=>by rw[<-l1];exact(hk p hp).2.1
  have hm:∀p,p∈l->p.1∈t1.2:=fun p hp=>by rw[ht];exact aMr.2 ⟨p,hp,rfl⟩
  cases h2 with
  |looks m ht=>rfl
  |bJ l' sG ht' kr=>
   have oU:∀p,p∈l'->p.1<H.length:=fun p hp=>by rw[<-l2];exact(sG p hp).2.1
   exact Tl hl oU fun p hp q hq e=>d2 p.1 (hm p hp) (by rw[ht'];exact aMr.2 ⟨q,hq,e.symm⟩)
  |marks m' ht'=>
   subst ht';exact F8 hl fun p hp=>d1 p.1 (hm p hp)
 |marks m ht=>
  subst ht;cases h2 with
  |looks m ht=>rfl
  |bJ l' sG ht' kr=>
   have oU:∀p,p∈l'->p.1<H.length:=fun p hp=>by rw[<-l2];exact(sG p hp).2.1
   exact(F8 oU fun p hp hx=>d3 p.1 hx (by rw[ht'];exact aMr.2 ⟨p,hp,rfl⟩)).symm
  |marks m' ht'=>exact SO m m'
def N3{t:Nat}{p v:AV}(hk:∀b,b<H.length->H'[b]?=H[b]?)(h:dW E H t p=some v):dW E H' t p=some v:=by
 refine AM (fun b hb=>?_) h;have ek:b<H.length:=by
  cases hx:H[b]? with
  |some q=>exact(aKB.1 hx).1
  |none=>
   exfalso;cases p<;>simp[ej]at hb
   all_goals
    subst hb;simp[dW,yG,hx]at h
 unfold o9;rw[hk b ek]
def Tv(hc:yo o=true){v:AV}{e:cC}(h:kP E pc ic yc ops aP o ts H=some (v,e)):
  e=.bJ []/\∀H',(∀b,b<H.length->H'[b]?=H[b]?)->kP E pc ic yc ops aP o ts H'=some (v,e):=by
 obtain⟨d,op,ty,pos,af,g⟩:=o;cases op<;>simp[yo]at hc
 rename_i t x;unfold kP at h⊢;simp only[bV,aNx,aK4,if_false]at h⊢;split at h
 ·rename_i hw;simp only[hw,if_true];unfold dH at h⊢;simp only at h⊢;cases hx:bT ts x with
  |none=>rw[hx]at h;cases h
  |some p=>
   rw[hx]at h;simp only at h⊢;rw[aKD]at h;obtain⟨u,h1,h2⟩:=h;cases h2;exact⟨rfl,fun H' hk=>by rw[N3 hk h1];rfl⟩
 ·rename_i hw;simp only[hw];cases h;exact⟨rfl,fun H' _=>rfl⟩
def ZL(hc:XU E o=true){v:AV}{e:cC}(h:kP E pc ic yc ops aP o ts H=some (v,e)):∀b,b<H.length->(e.app H)[b]?=H[b]?:=by
 obtain⟨d,op,ty,pos,af,g⟩:=o;unfold XU at hc;cases op<;>simp only at hc<;>try (cases hc;done)
 rename_i c;obtain⟨cal,args,ats⟩:=c;cases cal<;>simp only at hc<;>try (cases hc;done)
 rename_i fo;cases fo<;>simp only at hc<;>try (cases hc;done)
 rename_i f;unfold kP at h;simp only[bV,aNx,aK4,if_false]at h;split at h
 ·unfold dH at h;simp only[bT,mP,Bool.and_self]at h;cases hl:km ts args.toList with
  |none=>rw[hl]at h;cases h
  |some al=>
   rw[hl]at h;simp only at h;unfold ka at h;split at hc
   ·rename_i fB;simp only[fB,aNx,aK4,if_false]at h;split at h
    ·rename_i v' h' FE;split at h
     ·cases h
     ·rename_i hk;cases h;simp only[Bool.true_and,Bool.not_eq_true',Bool.not_eq_false]at hk;unfold r9 at hk;have Bi:∀b,b<H.length->h'[b]?=H[b]?:=@of_decide_eq_true _ (Classical.propDecidable _) hk;exact Bi
    ·cases h
   ·cases hc
 ·cases h;intro b _;rfl
def swap{x y:Oper}{nx ny:Nat}{vx vy:AV}{ex ey:cC}(ha:y.apart ops x=true)
  (h1:kP E pc ic yc ops nx x ts H=some (vx,ex)) (h2:kP E pc ic yc ops ny y (bt x.dst vx ts) (ex.app H)=some (vy,ey))
  (hf:iJ E x=.n∨iJ E y=.n∨((iJ E x=.r∨iJ E x=.s)/\(iJ E y=.r∨iJ E y=.s)/\
   (∀b,b∈(bH E ts x ex).2->b∉(bH E (bt x.dst vx ts) y ey).1)/\(∀b,b∈(bH E ts x ex).2->b∉(bH E (bt x.dst vx ts) y ey).2)/\
   (∀b,b∈(bH E ts x ex).1->b∉(bH E (bt x.dst vx ts) y ey).2))∨(yo x=true/\XU E y=true))
  (hn:bV E x=true->bV E y=true->nx≠ny):
  kP E pc ic yc ops ny y ts H=some (vy,ey)/\kP E pc ic yc ops nx x (bt y.dst vy ts) (ey.app H)=some (vx,ex)/\ey.app (ex.app H)=ex.app (ey.app H)/\
   bt y.dst vy (bt x.dst vx ts)=bt x.dst vx (bt y.dst vy ts)/\bH E (bt y.dst vy ts) x ex=bH E ts x ex/\bH E (bt x.dst vx ts) y ey=bH E ts y ey:=by
 obtain⟨a1,a2,a3⟩:=Oper.apart_spec ha;rw[K6 a3]at h2;rw[K6 a1,Al a1,Al a3];rw[Al a3]at hf;have MY:bt y.dst vy (bt x.dst vx ts)=bt x.dst vx (bt y.dst vy ts):=put_comm a2;rcases hf with hc|hc|⟨hx,hy,d1,d2,d3⟩|⟨hx,hy⟩
 ·obtain⟨rfl,g⟩:=ZM hc h1;exact⟨h2,g _,rfl,MY,rfl,rfl⟩
 ·obtain⟨rfl,g⟩:=ZM hc h2;exact⟨g _,h1,rfl,MY,rfl,rfl⟩
 ·obtain⟨s1,r1,f1⟩:=BU hx h1;obtain⟨s2,r2,f2⟩:=BU hy h2;have l1:=s1.len;have hy':kP E pc ic yc ops ny y ts H=some (vy,ey):=by refine f2 H (fun b hb=>(s1.agr fun q=>d1 b q hb).2) (fun b hb=>?_) (fun hl=>s1.dead (r2 hl));exact(s1.same (fun q=>d3 b q hb) (fun q=>d2 b q hb)).symm
  obtain⟨s2',_,_⟩:=BU hy hy';refine⟨hy',?_,U3 s1 s2' rfl rfl d1 d2 d3,MY,rfl,rfl⟩;refine f1 _ (fun b hb=>(s2'.agr (d3 b hb)).1) (fun b hb=>s2'.same (d1 b hb) (d2 b hb)) fun hl=>?_
  refine s2'.afX (fun q=>?_) (r1 hl);rcases s2.keys q with⟨q1,q2⟩|⟨dI,q1,q2⟩
  ·exact hn hl q1 q2
  ·by_cases hw:nx∈(bH E ts x ex).2
   ·exact d2 nx hw q
   ·have:=s1.afX hw (r1 hl)
    rw[this]at q1;cases q1;cases q2
 ·obtain⟨rfl,g⟩:=Tv hx h1;exact⟨h2,g _ (ZL hy h2),rfl,MY,rfl,rfl⟩
end
end
noncomputable section
abbrev Item:=Nat×Nat×Oper
abbrev Touch:=List Nat×List Nat
section
variable{E:Env}{P:Program}{pc:Pc}{ic yc:Ic}{dr:Bool}{ts ts':List AV}{H H':Hp}{aP nid':Nat}{o:Oper}{b:Nat}{ops:Array Oper}
variable{ι:cS}{w:World}{Lo:Nat->Prop}{w0:World}{a:Act}{B:Nat}
def Ai(E:Env)(pc:Pc)(ic yc:Ic)(ops:Array Oper):List Item->List AV->Hp->Option (List AV×Hp×List (Nat×Touch))
 |[],ts,H=>some (ts,H,[])
 |it::rest,ts,H=>match kP E pc ic yc ops it.2.1 it.2.2 ts H with
  |some (v,e)=>match Ai E pc ic yc ops rest (bt it.2.2.dst v ts) (e.app H)with
   |some (t,h,l)=>some (t,h,(it.1,bH E ts it.2.2 e)::l)
   |none=>none
  |none=>none
def Gn{it:Item}{rest:List Item}{t:List AV}{h:Hp}{L:List (Nat×Touch)}(hr:Ai E pc ic yc ops (it::rest) ts H=some (t,h,L)):
  ∃v e l,kP E pc ic yc ops it.2.1 it.2.2 ts H=some (v,e)/\Ai E pc ic yc ops rest (bt it.2.2.dst v ts) (e.app H)=some (t,h,l)/\L=(it.1,bH E ts it.2.2 e)::l:=by
 unfold Ai at hr;split at hr
 case h_2=>cases hr
 rename_i v e h1;split at hr
 case h_2=>cases hr
 rename_i t' h' l h2;cases hr;exact⟨v,e,l,h1,h2,rfl⟩
def Rh{it:Item}{rest:List Item}{t:List AV}{h:Hp}{l:List (Nat×Touch)}{v:AV}{e:cC}(h1:kP E pc ic yc ops it.2.1 it.2.2 ts H=some (v,e))
  (h2:Ai E pc ic yc ops rest (bt it.2.2.dst v ts) (e.app H)=some (t,h,l)):Ai E pc ic yc ops (it::rest) ts H=some (t,h,(it.1,bH E ts it.2.2 e)::l):=by
 unfold Ai;rw[h1];simp only;rw[h2]
def TOk(ps:List (Nat×Nat))(L:List (Nat×Touch)):Prop:=∀j i tj ti,(j,i)∈ps->(j,tj)∈L->(i,ti)∈L->
 (∀b,b∈tj.2->b∉ti.1)/\(∀b,b∈tj.2->b∉ti.2)/\(∀b,b∈tj.1->b∉ti.2)
def Pk(E:Env)(x y:Item):Prop:=bV E x.2.2=true->bV E y.2.2=true->x.2.1≠y.2.1
def noW{x:Oper}{nx:Nat}{v:AV}{e:cC}(h:kP E pc ic yc ops nx x ts H=some (v,e))(hc:iJ E x=.r):(bH E ts x e).2=[]:=
 (BU (.inl hc) h).1.noW hc
def Ve{ps:List (Nat×Nat)}{y:Item}{post:List Item}{t:List AV}{h:Hp}:∀(pre:List Item) (ts:List AV) (H:Hp) (L:List (Nat×Touch)),
  (∀x,x∈pre->y.2.2.apart ops x.2.2=true/\WM E ps x.1 y.1 x.2.2 y.2.2=true/\Pk E x y)->Ai E pc ic yc ops (pre++y::post) ts H=some (t,h,L)->TOk ps L->
  ∃v e L',kP E pc ic yc ops y.2.1 y.2.2 ts H=some (v,e)/\Ai E pc ic yc ops (pre++post) (bt y.2.2.dst v ts) (e.app H)=some (t,h,L')/\(y.1,bH E ts y.2.2 e)∈L/\∀z,z∈L'->z∈L
 |[],ts,H,L,_,hr,_=>by
  obtain⟨v,e,l,h1,h2,rfl⟩:=Gn hr;exact⟨v,e,l,h1,h2,by simp,fun z hz=>by simp[hz]⟩
 |x::pre,ts,H,L,hp,hr,ht=>by
  obtain⟨vx,ex,l,h1,h2,rfl⟩:=Gn hr;obtain⟨vy,ey,L',g1,g2,g3,g4⟩:=Ve pre _ _ l (fun z hz=>hp z (by simp[hz])) h2 (fun j i tj ti a b c=>ht j i tj ti a (by simp[b]) (by simp[c]));obtain⟨ha,hf,hn⟩:=hp x (by simp);have hf':iJ E x.2.2=.n∨iJ E y.2.2=.n∨((iJ E x.2.2=.r∨iJ E x.2.2=.s)/\(iJ E y.2.2=.r∨iJ E y.2.2=.s)/\
    (∀b,b∈(bH E ts x.2.2 ex).2->b∉(bH E (bt x.2.2.dst vx ts) y.2.2 ey).1)/\(∀b,b∈(bH E ts x.2.2 ex).2->b∉(bH E (bt x.2.2.dst vx ts) y.2.2 ey).2)/\
    (∀b,b∈(bH E ts x.2.2 ex).1->b∉(bH E (bt x.2.2.dst vx ts) y.2.2 ey).2))∨(yo x.2.2=true/\XU E y.2.2=true):=by
   have seen:ps.contains (x.1,y.1)=true->_:=fun q=>ht x.1 y.1 _ _ (by simpa using q) (aNG ..) (aNu _ g3)
   unfold WM at hf;cases cx:iJ E x.2.2 with
   |n=>exact .inl rfl
   |w=>rw[cx]at hf;cases cy:iJ E y.2.2<;>rw[cy]at hf<;>first|(cases hf;done)|exact .inr (.inl rfl)
   |r=>
    cases cy:iJ E y.2.2 with
    |n=>exact .inr (.inl rfl)
    |w=>rw[cx,cy]at hf;simp only[aMh]at hf;exact .inr (.inr (.inr hf))
    |r=>exact .inr (.inr (.inl ⟨.inl rfl,.inl rfl,by rw[noW h1 cx];simp,by rw[noW h1 cx];simp,by rw[noW g1 cy];simp⟩))
    |s=>rw[cx,cy]at hf;exact .inr (.inr (.inl ⟨.inl rfl,.inr rfl,seen hf⟩))
   |s=>
    cases cy:iJ E y.2.2 with
    |n=>exact .inr (.inl rfl)
    |w=>rw[cx,cy]at hf;cases hf
    |r=>rw[cx,cy]at hf;exact .inr (.inr (.inl ⟨.inr rfl,.inl rfl,seen hf⟩))
    |s=>rw[cx,cy]at hf;exact .inr (.inr (.inl ⟨.inr rfl,.inr rfl,seen hf⟩))
  obtain⟨s1,s2,s3,s4,s5,s6⟩:=swap ha h1 g1 hf' hn;refine⟨vy,ey,(x.1,bH E (bt y.2.2.dst vy ts) x.2.2 ex)::L',s1,?_,?_,fun z hz=>?_⟩
  ·refine Rh s2 ?_;rw[<-s3,<-s4];exact g2
  ·rw[<-s6];exact aNu _ g3
  ·rcases aMp.1 hz with rfl|hz
   ·rw[s5];simp
   ·exact aNu _ (g4 z hz)
def HU(S:fR E Lo w0 ι H w){v:AV}{e:cC}(h:kP E pc ic yc ops aP o ts H=some (v,e)):
  ∃nid',mD ι H nid'/\bU E pc ic yc true ops.toList nid' o ts H=some (bt o.dst v ts,e):=by
 unfold kP at h;split at h
 ·cases h
 rename_i il;have main:∀nid',(if bE ops.toList ts o then dH E pc ic yc true ts H nid' o else some (bS,.bJ []))=some (v,e)->bU E pc ic yc true ops.toList nid' o ts H=some (bt o.dst v ts,e):=fun nid' h=>by
  unfold bU;split at h
  ·rename_i hw;rw[if_pos hw,h]
  ·rename_i hw;rw[if_neg hw];cases h;rfl
 cases hl:bV E o with
 |true=>
  rw[hl]at il;exact⟨aP,WV S (kW.1 (by simpa using il)),main aP h⟩
 |false=>
  refine⟨H.length,ye S,main _ ?_⟩;rw[BP (nid':=aP) hl];exact h
def Down(ops:Array Oper)(listed:Array Bool):Prop:=∀k o,ops[k]?=some o->listed.getD k false=true->∀e,e∈o.after->Region.binds .any e=true->listed.getD e.on false=true
def AS{listed:Array Bool}(hd:Down ops listed){j:Nat}:∀(n i:Nat) (o:Oper),ops[i]?=some o->(∀e,e∈o.after->Region.binds .any e=true->listed.getD e.on false=true)->Gh ops j n i=true->listed.getD j false=true
 |0,_,_,_,_,h=>by cases h
 |n+1,i,o,ho,he,h=>by
  unfold Gh at h;rw[ho]at h;simp only at h;rw[Array.any_eq_true']at h;obtain⟨e,h1,h2⟩:=h;simp only[aMh,Bool.or_eq_true,beq_iff_eq,decide_eq_true_eq]at h2;obtain⟨h2,h3⟩:=h2;have hl:=he e h1 h2;rcases h3 with h3|⟨_,h3⟩
  ·rw[<-h3];exact hl
  ·cases hk:ops[e.on]? with
   |none=>
    cases n with
    |zero=>cases h3
    |succ n=>unfold Gh at h3;rw[hk]at h3;cases h3
   |some o'=>exact AS hd n e.on o' hk (hd e.on o' hk hl) h3
def Dw{ps:List (Nat×Nat)}(h:yC E ps ops=true){i:Nat}{oi:Oper}(hi:ops[i]?=some oi):
  (∀e,e∈oi.after->Region.binds .any e=true->e.on<i)/\∀j oj,j<i->ops[j]?=some oj->(oi.apart ops oj=true/\WM E ps j i oj oi=true)∨Gh ops j ops.size i=true:=by
 unfold yC at h;have ek:=(aNs.1 hi).1
 have:=aLq.1 h i (aNy.2 ek)
 rw[hi]at this;simp only[aMh]at this;obtain⟨h1,h2⟩:=this;refine⟨fun e he hb=>?_,fun j oj hj hoj=>?_⟩
 ·rw[aNw]at h1
  have:=h1 e he
  rw[hb]at this;simpa using this
 ·have:=aLq.1 h2 j (aNy.2 hj)
  rw[hoj]at this;simpa using this
def acZ{listed:Array Bool}{j:Nat}(h1:listed.getD j true=false)(h2:listed.getD j false=true):False:=by
 cases hj:listed[j]?<;>simp[hj]at h1 h2
 rw[h1]at h2;cases h2
def PM(V:Valid E P)(hp:lT E P pc)(hi:qn E P ic)(hy:qW E P yc){F:Fence}(hF:j9 F){ps:List (Nat×Nat)}(G1:yC E ps ops=true){Q:Exit->Act->World->Prop}{t:List AV}{h:Hp}:
  ∀(fuel:Nat) (rest:List Item) (listed:Array Bool) (ts:List AV) (H:Hp) (L:List (Nat×Touch)) (ι:cS) (w:World) (a:Act),rest.length=fuel->listed.size=ops.size->
   (∀it,it∈rest->ops[it.1]?=some it.2.2/\listed.getD it.1 true=false)->(∀k o,ops[k]?=some o->listed.getD k true=false->∃it,it∈rest/\it.1=k)->
   rest.Pairwise (fun x y=>x.1<y.1/\Pk E x y)->Down ops listed->Ai E pc ic yc ops rest ts H=some (t,h,L)->TOk ps L->St E B Lo w0 ι H ts a w->Bb E B Lo w0 ι H w t h (Q .normal)->
   wpAnyIn F 0 P .any ops Q fuel listed a w
 |0,rest,listed,ts,H,L,ι,w,a,hlen,l8,hA,hB,hC,hD,hr,hT,S,hk=>by
  have:rest=[]:=List.length_eq_zero_iff.1 hlen
  subst this;unfold Ai at hr;cases hr;refine⟨?_,hk _ _ ι (cS.le_refl _) (Ext.refl _ _) S⟩;rw[List.eq_nil_iff_forall_not_mem];intro j hj;obtain⟨h1,o,h2,_⟩:=mem_ready.1 hj;obtain⟨it,h3,_⟩:=hB j o h2 h1;simp at h3
 |fuel+1,rest,listed,ts,H,L,ι,w,a,hlen,l8,hA,hB,hC,hD,hr,hT,S,hk=>by
  refine⟨fun tB=>?_,fun i sw=>?_⟩
  ·
   exfalso
   match rest,hlen with
   |y::r,_=>
    obtain⟨y1,y2⟩:=hA y (by simp)
    have:y.1∈Region.ready .any ops listed:=by
     refine mem_ready.2 ⟨y2,_,y1,fun e he hb=>?_⟩;have ek:=(Dw G1 y1).1 e he hb;have hys:=(aNs.1 y1).1;have yX:e.on<listed.size:=by omega
     cases hv:listed.getD e.on false with
     |true=>rfl
     |false=>
      exfalso;have hv':listed.getD e.on true=false:=by simp[yX]at hv⊢;exact hv
      obtain⟨it,k1,k2⟩:=hB e.on _ (Array.getElem?_eq_getElem (by omega)) hv';rcases aMp.1 k1 with rfl|k1
      ·omega
      ·have:=(aNz.1 hC).1 it k1
       omega
    rw[tB]at this;simp at this
  ·obtain⟨h1,o,h2,h3⟩:=mem_ready.1 sw;obtain⟨y,k1,k2⟩:=hB i o h2 h1;obtain⟨pre,post,rfl⟩:=List.append_of_mem k1;have hyo:y.2.2=o:=by
    have:=(hA y k1).1
    rw[k2,h2]at this;injection this with this;exact this.symm
   rw[aNF]at hC;obtain⟨c1,c2,c3⟩:=hC;rw[aNz]at c2;have Bk:∀x,x∈pre->y.2.2.apart ops x.2.2=true/\WM E ps x.1 y.1 x.2.2 y.2.2=true/\Pk E x y:=by
    intro x hx;obtain⟨q1,q2⟩:=c3 x hx y (by simp);obtain⟨x1,x2⟩:=hA x (by simp[hx]);rcases(Dw G1 (by rw[hyo,k2];exact h2:ops[y.1]?=some y.2.2)).2 x.1 x.2.2 q1 x1 with q|q
    ·exact⟨q.1,q.2,q2⟩
    ·exfalso;rw[k2]at q;exact acZ x2 (AS hD _ i o h2 h3 q)
   obtain⟨v,e,L',g1,g2,g3,g4⟩:=Ve pre ts H L Bk hr hT;rw[hyo]at g1 g2;obtain⟨nid',f1,f2⟩:=HU S.Bv g1;unfold wpOpIn;rw[h2];simp only;refine DT V hp hi hy S f1 f2 hF fun a1 w1 ι1 m1 m2 m3=>?_
   have eQ:∀it,it∈pre++post->it.1≠i:=fun it hit=>by
    rcases aMi.1 hit with hit|hit
    ·have:=(c3 it hit y (by simp)).1;omega
    ·have:=(c2.1 it hit).1;omega
   refine PM V hp hi hy hF G1 fuel (pre++post) (listed.setIfInBounds i true) _ _ L' ι1 w1 a1 ?_ (by simpa using l8) (fun it hit=>?_) (fun k o' sG hl=>?_) ?_ ?_ g2 (fun j i tj ti a b c=>hT j i tj ti a (g4 _ b) (g4 _ c)) m3 (hk.chain m1 m2)
   ·simp only[List.length_append,List.length_cons]at hlen⊢;omega
   ·have hm:it∈pre++y::post:=by
     rcases aMi.1 hit with q|q<;>simp[q]
    obtain⟨q1,q2⟩:=hA it hm;exact⟨q1,by rw[getD_set_ne true (fun q=>eQ it hit q.symm)];exact q2⟩
   ·have Xn:i≠k:=by
     intro q;subst q
     have:i<listed.size:=by rw[l8];exact(aNs.1 h2).1
     simp[this]at hl
    rw[getD_set_ne true Xn]at hl;obtain⟨it,q1,q2⟩:=hB k o' sG hl;refine⟨it,?_,q2⟩;rcases aMi.1 q1 with q|q
    ·exact aNE _ q
    ·rcases aMp.1 q with q|q
     ·exact absurd (by rw[<-q2,q,k2]) Xn.symm
     ·exact aNa _ q
   ·rw[aNF];exact⟨c1,c2.2,fun x hx z hz=>c3 x hx z (by simp[hz])⟩
   ·intro k o' sG hl e' he hb;by_cases Xn:i=k
    ·subst Xn;rw[h2]at sG;cases sG
     exact getD_set_true (h3 e' he hb)
    ·rw[getD_set_ne false Xn]at hl;exact getD_set_true (hD k o' sG hl e' he hb)
end
end
section
variable{E:Env}{P:Program}{pc:Pc}{ic yc:Ic}{dr:Bool}{ts ts':List AV}{H H':Hp}{aP nid':Nat}{o:Oper}{b:Nat}{ops:Array Oper}
variable{ι:cS}{w:World}{Lo:Nat->Prop}{w0:World}{a:Act}{B:Nat}
def items(E:Env):Nat->Nat->List Oper->List Item
 |_,_,[]=>[]
 |k,aP,o::rest=>(k,aP,o)::items E (k+1) (if bV E o then aP+1 else aP) rest
def aaG:Nat->List Touch->List (Nat×Touch)
 |_,[]=>[]
 |k,t::l=>(k,t)::aaG (k+1) l
def Dm:∀{l:List Touch} {k j:Nat} {t:Touch},(j,t)∈aaG k l->∃d,j=k+d/\l[d]?=some t
 |[],_,_,_,h=>by simp[aaG]at h
 |x::l,k,j,t,h=>by
  rcases aMp.1 h with h|h
  ·cases h;exact⟨0,rfl,rfl⟩
  ·obtain⟨d,h1,h2⟩:=Dm h;exact⟨d+1,by omega,by simpa using h2⟩
def Gc:∀(rest:List Oper) (k aP:Nat) (ts:List AV) (H:Hp) (t:List AV) (h:Hp) (l:List Touch),o7 E pc ic yc ops.toList rest aP ts H=some (t,h,l)->
  Ai E pc ic yc ops (items E k aP rest) ts H=some (t,h,aaG k l)
 |[],k,aP,ts,H,t,h,l,hr=>by
  unfold o7 at hr;cases hr;rfl
 |o::rest,k,aP,ts,H,t,h,l,hr=>by
  unfold o7 at hr;split at hr
  ·cases hr
  rename_i il;split at hr
  case h_2=>cases hr
  rename_i ts1 e dp;split at hr
  case h_2=>cases hr
  rename_i t' h' l' tC;cases hr
  have:∃v,ts1=bt o.dst v ts/\kP E pc ic yc ops aP o ts H=some (v,e):=by
   unfold bU at dp;unfold kP;rw[if_neg il];split at dp
   ·rename_i hw;rw[if_pos hw];split at dp
    ·rename_i v e' Sq;cases dp;exact⟨v,rfl,Sq⟩
    ·cases dp
   ·rename_i hw;rw[if_neg hw];cases dp;exact⟨bS,rfl,rfl⟩
  obtain⟨v,rfl,hd⟩:=this;exact Rh (it:=(k,aP,o)) hd (Gc rest (k+1) _ _ _ _ _ _ tC)
def Aa:∀{rest:List Oper} {k aP:Nat} {it:Item},it∈items E k aP rest->∃d,it.1=k+d/\rest[d]?=some it.2.2/\aP<=it.2.1
 |[],_,_,_,h=>by simp[items]at h
 |o::rest,k,aP,it,h=>by
  rcases aMp.1 h with h|h
  ·subst h;exact⟨0,rfl,rfl,Nat.le_refl _⟩
  ·obtain⟨d,h1,h2,h3⟩:=Aa h;refine⟨d+1,by omega,by simpa using h2,?_⟩;split at h3<;>omega
def FM:∀{rest:List Oper} {k aP d:Nat} {o:Oper},rest[d]?=some o->∃it,it∈items E k aP rest/\it.1=k+d
 |[],_,_,_,_,h=>by simp at h
 |x::rest,k,aP,0,o,h=>⟨_,aNG ..,rfl⟩
 |x::rest,k,aP,d+1,o,h=>by
  obtain⟨it,h1,h2⟩:=FM (k:=k+1) (aP:=if bV E x then aP+1 else aP) (d:=d) (rest:=rest) (by simpa using h);exact⟨it,aNu _ h1,by omega⟩
def FL:∀(rest:List Oper) (k aP:Nat),(items E k aP rest).length=rest.length
 |[],_,_=>rfl
 |_::rest,k,aP=>by simp[items,FL rest]
def Db:∀(rest:List Oper) (k aP:Nat),(items E k aP rest).Pairwise (fun x y=>x.1<y.1/\Pk E x y)
 |[],_,_=>.nil
 |o::rest,k,aP=>by
  refine aNz.2 ⟨fun y hy=>?_,Db rest _ _⟩;obtain⟨d,h1,h2,h3⟩:=Aa hy;refine⟨by simp only;omega,fun l1 _=>?_⟩;simp only at l1⊢;rw[l1]at h3;simp only[if_true]at h3;omega
def ahH{ps:List (Nat×Nat)}{l:List Touch}(h:ps.all (rE l)=true):TOk ps (aaG 0 l):=by
 intro j i tj ti hm hj hi;obtain⟨d,h1,h2⟩:=Dm hj;obtain⟨d',h3,h4⟩:=Dm hi
 have:=aLq.1 h _ hm
 unfold rE at this;simp only[Nat.zero_add]at h1 h3;rw[h1,h3,h2,h4]at this;obtain⟨r1,w1⟩:=tj;obtain⟨r2,w2⟩:=ti;simp only[aMh]at this;obtain⟨⟨a1,a2⟩,a3⟩:=this;exact⟨wo.1 a1,wo.1 a2,wo.1 a3⟩
def aee(k b:Nat):(H++aKF k dw)[b]?=H[b]?∨(H[b]?=none/\(H++aKF k dw)[b]?=some dw):=by
 rw[List.getElem?_append]
 split
 ·exact .inl rfl
 ·rename_i hb;rw[List.getElem?_replicate]
  split
  ·exact .inr ⟨aKG (by omega),rfl⟩
  ·exact .inl (aKG (by omega)).symm
def tO{k b:Nat}{dI:ct}(h:(H++aKF k dw)[b]?=some dI)(hs:dI.st≠ .dead):H[b]?=some dI:=by
 rcases aee (H:=H) k b with q|⟨_,q⟩
 ·rw[<-q];exact h
 ·rw[q]at h;cases h;exact absurd rfl hs
def Dz(k:Nat):Live Lo ι (H++aKF k dw)=Live Lo ι H:=by
 refine Live.congr fun c=>⟨?_,?_⟩
 ·rintro(h|⟨b,dI,co,h1,h2,h3⟩)
  ·exact .inl h
  ·exact .inr ⟨b,dI,co,tO h1 (by rw[h2];simp),h2,h3⟩
 ·rintro(h|⟨b,dI,co,h1,h2,h3⟩)
  ·exact .inl h
  ·refine .inr ⟨b,dI,co,?_,h2,h3⟩;rw[aNB (aKB.1 h1).1];exact h1
def fR.pad(S:fR E Lo w0 ι H w)(k:Nat):fR E Lo w0 ι (H++aKF k dw) w:=by
 refine⟨S.below,S.lo,fun b p hp=>?_,?_,?_,?_,?_,?_⟩
 ·have:=S.Ih b p hp
  exact⟨by simp;omega,this.2⟩
 ·intro b dI hb hd;rw[Dz];exact S.obj b dI (tO hb hd) hd
 ·intro b b' dI blk' c co co' h1 h2 h3 h4 h5 h6;exact S.inj b b' dI blk' c co co' (tO h1 (by rw[h2];simp)) h2 (tO h3 (by rw[h4];simp)) h4 h5 h6
 ·rw[Dz];exact S.glob
 ·intro b dI h1 h2;exact S.pT b dI (tO h1 (by rw[h2];simp)) h2
 ·intro b p hp;rw[aNB (S.Ih b p hp).1];exact S.res b p hp
def Wp(V:Valid E P)(O:oW E P){rec:Cd}(jD:nf E P rec):LW E P rec:=by
 intro id ops ts H ts' H' h G1 F hF B Lo w0 ι w a hB BI S Q hk;unfold xZ at h;split at h
 case h_2=>cases h
 rename_i t hh l azJ;split at h
 case isFalse=>cases h
 rename_i XA;cases h;have S1:=S.Bv.pad (ops.toList.countP (bV E));have D:=S1.drew (w':={w with drawn:=w.drawn+1}) rfl rfl rfl rfl;have X:Ext w (Live Lo ι H) {w with drawn:=w.drawn+1} (Live Lo ι (H++aKF (ops.toList.countP (bV E)) dw)):=by
  have:=D.2
  rw[Dz]at this⊢;exact this
 have atE:(Array.replicate ops.size false).size=ops.size:=by simp
 refine wpIn_region_any V.mixed ?_;refine PM V (uZ V O jD) (yL V O jD) (oG V jD) hF G1 ops.size (items E 0 H.length ops.toList) _ ts _ _ ι _ a ?_ atE (fun it hit=>?_) (fun k o sG _=>?_) (Db _ _ _) (fun k o sG hl=>?_)
  (Gc ops.toList 0 H.length _ _ _ _ _ azJ) (ahH ?_) ⟨D.1,Rs.ext X _ _ _ _ (cS.le_refl _) S.tm,S.SS.ext X rfl⟩ (hk.chain (cS.le_refl _) X)
 ·rw[FL];simp
 ·obtain⟨d,h1,h2,_⟩:=Aa hit;simp only[Nat.zero_add]at h1;rw[h1,<-aK2];refine⟨h2,?_⟩
  have:d<ops.size:=by
   have:=(aKB.1 h2).1
   simpa using this
  simp[this]
 ·obtain⟨it,h1,h2⟩:=FM (E:=E) (k:=0) (aP:=H.length) (d:=k) (rest:=ops.toList) (o:=o) (by rw[aK2];exact sG);exact⟨it,h1,by omega⟩
 ·exfalso
  have:=(aNs.1 sG).1
  simp[this]at hl
 ·have:ops.toList.length=ops.size:=by simp
  rw[this]at XA;exact XA
def GI(V:Valid E P)(O:oW E P)(n:Nat):lT E P (call E n):=
 uZ V O (tf V O (fun rec h=>Wp V O h) n).1
end
def Ng:TypeDesc->Bool
 |.struct _|.array .. =>true
 |_=>false
def Nh:Value->Bool
 |.agg _=>true
 |_=>false
def zeroOf(isA:Bool)(size:Nat)(z:Value):Option (List AV):=
 match eZ (Bd 19) z.cells.toList with
 |some cs=>if cs.length==size&&Nh z==isA then some cs else none
 |none=>none
def aam(P:Program)(t:Nat):Option sO:=
 match P.info? t,P.underlying t with
 |some i,some u=>
  if Ng u||i.size==1 then
   some {cD:=u,isAgg:=Ng u,size:=i.size,bytes:=i.bytes,zero:=i.zero.bind (zeroOf (Ng u) i.size),dQ:=!P.stoodInHeld t&&!P.eqGuardType P.depth t}
  else none
 |_,_=>none
def aeY{E:Env}{P:Program}{t:Nat}{i:sO}(h:aam P t=some i):anG E P t i:=by
 unfold aam at h;split at h
 case h_2=>cases h
 rename_i ti u h1 h2;split at h
 case isFalse=>cases h
 rename_i hc;cases h;refine⟨h2,?_,⟨ti,h1,rfl,rfl,fun cs oQ=>?_⟩,?_,?_⟩
 ·cases u<;>rfl
 ·simp only[Option.bind_eq_some_iff]at oQ;obtain⟨z,g1,g2⟩:=oQ;refine⟨z,g1,?_⟩;unfold zeroOf at g2;split at g2
  case h_2=>cases g2
  rename_i Aw hm;split at g2
  case isFalse=>cases g2
  rename_i hc';cases g2;simp only[aMh,beq_iff_eq]at hc';refine⟨hm,hc'.1,fun ha=>?_,fun ha=>?_⟩
  ·simp only at ha
   have:=hc'.2.trans ha
   cases z<;>simp[Nh]at this
   exact⟨_,rfl⟩
  ·simp only at ha
   have:=hc'.2.trans ha
   cases z<;>simp[Nh]at this<;>rfl
 ·intro ha;simp only at ha⊢;simpa[ha]using hc
 ·intro he;simpa using he
def acP(P:Program)(imp eE skip:List Nat)(f:Nat):Option FnI:=
 if skip.contains f then none else match P.funcs[f]? with
 |some fn=>match fn.body with
  |some c=>some {code:=c,ntmps:=fn.ntmps,results:=fn.results.toList,pure:=!imp.contains f,eE:=eE.contains f}
  |none=>none
 |none=>none
def Wt(E:Env)(P:Program):Bool:=
 P.funcs.all (fun fn=>fn.name != "runtime.NumGoroutine")&&P.follows .mixedOrders&&
 (List.range P.funcs.size).all fun f=>match E.fn f with
  |some fi=>codeOk E fi.code
  |none=>true
def aaq{E:Env}{P:Program}{imp eE skip:List Nat}(ht:E.ty=aam P)(hf:E.fn=acP P imp eE skip)(h:Wt E P=true):Valid E P:=by
 unfold Wt at h;simp only[aMh]at h;obtain⟨⟨h1,h2⟩,h3⟩:=h;refine⟨fun t i M4=>aeY (by rw[<-ht];exact M4),fun f fi lQ=>?_,h2⟩;have azk:=lQ;rw[hf]at lQ;unfold acP at lQ;split at lQ
 ·cases lQ
 split at lQ
 case h_2=>cases lQ
 rename_i fn fB;split at lQ
 case h_2=>cases lQ
 rename_i c hc;cases lQ;refine⟨fn,fB,hc,rfl,rfl,?_,?_⟩
 ·have:=(aNw.1 h1) fn (Array.mem_of_getElem? fB)
  simpa using this
 ·have ek:=(aNs.1 fB).1
  have:=aLq.1 h3 f (aNy.2 ek)
  rw[azk]at this;exact this
def nk(E:Env)(f:Nat):Bool:=match E.fn f with
 |some fi=>codeOk E fi.code
 |none=>true
def LA{E:Env}{P:Program}{imp eE skip:List Nat}(ht:E.ty=aam P)(hf:E.fn=acP P imp eE skip)(h1:P.funcs.all (fun fn=>fn.name != "runtime.NumGoroutine")=true)
  (h2:P.follows .mixedOrders=true) (h3:∀f,f<P.funcs.size->nk E f=true):Valid E P:=by
 refine aaq ht hf ?_;unfold Wt;simp only[h1,h2,Bool.true_and];exact aLq.2 fun f hf=>h3 f (aNy.1 hf)
def dS{p:Nat->Bool}{s n f:Nat}(h:(List.range' s n).all p=true)(h1:s<=f:=by omega)(h2:f<s+n:=by omega):p f=true:=aLq.1 h f (List.mem_range'_1.2 ⟨h1,h2⟩)
noncomputable section
def ahY:IntKind->IntKind->Bool
 |.i8,.i8|.i16,.i16|.i32,.i32|.i64,.i64|.u8,.u8|.u16,.u16|.u32,.u32|.u64,.u64=>true
 |a,b=>decide (a=b)
def abo{a b:IntKind}(h:ahY a b=true):a=b:=by
 unfold ahY at h;split at h<;>first|rfl|simpa using h
mutual
def mG:AV->AV->Bool
 |.int k n,.int j m=>n==m&&ahY k j
 |.bool a,.bool b=>a==b
 |.str a,.str b=>a==b
 |.gQ,.gQ=>true
 |.cU a i,.cU b j=>i==j&&vD a b
 |.ie a i,.ie b j=>a==b&&i==j
 |.aH,.aH=>true
 |.dx,.dx=>true
 |.aK a i,.aK b j=>i==j&&vD a b
 |.gd,.gd=>true
 |.vM a c,.vM b d=>vD a b&&vD c d
 |.fQ,.fQ=>true
 |.func f a c,.func g b d=>f==g&&vD a b&&vD c d
 |.nilIface,.nilIface=>true
 |.iface t a,.iface u b=>t==u&&mG a b
 |.agg a,.agg b=>vD a b
 |.tuple a,.tuple b=>vD a b
 |_,_=>false
def vD:List AV->List AV->Bool
 |[],[]=>true
 |a::a_,b::bs=>mG a b&&vD a_ bs
 |_,_=>false
end
mutual
def GB:∀(a b:AV),mG a b=true->a=b
 |.int k n,b,h=>by
  cases b<;>simp only[mG,aK4,aMh,beq_iff_eq]at h
  rw[h.1,abo h.2]
 |.bool a,b,h=>by cases b<;>simp only[mG,aK4,beq_iff_eq]at h;rw[h]
 |.str a,b,h=>by cases b<;>simp only[mG,aK4,beq_iff_eq]at h;rw[h]
 |.gQ,b,h=>by cases b<;>simp only[mG,aK4]at h;rfl
 |.bI ..,b,h=>by cases b<;>simp[mG]at h
 |.cU a i,b,h=>by
  cases b<;>simp only[mG,aK4,aMh,beq_iff_eq]at h
  rw[h.1,kJ _ _ h.2]
 |.ie a i,b,h=>by
  cases b<;>simp only[mG,aK4,aMh,beq_iff_eq]at h
  rw[h.1,h.2]
 |.aH,b,h=>by cases b<;>simp only[mG,aK4]at h;rfl
 |.dx,b,h=>by cases b<;>simp only[mG,aK4]at h;rfl
 |.aI ..,b,h=>by cases b<;>simp[mG]at h
 |.aK a i,b,h=>by
  cases b<;>simp only[mG,aK4,aMh,beq_iff_eq]at h
  rw[h.1,kJ _ _ h.2]
 |.gd,b,h=>by cases b<;>simp only[mG,aK4]at h;rfl
 |.eS _,b,h=>by cases b<;>simp[mG]at h
 |.vM a c,b,h=>by
  cases b<;>simp only[mG,aK4,aMh]at h
  rw[kJ _ _ h.1,kJ _ _ h.2]
 |.fQ,b,h=>by cases b<;>simp only[mG,aK4]at h;rfl
 |.func f a c,b,h=>by
  cases b<;>simp only[mG,aK4,aMh,beq_iff_eq]at h
  rw[h.1.1,kJ _ _ h.1.2,kJ _ _ h.2]
 |.nilIface,b,h=>by cases b<;>simp only[mG,aK4]at h;rfl
 |.iface t a,b,h=>by
  cases b<;>simp only[mG,aK4,aMh,beq_iff_eq]at h
  rw[h.1,GB _ _ h.2]
 |.agg a,b,h=>by
  cases b<;>simp only[mG,aK4]at h
  rw[kJ _ _ h]
 |.tuple a,b,h=>by
  cases b<;>simp only[mG,aK4]at h
  rw[kJ _ _ h]
 |.yield l,b,h=>by cases b<;>simp[mG]at h
def kJ:∀(a b:List AV),vD a b=true->a=b
 |[],b,h=>by cases b<;>simp[vD]at h;rfl
 |x::xs,b,h=>by
  cases b with
  |nil=>simp[vD]at h
  |cons y ys=>
   simp only[vD,aMh]at h;rw[GB _ _ h.1,kJ _ _ h.2]
end
abbrev aX:=List (List AV×AV)
abbrev Table:=List (Nat×aX)
def PY:aX->List AV->Option AV
 |[],_=>none
 |(a_,r)::K,args=>if vD a_ args then some r else PY K args
def sY(E:Env)(n:Nat)(f:Nat)(K:aX):Bool:=K.all fun e=>match call E n f e.1 with
 |some v=>mG v e.2
 |none=>false
def fl(E:Env)(n:Nat)(T:Table):Bool:=T.all fun p=>sY E n p.1 p.2
def Fx:∀{K:aX} {args:List AV} {r:AV},PY K args=some r->(args,r)∈K
 |[],_,_,h=>by cases h
 |(a_,r')::K,args,r,h=>by
  unfold PY at h;split at h
  ·rename_i hb;cases h;rw[kJ _ _ hb];simp
  ·exact aNu _ (Fx h)
def gn{E:Env}(x:Nat->List AV->Option AV)(y:Nat->List AV->Hp->Option (AV×Hp)):∀c,codeOk {E with ov:=x,rC:=y} c=codeOk E c
 |.seq a b=>by simp only[codeOk,gn x y a,gn x y b]
 |.cond _ a b=>by simp only[codeOk,gn x y a,gn x y b]
 |.block _ a=>by simp only[codeOk,gn x y a]
 |.loop a=>by simp only[codeOk,gn x y a]
 |.scope a=>by simp only[codeOk,gn x y a]
 |.rangeFunc _ _ a b=>by simp only[codeOk,gn x y a,gn x y b]
 |.region id ops draw=>rfl
 |.skip=>rfl
 |.exit _=>rfl
 |.label _=>rfl
 |.goto _=>rfl
 |.ret=>rfl
 |.refuse _=>rfl
def Valid.ov{E:Env}{P:Program}(V:Valid E P)(x:Nat->List AV->Option AV)(y:Nat->List AV->Hp->Option (AV×Hp)):Valid {E with ov:=x,rC:=y} P:=
 ⟨fun t i h=>by
  obtain⟨h1,h2,h3,h4,h5⟩:=V.ty t i h;exact⟨h1,h2,h3,h4,h5⟩,
  fun f fi h=>by
  obtain⟨fn,h1,h2,h3,h4,h5,h6⟩:=V.fn f fi h;exact⟨fn,h1,h2,h3,h4,h5,by rw[gn];exact h6⟩,V.mixed⟩
def lT.glob{E E':Env}{P:Program}{pc:Pc}(h:lT E P pc)(hg:E'.glob=E.glob):lT E' P pc:=fun f a_ r hp L w vs hl Xk ha=>
 h f a_ r hp L w vs hl (fun g cs q=>Xk g cs (by rw[hg];exact q)) ha
def fR.env{E E':Env}{Lo:Nat->Prop}{w0:World}{ι:cS}{H:Hp}{w:World}(hg:E'.glob=E.glob)(hc:∀c,codeOk E' c=codeOk E c)(S:fR E Lo w0 ι H w):fR E' Lo w0 ι H w:=
 ⟨S.below,S.lo,S.Ih,S.obj,S.inj,fun g cs h=>S.glob g cs (by rw[<-hg];exact h),fun b dI h1 h2=>by
  have:=S.pT b dI h1 h2
  cases dI<;>simp only[ct.pT]at this⊢
  simp only[hc];exact this,S.res⟩
def qn.env{E E':Env}{P:Program}{ic:Ic}(h:qn E P ic)(hg:E'.glob=E.glob)(hc:∀c,codeOk E' c=codeOk E c):qn E' P ic:=fun f a_ H v H2 hp Lo w0 ι w vs S ha=>
 (h f a_ H v H2 hp Lo w0 ι w vs (S.env hg.symm (fun c=>(hc c).symm)) ha).mono fun cv w' ⟨ι',h1,h2,h3,h4⟩=>⟨ι',h1,h2.env hg hc,h3,h4⟩
end
def Gy(a b:Pc):Prop:=∀f a_ r,a f a_=some r->b f a_=some r
def vB(a b:Ic):Prop:=∀f a_ H r,a f a_ H=some r->b f a_ H=some r
def vw(a b:Cd):Prop:=∀c ts H r,a c ts H=some r->b c ts H=some r
def vw.refl(a:Cd):vw a a:=fun _ _ _ _ h=>h
def vw.trans{a b c:Cd}(h:vw a b)(k:vw b c):vw a c:=fun _ _ _ _ q=>k _ _ _ _ (h _ _ _ _ q)
section
variable{E:Env}{rec E1:Cd}
def lH(h:vw rec E1):Gy (jE E rec) (jE E E1):=by
 intro f a_ r hr;unfold jE at hr⊢;cases ke:E.ov f a_ with
 |some q=>simp only[ke]at hr⊢;exact hr
 |none=>
  simp only[ke]at hr⊢;cases lQ:E.fn f with
  |none=>simp only[lQ]at hr;cases hr
  |some fi=>
   simp only[lQ]at hr⊢;by_cases hd:(!(fi.pure||fi.eE))=true
   ·rw[if_pos hd]at hr;cases hr
   ·rw[if_neg hd]at hr⊢;cases jD:rec fi.code (a_++aKF (fi.ntmps-a_.length) bS) []with
    |none=>rw[jD]at hr;cases hr
    |some x=>rw[h _ _ _ _ jD];rw[jD]at hr;exact hr
def La(h:vw rec E1):vB (oF E rec) (oF E E1):=by
 intro f a_ H r hr;unfold oF at hr⊢;cases lQ:E.fn f with
 |none=>simp only[lQ]at hr;cases hr
 |some fi=>
  simp only[lQ]at hr⊢;cases jD:rec fi.code (a_++aKF (fi.ntmps-a_.length) bS) H with
  |none=>rw[jD]at hr;cases hr
  |some x=>rw[h _ _ _ _ jD];rw[jD]at hr;exact hr
def jV(h:vw rec E1):vB (kQ E rec) (kQ E E1):=by
 intro f a_ H r hr;unfold kQ at hr⊢;cases ke:E.rC f a_ H with
 |some q=>simp only[ke]at hr⊢;exact hr
 |none=>simp only[ke]at hr⊢;exact La h _ _ _ _ hr
def jW(h:vw rec E1):vB (lI rec) (lI E1):=by
 intro l a_ H r hr;simp only[lI]at hr⊢;cases q0:H[l]? with
 |none=>simp only[q0]at hr;cases hr
 |some b0=>
  cases b0 with
  |cells _ _=>simp only[q0]at hr;cases hr
  |map _ _ _=>simp only[q0]at hr;cases hr
  |iG _ _=>simp only[q0]at hr;cases hr
  |loop st im ts ps assign body=>
   cases st<;>try (simp only[q0]at hr;cases hr)
   simp only[q0]at hr⊢;cases q1:HM ts ps a_ with
   |none=>simp only[q1]at hr;cases hr
   |some ts'=>
    simp only[q1]at hr⊢;cases q2:rec assign ts' H with
    |none=>simp only[q2]at hr;cases hr
    |some x=>
     obtain⟨ex,t1,H1⟩:=x;rw[h _ _ _ _ q2];cases ex<;>try (simp only[q2]at hr;cases hr)
     simp only[q2]at hr⊢;cases q3:H1[l]? with
     |none=>simp only[q3]at hr;cases hr
     |some b1=>
      cases b1 with
      |cells _ _=>simp only[q3]at hr;cases hr
      |map _ _ _=>simp only[q3]at hr;cases hr
      |iG _ _=>simp only[q3]at hr;cases hr
      |loop st1 ave ts1 ps1 as1 b1=>
       cases st1<;>try (simp only[q3]at hr;cases hr)
       simp only[q3]at hr⊢;cases q4:rec body t1 (H1.set l (.loop .busy ave ts1 ps1 as1 b1))with
       |none=>rw[q4]at hr;cases hr
       |some y=>rw[h _ _ _ _ q4];rw[q4]at hr;exact hr
variable{pc pc':Pc}{ic ic' yc yc':Ic}{dr:Bool}
def map_le{α β:Type}{a b:Option α}{g:α->β}{r:β}(hab:∀x,a=some x->b=some x)(h:a.map g=some r):b.map g=some r:=by
 cases a with
 |none=>cases h
 |some x=>rw[hab x rfl];exact h
def VW(hp:Gy pc pc')(hi:vB ic ic')(hy:vB yc yc'){H:Hp}{fv:AV}{args:List AV}{r}(h:ka E pc ic yc dr H fv args=some r):ka E pc' ic' yc' dr H fv args=some r:=by
 unfold ka at h⊢;cases fv with
 |func f first cap=>
  simp only at h⊢;have key:∀(c:Bool) (h:(if c=true then match bW H (first++args++cap)with
    |some (a_,bs)=>Option.map (fun v=>(v,if bY v=true then cC.looks bs else cC.marks bs)) (pc f a_)
    |none=>none
   else(match ic f (first++args++cap) H with
    |some (v,h)=>if(dr&&!r9 H h)=true then none else some (v,cC.Es h)
    |none=>none))=some r),
   (if c=true then match bW H (first++args++cap)with
    |some (a_,bs)=>Option.map (fun v=>(v,if bY v=true then cC.looks bs else cC.marks bs)) (pc' f a_)
    |none=>none
   else(match ic' f (first++args++cap) H with
    |some (v,h)=>if(dr&&!r9 H h)=true then none else some (v,cC.Es h)
    |none=>none))=some r:=by
   intro c h;cases c with
   |true=>
    rw[if_pos rfl]at h⊢;cases hf:bW H (first++args++cap)with
    |none=>rw[hf]at h;cases h
    |some x=>rw[hf]at h;exact map_le (fun _ q=>hp _ _ _ q) h
   |false=>
    rw[if_neg (by simp)]at h⊢;cases hf:ic f (first++args++cap) H with
    |none=>rw[hf]at h;cases h
    |some x=>rw[hf]at h;rw[hi _ _ _ _ hf];exact h
  split at h<;>exact key _ h
 |yield l=>exact map_le (fun _ q=>hy _ _ _ _ q) h
 |_=>cases h
def Zh(hp:Gy pc pc')(hi:vB ic ic')(hy:vB yc yc'){ts:List AV}{H:Hp}{aP:Nat}{o:Oper}{r}(h:dH E pc ic yc dr ts H aP o=some r):dH E pc' ic' yc' dr ts H aP o=some r:=by
 by_cases hc:∃c f,o.op=.call c/\c.callee=.value f
 ·obtain⟨c,f,h1,h2⟩:=hc;unfold dH at h⊢;simp only[h1,h2]at h⊢;cases q1:bT ts f with
  |none=>simp only[q1]at h;cases h
  |some fv=>
   cases q2:km ts c.args.toList with
   |none=>simp only[q1,q2]at h;cases h
   |some a_=>
    simp only[q1,q2]at h⊢;exact VW hp hi hy h
 ·rw[<-h];unfold dH
  split<;>try rfl
  rename_i c Sq
  split<;>try rfl
  rename_i f mO;exact absurd ⟨c,f,Sq,mO⟩ hc
def oI(hp:Gy pc pc')(hi:vB ic ic')(hy:vB yc yc'){ops:List Oper}{ts:List AV}{H:Hp}{aP:Nat}{o:Oper}{r}(h:bU E pc ic yc dr ops aP o ts H=some r):bU E pc' ic' yc' dr ops aP o ts H=some r:=by
 unfold bU at h⊢;by_cases hw:bE ops ts o=true
 ·rw[if_pos hw]at h⊢;cases q:dH E pc ic yc dr ts H aP o with
  |none=>rw[q]at h;cases h
  |some x=>rw[Zh hp hi hy q];rw[q]at h;exact h
 ·rw[if_neg hw]at h⊢;exact h
def rA(hp:Gy pc pc')(hi:vB ic ic')(hy:vB yc yc'){ops:List Oper}:∀{rest:List Oper} {ts:List AV} {H:Hp} {r},qa E pc ic yc ops rest ts H=some r->qa E pc' ic' yc' ops rest ts H=some r
 |[],_,_,_,h=>h
 |o::rest,ts,H,r,h=>by
  unfold qa at h⊢;cases q:bU E pc ic yc false ops H.length o ts H with
  |none=>rw[q]at h;cases h
  |some x=>
   rw[oI hp hi hy q];rw[q]at h;exact rA hp hi hy h
def uH(hp:Gy pc pc')(hi:vB ic ic')(hy:vB yc yc'){ops:List Oper}:∀{rest:List Oper} {aP:Nat} {ts:List AV} {H:Hp} {r},o7 E pc ic yc ops rest aP ts H=some r->o7 E pc' ic' yc' ops rest aP ts H=some r
 |[],_,_,_,_,h=>h
 |o::rest,aP,ts,H,r,h=>by
  unfold o7 at h⊢;by_cases hc:(bV E o&&!kB H[aP]?)=true
  ·rw[if_pos hc]at h;cases h
  rw[if_neg hc]at h⊢;cases q:bU E pc ic yc true ops aP o ts H with
  |none=>rw[q]at h;cases h
  |some x=>
   rw[oI hp hi hy q];rw[q]at h;obtain⟨ts',e⟩:=x;simp only at h⊢;cases q2:o7 E pc ic yc ops rest (if bV E o then aP+1 else aP) ts' (e.app H)with
   |none=>rw[q2]at h;cases h
   |some y=>
    rw[uH hp hi hy q2];rw[q2]at h;exact h
def Wo(hp:Gy pc pc')(hi:vB ic ic')(hy:vB yc yc'){id:Nat}{ops:List Oper}{ts:List AV}{H:Hp}{r}(h:xZ E pc ic yc id ops ts H=some r):xZ E pc' ic' yc' id ops ts H=some r:=by
 unfold xZ at h⊢;cases q:o7 E pc ic yc ops ops H.length ts (H++aKF (ops.countP (bV E)) dw)with
 |none=>rw[q]at h;cases h
 |some x=>rw[uH hp hi hy q];rw[q]at h;exact h
def Wy(h:vw rec E1):vw (cM E rec) (cM E E1):=by
 intro c ts H r hr;have hp:=lH (E:=E) h;have hi:=jV (E:=E) h;have hy:=jW h;cases c with
 |skip=>exact hr
 |label _=>exact hr
 |region id ops draw=>
  cases draw with
  |true=>
   simp only[cM,if_true]at hr⊢;exact map_le (fun _ q=>Wo hp hi hy q) hr
  |false=>
   simp only[cM,aK4,if_false]at hr⊢;exact map_le (fun _ q=>rA hp hi hy q) hr
 |seq a b=>
  simp only[cM]at hr⊢;cases q:rec a ts H with
  |none=>rw[q]at hr;cases hr
  |some x=>
   rw[h _ _ _ _ q];rw[q]at hr;obtain⟨ex,t,H'⟩:=x;cases ex with
   |normal=>exact h _ _ _ _ hr
   |exit _=>exact hr
   |ret=>exact hr
 |cond c a b=>
  simp only[cM]at hr⊢;cases q:bT ts c with
  |none=>rw[q]at hr;cases hr
  |some v=>
   rw[q]at hr;cases v<;>try (cases hr)
   simp only at hr⊢;exact h _ _ _ _ hr
 |block id body=>
  simp only[cM]at hr⊢;cases q:rec body ts H with
  |none=>rw[q]at hr;cases hr
  |some x=>rw[h _ _ _ _ q];rw[q]at hr;exact hr
 |loop body=>
  simp only[cM]at hr⊢;cases q:rec body ts H with
  |none=>rw[q]at hr;cases hr
  |some x=>
   rw[h _ _ _ _ q];rw[q]at hr;obtain⟨ex,t,H'⟩:=x;cases ex with
   |normal=>exact h _ _ _ _ hr
   |exit _=>exact hr
   |ret=>exact hr
 |exit id=>exact hr
 |ret=>exact hr
 |rangeFunc g ps assign body=>
  simp only[cM]at hr⊢;cases q:bT ts g with
  |none=>rw[q]at hr;cases hr
  |some v=>
   rw[q]at hr;cases v<;>try (cases hr)
   rename_i f first cap
   simp only at hr⊢;cases q1:oF E rec f (first++[.yield H.length]++cap) (H++[.loop .ready none ts ps.toList assign body])with
   |none=>rw[q1]at hr;cases hr
   |some x=>
    rw[La h _ _ _ _ q1];rw[q1]at hr;obtain⟨v,H2⟩:=x;simp only at hr⊢;cases q2:H2[H.length]? with
    |none=>rw[q2]at hr;cases hr
    |some b=>
     rw[q2]at hr;cases b with
     |cells _ _=>cases hr
     |map _ _ _=>cases hr
     |iG _ _=>cases hr
     |loop st im Am Ae zu b3=>
      simp only at hr⊢;by_cases hb:st=.busy
      ·rw[if_pos hb]at hr;cases hr
      ·rw[if_neg hb]at hr⊢;cases im with
       |none=>exact hr
       |some c=>exact h _ _ _ _ hr
 |goto _=>cases hr
 |scope _=>cases hr
 |refuse _=>cases hr
def Fv:∀n,vw (bR E n) (bR E (n+1))
 |0=>fun _ _ _ _ h=>by cases h
 |n+1=>by
  show vw (cM E (bR E n)) (cM E (bR E (n+1)))
  exact Wy (Fv n)
def cY{n m:Nat}(h:n<=m):vw (bR E n) (bR E m):=by
 induction h with
 |refl=>exact vw.refl _
 |step _ ih=>exact ih.trans (Fv _)
def lk{n m:Nat}(h:n<=m):Gy (call E n) (call E m):=lH (cY h)
end
def Cv(E:Env)(c:Code)(ts:List AV)(H:Hp)(Q:Ex->List AV->Hp->Prop):Prop:=∃n ex ts' H',bR E n c ts H=some (ex,ts',H')/\Q ex ts' H'
def Fn(E:Env)(f:Nat)(args:List AV)(Q:AV->Prop):Prop:=∃n r,call E n f args=some r/\Q r
def Fi(E:Env)(f:Nat)(args:List AV)(H:Hp)(Q:AV->Hp->Prop):Prop:=∃n r H',kQ E (bR E n) f args H=some (r,H')/\Q r H'
def gz(E:Env)(ops rest:List Oper)(ts:List AV)(H:Hp)(Q:List AV->Hp->Prop):Prop:=
 ∃n ts' H',qa E (jE E (bR E n)) (kQ E (bR E n)) (lI (bR E n)) ops rest ts H=some (ts',H')/\Q ts' H'
section
variable{E:Env}{ts:List AV}{H:Hp}{Q:Ex->List AV->Hp->Prop}
def Cv.mono{c:Code}{Q':Ex->List AV->Hp->Prop}(h:Cv E c ts H Q)(hq:∀ex ts' H',Q ex ts' H'->Q' ex ts' H'):Cv E c ts H Q':=by obtain⟨n,ex,ts',H',h1,h2⟩:=h;exact⟨n,ex,ts',H',h1,hq _ _ _ h2⟩
def Fn.mono{f:Nat}{args:List AV}{Q Q':AV->Prop}(h:Fn E f args Q)(hq:∀r,Q r->Q' r):Fn E f args Q':=by obtain⟨n,r,h1,h2⟩:=h;exact⟨n,r,h1,hq _ h2⟩
def Cv.skip(h:Q .normal ts H):Cv E .skip ts H Q:=⟨1,_,_,_,rfl,h⟩
def Cv.label{l}(h:Q .normal ts H):Cv E (.label l) ts H Q:=⟨1,_,_,_,rfl,h⟩
def Cv.exit{id:Nat}(h:Q (.exit id) ts H):Cv E (.exit id) ts H Q:=⟨1,_,_,_,rfl,h⟩
def Cv.ret(h:Q .ret ts H):Cv E .ret ts H Q:=⟨1,_,_,_,rfl,h⟩
def Cv.seq{a b:Code}(h:Cv E a ts H fun ex ts' H'=>match ex with|.normal=>Cv E b ts' H' Q|e=>Q e ts' H'):Cv E (.seq a b) ts H Q:=by
 obtain⟨n,ex,ts',H',h1,h2⟩:=h;cases ex with
 |normal=>
  obtain⟨m,ex2,oc,H2,k1,k2⟩:=h2;refine⟨max n m+1,ex2,oc,H2,?_,k2⟩;show cM E (bR E (max n m)) (.seq a b) ts H=_
  unfold cM;simp only[cY (aND n m) _ _ _ _ h1];exact cY (aNC n m) _ _ _ _ k1
 |exit id=>
  refine⟨n+1,_,_,_,?_,h2⟩;show cM E (bR E n) (.seq a b) ts H=_
  unfold cM;simp only[h1]
 |ret=>
  refine⟨n+1,_,_,_,?_,h2⟩;show cM E (bR E n) (.seq a b) ts H=_
  unfold cM;simp only[h1]
def Cv.cond{c:Operand}{a b:Code}{t:Bool}(hc:bT ts c=some (.bool t))(h:Cv E (if t then a else b) ts H Q):Cv E (.cond c a b) ts H Q:=by
 obtain⟨n,ex,ts',H',h1,h2⟩:=h;refine⟨n+1,ex,ts',H',?_,h2⟩;show cM E (bR E n) (.cond c a b) ts H=_
 unfold cM;simp only[hc];exact h1
def Cv.block{id:Nat}{c:Code}(h:Cv E c ts H fun ex ts' H'=>match ex with|.exit M7=>if M7=id then Q .normal ts' H' else Q (.exit M7) ts' H'|e=>Q e ts' H'):Cv E (.block id c) ts H Q:=by
 obtain⟨n,ex,ts',H',h1,h2⟩:=h;cases ex with
 |normal=>
  refine⟨n+1,_,_,_,?_,h2⟩;show cM E (bR E n) (.block id c) ts H=_
  unfold cM;simp only[h1]
 |ret=>
  refine⟨n+1,_,_,_,?_,h2⟩;show cM E (bR E n) (.block id c) ts H=_
  unfold cM;simp only[h1]
 |exit M7=>
  simp only at h2;by_cases he:M7=id
  ·rw[if_pos he]at h2;refine⟨n+1,_,_,_,?_,h2⟩;show cM E (bR E n) (.block id c) ts H=_
   unfold cM;simp only[h1,if_pos he]
  ·rw[if_neg he]at h2;refine⟨n+1,_,_,_,?_,h2⟩;show cM E (bR E n) (.block id c) ts H=_
   unfold cM;simp only[h1,if_neg he]
def Cv.loop{body:Code}(I:Nat->List AV->Hp->Prop)(ym:∀k ts H,I k ts H->Cv E body ts H fun ex ts' H'=>match ex with
  |.normal=>∃k',k'<k/\I k' ts' H'
  |e=>Q e ts' H'):∀(k:Nat) (ts:List AV) (H:Hp),I k ts H->Cv E (.loop body) ts H Q:=by
 intro k;induction k using Nat.strongRecOn with
 |_ k ih=>
  intro ts H hI;obtain⟨n,ex,ts',H',h1,h2⟩:=ym k ts H hI;cases ex with
  |normal=>
   obtain⟨k',hk,hI'⟩:=h2;obtain⟨m,ex2,oc,H2,k1,k2⟩:=ih k' hk ts' H' hI';refine⟨max n m+1,ex2,oc,H2,?_,k2⟩;show cM E (bR E (max n m)) (.loop body) ts H=_
   unfold cM;simp only[cY (aND n m) _ _ _ _ h1];exact cY (aNC n m) _ _ _ _ k1
  |ret=>
   refine⟨n+1,_,_,_,?_,h2⟩;show cM E (bR E n) (.loop body) ts H=_
   unfold cM;simp only[h1]
  |exit id=>
   refine⟨n+1,_,_,_,?_,h2⟩;show cM E (bR E n) (.loop body) ts H=_
   unfold cM;simp only[h1]
def Cv.round{body:Code}(h:Cv E body ts H fun ex ts' H'=>match ex with|.normal=>Cv E (.loop body) ts' H' Q|e=>Q e ts' H'):Cv E (.loop body) ts H Q:=by
 obtain⟨n,ex,ts',H',h1,h2⟩:=h;cases ex with
 |normal=>
  obtain⟨m,ex2,oc,H2,k1,k2⟩:=h2;refine⟨max n m+1,ex2,oc,H2,?_,k2⟩;show cM E (bR E (max n m)) (.loop body) ts H=_
  unfold cM;simp only[cY (aND n m) _ _ _ _ h1];exact cY (aNC n m) _ _ _ _ k1
 |ret=>
  refine⟨n+1,_,_,_,?_,h2⟩;show cM E (bR E n) (.loop body) ts H=_
  unfold cM;simp only[h1]
 |exit id=>
  refine⟨n+1,_,_,_,?_,h2⟩;show cM E (bR E n) (.loop body) ts H=_
  unfold cM;simp only[h1]
def Cv.region{id:Nat}{ops:Array Oper}(h:gz E ops.toList ops.toList ts H (Q .normal)):Cv E (.region id ops false) ts H Q:=by
 obtain⟨n,ts',H',h1,h2⟩:=h;refine⟨n+1,_,_,_,?_,h2⟩;show cM E (bR E n) (.region id ops false) ts H=_
 unfold cM;simp only[h1,aK4,if_false,aLt]
variable{ops rest:List Oper}{q:List AV->Hp->Prop}
def gz.nil(h:q ts H):gz E ops [] ts H q:=⟨0,_,_,rfl,h⟩
def gz.step{o:Oper}{ts1:List AV}{e:cC}(h1:bU E (fun _ _=>none) (fun _ _ _=>none) (fun _ _ _=>none) false ops H.length o ts H=some (ts1,e))(h:gz E ops rest ts1 (e.app H) q):gz E ops (o::rest) ts H q:=by obtain⟨n,ts',H',k1,k2⟩:=h;refine⟨n,ts',H',?_,k2⟩;unfold qa;rw[oI (fun _ _ _ h=>by cases h) (fun _ _ _ _ h=>by cases h) (fun _ _ _ _ h=>by cases h) h1];exact k1
end
end Dv
