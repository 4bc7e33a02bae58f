/- A part of the proof that PairRefuses returns true for every input; no condition of its own. -/
import Derived.Test.YtblnjkjjedanaaaGreatDoorTae
set_option linter.all false
set_option maxHeartbeats 100000000
set_option maxRecDepth 100000
open Option renaming map_eq_some_iff->aLp,map_some->aNj,some->aLv
open List renaming getElem?_set_ne->aN9,getElem?_eq_some_iff->aLu,mem_map->aNp,mem_singleton->aNq,mem_append_right->aOa,mem_cons->aNn,mem_append->aNg,getElem?_set_self->aOc,mem_append_left->aOd,foldl_cons->aNm,mem_cons_of_mem->aOe,flatMap_cons->aNs,ext_getElem?->aOg,pairwise_append->aOh,pairwise_cons->aOi,all_eq_true->aMa
open Bool renaming false_eq_true->aLs,false_and->aOf,and_eq_true->aMq,or_eq_true->aMi
open Array renaming getElem?_eq_some_iff->aOb,toList_append->aNQ
namespace Dv
open Go Go.RowKit
def rI(H H':Hp)(b:Nat):Prop:=(H'[b]?).map cG.nN=(H[b]?).map cG.nN
section
variable{E:Env}{pc:Pc}{ic yc:Ic}{dr:Bool}{ts df:List AV}{H H':Hp}{aM nid':Nat}{o:Oper}{b:Nat}
theorem rI.cells(h:rI H H' b){st:iH}{cs:List AV}(hb:H[b]?=some (.cells st cs))(hd:st≠ .dead):∃st',H'[b]?=some (.cells st' cs)/\st'≠ .dead:=by
 unfold rI at h;rw[hb]at h;simp only[aNj,aLp]at h;obtain⟨k,h1,h2⟩:=h;cases k<;>cases st<;>simp only[cG.nN]at h2<;>try (exact absurd rfl hd)
 case cells.live st' tL=>cases st'<;>simp only[cG.cells.injEq,true_and]at h2<;>first|(subst h2;exact⟨_,h1,by simp⟩)|(cases h2.1)
 case cells.ro st' tL=>cases st'<;>simp only[cG.cells.injEq,true_and]at h2<;>first|(subst h2;exact⟨_,h1,by simp⟩)|(cases h2.1)
 case map.live st' a b=>cases st'<;>simp[]at h2
 case map.ro st' a b=>cases st'<;>simp[]at h2
 all_goals cases h2
theorem rI.map(h:rI H H' b){st:iH}{ks vs:List AV}(hb:H[b]?=some (.map st ks vs))(hd:st≠ .dead):∃st',H'[b]?=some (.map st' ks vs)/\st'≠ .dead:=by
 unfold rI at h;rw[hb]at h;simp only[aNj,aLp]at h;obtain⟨k,h1,h2⟩:=h;cases k<;>cases st<;>simp only[cG.nN]at h2<;>try (exact absurd rfl hd)
 case map.live st' a b=>cases st'<;>simp only[cG.map.injEq,true_and]at h2<;>first|(obtain⟨rfl,rfl⟩:=h2;exact⟨_,h1,by simp⟩)|(cases h2.1)
 case map.ro st' a b=>cases st'<;>simp only[cG.map.injEq,true_and]at h2<;>first|(obtain⟨rfl,rfl⟩:=h2;exact⟨_,h1,by simp⟩)|(cases h2.1)
 case cells.live st' a=>cases st'<;>simp[]at h2
 case cells.ro st' a=>cases st'<;>simp[]at h2
 all_goals cases h2
theorem rI.kF(h:rI H H' b){s:List UInt8}{p:Nat}(hb:H[b]?=some (.kF s p)):H'[b]?=some (.kF s p):=by
 unfold rI at h;rw[hb]at h;simp only[aNj,aLp]at h;obtain⟨k,h1,h2⟩:=h;cases k<;>simp only[cG.nN]at h2
 case cells st' a=>cases st'<;>simp[]at h2
 case map st' a b=>cases st'<;>simp[]at h2
 case kF=>rw[h1,h2]
 all_goals cases h2
theorem Pj{p:AV}{r:List AV×Nat}(hr:∀b,b∈fO p->rI H H' b)(h:Fh E H p=some r):Fh E H' p=some r:=by
 unfold Fh at h⊢;cases p<;>simp only at h⊢<;>try exact h
 case b6 b off=>
  split at h
  case h_2=>cases h
  rename_i st cs hb;split at h
  ·cases h
  rename_i hd;obtain⟨st',g1,g2⟩:=(hr b (by simp[fO])).cells hb hd;rw[g1];simp only[g2,if_false];exact h
theorem zr{n:Nat}{x:AV}{r:List AV}(hr:∀b,b∈fO x->rI H H' b)(h:kf H n x=some r):kf H' n x=some r:=by
 unfold kf at h⊢;cases x<;>simp only at h⊢<;>try exact h
 case aI b off len e kc=>
  split at h
  ·cases h
  rename_i he;rw[if_neg he];split at h
  case h_2=>cases h
  rename_i st cs hb;split at h
  ·cases h
  rename_i hd;obtain⟨st',g1,g2⟩:=(hr b (by simp[fO])).cells hb (fun q=>hd (.inl q));rw[g1];simp only;rw[if_neg (by
   rintro(q|q)
   ·exact g2 q
   ·exact hd (.inr q))]
  exact h
theorem EM{x:AV}{r:List AV×List AV}(hr:∀b,b∈fO x->rI H H' b)(h:Bm H x=some r):Bm H' x=some r:=by
 unfold Bm at h⊢;cases x<;>simp only at h⊢<;>try exact h
 case iL b=>
  split at h
  case h_2=>cases h
  rename_i st ks vs hb;split at h
  ·cases h
  rename_i hd;obtain⟨st',g1,g2⟩:=(hr b (by simp[fO])).map hb hd;rw[g1];simp only[g2,if_false];exact h
theorem Cg{t:Nat}{p v:AV}(hr:∀b,b∈fO p->rI H H' b)(h:gl E H t p=some v):gl E H' t p=some v:=by
 unfold gl at h⊢;split at h
 case h_2=>cases h
 rename_i cs off hp;rw[Pj hr hp];exact h
theorem F9{t:Nat}{m k v:AV}{ok:Bool}(hr:∀b,b∈fO m->rI H H' b)(h:jk E H t m k ok=some v):jk E H' t m k ok=some v:=by
 unfold jk at h⊢;split at h
 case h_2=>cases h
 split at h
 case h_2=>cases h
 rename_i ks vs hm;rw[EM hr hm];exact h
theorem Jh{t:Nat}{x v:AV}(hr:∀b,b∈fO x->rI H H' b)(h:sf E H t x=some v):sf E H' t x=some v:=by
 unfold sf at h⊢;split at h<;>try exact h
 rw[aLp]at h;obtain⟨r,h1,h2⟩:=h;rw[EM hr h1];simp only[aNj,aLv.injEq];exact h2
theorem CS{t:Nat}{x v:AV}{lo hi:Option AV}(hr:∀b,b∈fO x->rI H H' b)(h:jw E H t x lo hi=some v):jw E H' t x lo hi=some v:=by
 unfold jw at h⊢;split at h
 case h_2=>cases h
 split at h
 case h_2=>cases h
 cases x<;>simp only at h⊢<;>try exact h
 case b6 b off=>
  split at h
  case h_2=>cases h
  rename_i st cs hb;split at h
  ·cases h
  rename_i hd;obtain⟨st',g1,g2⟩:=(hr b (by simp[fO])).cells hb (fun q=>hd (.inl q));rw[g1];simp only;rw[if_neg (by
   rintro(q|q)
   ·exact g2 q
   ·exact hd (.inr q))]
  exact h
theorem yL{f g:AV->Option (AV×List Nat)}{J:Nat->Prop}(hf:∀x r bs,f x=some (r,bs)->(∀b,b∈bs->J b)->g x=some (r,bs)):
  ∀(xs:List AV) (rs:List (AV×List Nat)),dh f xs=some rs->(∀b,b∈rs.flatMap (·.2)->J b)->dh g xs=some rs
 |[],rs,h,_=>h
 |x::xs,rs,h,hj=>by
  unfold dh at h⊢;split at h
  ·cases h
  rename_i y hy;split at h
  ·cases h
  rename_i ys hys;cases h;obtain⟨r,bs⟩:=y;rw[hf x r bs hy (fun b hb=>hj b (by simp[hb])),yL hf xs ys hys (fun b hb=>hj b (by
   rw[aNs];exact aOa _ hb))]
theorem wo:∀(n:Nat) (x r:AV) (bs:List Nat),fz H n x=some (r,bs)->(∀b,b∈bs->rI H H' b)->fz H' n x=some (r,bs)
 |0,_,_,_,h,_=>by cases h
 |n+1,x,r,bs,h,hj=>by
  have hl:∀(cs:List AV) (q:List AV×List Nat),((dh (fz H n) cs).map fun r=>(r.map (·.1),r.flatMap (·.2)))=some q->(∀b,b∈q.2->rI H H' b)->
    ((dh (fz H' n) cs).map fun r=>(r.map (·.1),r.flatMap (·.2)))=some q:=fun cs q h1 h2=>by
   rw[aLp]at h1;obtain⟨rs,g1,rfl⟩:=h1;rw[yL (fun x r bs=>wo n x r bs) cs rs g1 h2];rfl
  unfold fz at h⊢;simp only at h⊢;cases x<;>simp only at h⊢<;>try exact h
  case b6 b off=>
   split at h
   case h_2=>cases h
   rename_i st cs hb;split at h
   ·cases h
   rename_i hd;rw[aLp]at h;obtain⟨q,g1,g2⟩:=h;cases g2;obtain⟨st',k1,k2⟩:=(hj b (by simp)).cells hb hd;rw[k1];simp only[k2,if_false];rw[hl cs q g1 (fun c hc=>hj c (by simp[hc]))];rfl
  case aI b off len esz kc=>
   split at h
   case h_2=>cases h
   rename_i st cs hb;split at h
   ·cases h
   rename_i hd;rw[aLp]at h;obtain⟨q,g1,g2⟩:=h;cases g2;simp only[aMi,decide_eq_true_eq,not_or]at hd;obtain⟨st',k1,k2⟩:=(hj b (by simp)).cells hb hd.1;rw[k1];simp only;rw[if_neg (by simp only[aMi,decide_eq_true_eq,not_or];exact⟨k2,hd.2⟩)];rw[hl _ q g1 (fun c hc=>hj c (by simp[hc]))];rfl
  case iL b=>
   split at h
   case h_2=>cases h
   rename_i st ks vs hb;split at h
   ·cases h
   rename_i hd;split at h
   case h_2=>cases h
   rename_i k b1 v b2 g1 g2;cases h;obtain⟨st',k1,k2⟩:=(hj b (by simp)).map hb hd;rw[k1];simp only[k2,if_false];rw[hl _ _ g1 (fun c hc=>hj c (by simp at hc⊢;exact .inr (.inl hc))),hl _ _ g2 (fun c hc=>hj c (by simp at hc⊢;exact .inr (.inr hc)))]
  case agg cs=>
   rw[aLp]at h;obtain⟨q,g1,g2⟩:=h;cases g2;rw[hl cs q g1 hj];rfl
  case tuple cs=>
   rw[aLp]at h;obtain⟨q,g1,g2⟩:=h;cases g2;rw[hl cs q g1 hj];rfl
  case iface t v=>
   rw[aLp]at h;obtain⟨q,g1,g2⟩:=h;cases g2;rw[wo n v q.1 q.2 g1 hj];rfl
  case func f a c=>
   split at h
   case h_2=>cases h
   rename_i a' b1 c' b2 g1 g2;cases h;rw[hl _ _ g1 (fun c hc=>hj c (aOd _ hc)),hl _ _ g2 (fun c hc=>hj c (aOa _ hc))]
theorem FZ{vs r:List AV}{bs:List Nat}(h:bW H vs=some (r,bs))(hj:∀b,b∈bs->rI H H' b):bW H' vs=some (r,bs):=by
 unfold bW at h⊢;split at h
 ·rename_i hp;rw[if_pos hp];exact h
 ·rename_i hp;rw[if_neg hp];split at h
  ·cases h
  rename_i rs hrs;cases h;rw[yL (fun x r bs=>wo 40 x r bs) vs rs hrs hj]
theorem Hi{x:Operand}(hx:x∈o.op.operands.toList){v:AV}(hv:ch ts x=some v){b:Nat}(hb:b∈fO v):b∈lf ts o:=by
 unfold lf;rw[List.mem_flatMap];exact⟨x,hx,by rw[hv];exact hb⟩
theorem IT:∀{xs:List Operand} {vs:List AV},nL ts xs=some vs->∀v,v∈vs->∃x,x∈xs/\ch ts x=some v
 |[],vs,h,v,hv=>by
  simp only[nL,aLv.injEq]at h;subst h;simp at hv
 |x::xs,vs,h,v,hv=>by
  unfold nL at h;split at h
  ·cases h
  rename_i y hy;split at h
  ·cases h
  rename_i ys hys;cases h;rcases aNn.1 hv with rfl|hv
  ·exact⟨x,by simp,hy⟩
  ·obtain⟨z,h1,h2⟩:=IT hys v hv;exact⟨z,by simp[h1],h2⟩
theorem aqA(hc:jG E o=.r){v:AV}{e:cJ}(h:eN E pc ic yc true ts H aM o=some (v,e)):
  (e=.bM []/\∀H',(∀b,b∈lf ts o->rI H H' b)->eN E pc ic yc true ts H' aM o=some (v,e))∨
  ∃bs,(e=.looks bs∨e=.marks bs)/\∀H',(∀b,b∈bs->rI H H' b)->eN E pc ic yc true ts H' aM o=some (v,e):=by
 have key:∀{r:Option AV},(r.map fun x=>(x,cJ.bM []))=some (v,e)->e=.bM []/\r=some v:=fun{r} h=>by
  rw[aLp]at h;obtain⟨_,q1,q⟩:=h;cases q;exact⟨rfl,q1⟩
 unfold eN at h;unfold jG at hc;unfold eN;have B9:∀(H':Hp),(∀b,b∈lf ts o->rI H H' b)->∀x,x∈o.op.operands.toList->∀v,ch ts x=some v->∀b,b∈fO v->rI H H' b:=
  fun H' hr x hx v hv b hb=>hr b (Hi hx hv hb)
 cases ho:o.op<;>simp only[ho]at hc h⊢<;>try (cases hc;done)
 case load t x=>
  split at h
  case h_2=>cases h
  rename_i p hp;obtain⟨rfl,h1⟩:=key h;refine .inl ⟨rfl,fun H' hr=>?_⟩;rw[Cg (B9 H' hr x (by simp[ho,Op.operands]) p hp) h1];rfl
 case lookup t x i ok=>
  split at h
  case h_2=>cases h
  rename_i m k hm hk;obtain⟨rfl,h1⟩:=key h;refine .inl ⟨rfl,fun H' hr=>?_⟩;rw[F9 (B9 H' hr x (by simp[ho,Op.operands]) m hm) h1];rfl
 case slice t x lo hi mx=>
  split at h
  case h_2=>cases h
  rename_i a l hh hx _ _;split at h
  ·obtain⟨rfl,h1⟩:=key h;refine .inl ⟨rfl,fun H' hr=>?_⟩;rw[CS (B9 H' hr x (by simp[ho,Op.operands]) a hx) h1];rfl
  ·obtain⟨rfl,h1⟩:=key h;exact .inl ⟨rfl,fun H' hr=>h⟩
 case convert s d x=>
  split at h
  ·simp[*]at hc
  ·rename_i z1 hx q1 q2;split at h
   case h_2=>cases h
   rename_i cs hty tg;obtain⟨rfl,h1⟩:=key h;refine .inl ⟨rfl,fun H' hr=>?_⟩;rw[zr (B9 H' hr x (by simp[ho,Op.operands]) _ ‹_›) tg,hty];exact h
  ·obtain⟨rfl,h1⟩:=key h;exact .inl ⟨rfl,fun H' hr=>h⟩
  ·cases h
 case call c=>
  cases pT:c.callee with
  |invoke r m=>simp only[pT]at h;cases h
  |builtin bi=>
   simp only[pT]at hc h⊢;cases bi<;>simp only at hc<;>try (cases hc;done)
   split at h
   case h_2=>cases h
   rename_i a_ has;rw[aLp]at h;obtain⟨⟨y,l⟩,h1,h2⟩:=h;cases h2;rcases vH:c.argTypes.toList with _|⟨t,eg⟩
   ·rw[vH]at h1;rcases a_ with _|⟨x,a_⟩<;>cases h1
   rw[vH]at h1;rcases a_ with _|⟨x,a_⟩
   ·rcases eg with _|⟨u,r⟩<;>cases h1
   have e1:∀H aM,aZ E H aM .len (t::eg) (x::a_)=((sf E H t x).map fun v=>(v,[])):=fun H aM=>by
    rcases eg with _|⟨u,r⟩<;>rcases a_ with _|⟨y,s⟩<;>cases x<;>rfl
   rw[e1,aLp]at h1;obtain⟨z,g1,g2⟩:=h1;cases g2;refine .inl ⟨rfl,fun H' hr=>?_⟩;obtain⟨xo,k1,k2⟩:=IT has x (by simp)
   have:=Jh (B9 H' hr xo (by rw[ho];simp only[Op.operands,Call.operands,aNQ,aNg];exact .inr k1) x k2) g1
   rw[e1,this];rfl
  |value f=>
   simp only[pT]at hc h⊢;cases f<;>simp only at hc<;>try (cases hc;done)
   rename_i f;split at h
   case h_2=>cases h
   rename_i fv a_ hfv has;simp only[ch,aLv.injEq]at hfv;subst hfv;have main:∀(h:(match bW H a_ with
     |some (a_,bs)=>(pc f a_).map fun v=>(v,if bJ v then cJ.looks bs else cJ.marks bs)
     |none=>none)=some (v,e)),∃bs,(e=.looks bs∨e=.marks bs)/\∀H',(∀b,b∈bs->rI H H' b)->(match bW H' a_ with
     |some (a_,bs)=>(pc f a_).map fun v=>(v,if bJ v then cJ.looks bs else cJ.marks bs)
     |none=>none)=some (v,e):=fun h=>by
    split at h
    case h_2=>cases h
    rename_i as' bs gf;rw[aLp]at h;obtain⟨r,g1,g2⟩:=h;cases g2;refine⟨bs,?_,fun H' hr=>?_⟩
    ·by_cases zO:bJ v=true
     ·exact .inl (by simp[zO])
     ·exact .inr (by simp[zO])
    ·rw[FZ gf hr];simp only;rw[g1];rfl
   unfold oM at h⊢;simp only[List.nil_append,List.append_nil]at h⊢;right
   rcases jj:E.fn f with _|⟨code,nt,rs,p,d⟩
   ·rw[jj]at h;exact main h
   ·rw[jj]at h hc;cases p
    ·cases d
     ·cases hc
     ·exact main h
    ·exact main h
end
section
variable{E:Env}{pc:Pc}{ic yc:Ic}{dr:Bool}{ts df:List AV}{H H':Hp}{aM nid':Nat}{o:Oper}{b:Nat}
def lT(H:Hp)(aM:Nat)(l:List (Nat×cG)):Prop:=∀p,p∈l->p.2≠dV/\(p.1=aM∨∃eP,H[p.1]?=some eP/\eP.st=.live)
theorem lT.new{eP:cG}(h:eP.st=.live):lT H aM [(aM,eP)]:=fun p hp=>by
 simp only[aNq]at hp;subst hp
 exact⟨fun q=>(by rw[show eP=dV from q]at h;cases h),.inl rfl⟩
theorem lT.nil:lT H aM []:=fun p hp=>by simp at hp
theorem lT.one{k:Nat}{eP blk':cG}(h:eP.st=.live)(hk:H[k]?=some blk')(hl:blk'.st=.live):lT H aM [(k,eP)]:=fun p hp=>by
 simp only[aNq]at hp;subst hp
 exact⟨fun q=>(by rw[show eP=dV from q]at h;cases h),.inr ⟨blk',hk,hl⟩⟩
theorem JJ{t:Nat}{p x:AV}{l:List (Nat×cG)}(h:iC E H t p x=some l):lT H aM l/\∀H',(∀q,q∈l->H'[q.1]?=H[q.1]?)->iC E H' t p x=some l:=by
 unfold iC at h;split at h
 case h_2=>cases h
 rename_i b off i hi;split at h
 case h_2=>cases h
 rename_i cs hb;split at h
 ·cases h
 rename_i hc;cases h;refine⟨.one rfl hb rfl,fun H' hw=>?_⟩;unfold iC;rw[hi];simp only;rw[hw _ (aNq.2 rfl),hb];simp only;rw[if_neg hc]
theorem ua{t:Nat}{m k x:AV}{l:List (Nat×cG)}(h:ek E H t m k x=some l):lT H aM l/\∀H',(∀q,q∈l->H'[q.1]?=H[q.1]?)->ek E H' t m k x=some l:=by
 have h0:=h;unfold ek at h;split at h
 case h_2=>cases h
 rename_i kt et _ _ _ _ _ b hi;split at h
 case h_2=>cases h
 rename_i ks vs hb;have main:(∃eP:cG,eP.st=.live/\l=[(b,eP)])->lT H aM l/\∀H',(∀q,q∈l->H'[q.1]?=H[q.1]?)->ek E H' t (.iL b) k x=some l:=by rintro⟨eP,hl,rfl⟩;refine⟨.one hl hb rfl,fun H' hw=>?_⟩;unfold ek at h0⊢;rw[hi]at h0⊢;simp only at h0⊢;rw[hw (b,eP) (by simp)];exact h0
 split at h
 ·cases h
 split at h
 ·split at h
  ·split at h
   ·cases h;exact main ⟨_,rfl,rfl⟩
   ·cases h
  ·cases h
 ·cases h;exact main ⟨_,rfl,rfl⟩
 ·cases h
theorem Fw{n:Nat}{x:AV}{r:List AV}(hr:∀b,b∈fO x->rI H H' b)(h:sJ H n x=some r):sJ H' n x=some r:=by
 unfold sJ at h⊢;split at h
 ·exact h
 ·exact zr hr h
theorem PG{ei:yT}{x:AV}{r:Nat×List AV}(hr:∀b,b∈fO x->rI H H' b)(h:vJ H ei false x=some r):vJ H' ei false x=some r:=by
 unfold vJ at h⊢;simp only[aLs,if_false]at h⊢;split at h
 case h_2=>cases h
 rename_i n xs h1 h2;rw[h1,Fw hr h2];exact h
theorem FO{t:Nat}{s x v:AV}{l:List (Nat×cG)}(h:fM E H aM false t s x=some (v,l)):
  lT H aM l/\∀H',(∀b,b∈fO x->rI H H' b)->(∀q,q∈l->H'[q.1]?=H[q.1]?)->fM E H' aM false t s x=some (v,l):=by
 unfold fM at h;split at h
 case h_2=>cases h
 rename_i e _ _ _ _ _ ht;split at h
 case h_2=>cases h
 rename_i ei he;split at h
 case h_2=>cases h
 rename_i n xs tY;have red:∀H',(∀b,b∈fO x->rI H H' b)->fM E H' aM false t s x=
   (if n=0 then(match s with|.aH|.ef|.aI .. |.aJ .. =>some (s,[])|_=>none)else
    if ei.size=0||!xs.all b7||ei.zero.isNone then none else
    match s with
    |.aH=>
     if n*ei.bytes<=gq/\n<=4611686018427387904 then some (.aI aM 0 n ei.size n,[(aM,.cells .live xs)])else none
    |.aI b off len esz kc=>match H'[b]? with
     |some (.cells .live cs)=>
      if len+n<=kc then(if esz=ei.size/\off+(len+n)*esz<=cs.length then
       some (.aI b off (len+n) esz kc,[(b,.cells .live (dE cs (off+len*esz) xs))])else none)else
      if esz=ei.size/\off+len*esz<=cs.length/\(len+n)*ei.bytes<=gq/\len+n<=4611686018427387904 then
       some (.aI aM 0 (len+n) esz (len+n),[(b,.cells .dead []),(aM,.cells .live ((cs.drop off).take (len*esz)++xs))])
      else none
     |_=>none
    |_=>none):=fun H' hr=>by
  unfold fM;rw[ht];simp only;rw[he];simp only;rw[PG hr tY];cases s<;>rfl
 split at h
 ·rename_i hn;have hl:l=[]:=by
   split at h<;>first|(cases h;rfl)|cases h
  subst hl;refine⟨.nil,fun H' hr _=>?_⟩;rw[red H' hr,if_pos hn,<-h];cases s<;>rfl
 rename_i hn;split at h
 ·cases h
 rename_i hc;cases s<;>simp only at h<;>try (cases h;done)
 case aH=>
  have hl:l=[(aM,.cells .live xs)]:=by
   split at h
   ·cases h;rfl
   ·cases h
  subst hl;refine⟨.new rfl,fun H' hr _=>?_⟩;rw[red H' hr,if_neg hn,if_neg hc];exact h
 case aI b off len esz kc=>
  split at h
  case h_2=>cases h
  rename_i cs hb;have fin:∀eP,(b,eP)∈l->∀H',(∀b,b∈fO x->rI H H' b)->(∀q,q∈l->H'[q.1]?=H[q.1]?)->fM E H' aM false t (.aI b off len esz kc) x=some (v,l):=by intro eP hm H' hr hw;rw[red H' hr,if_neg hn,if_neg hc];simp only;rw[hw (b,eP) hm,hb];exact h
  split at h
  ·split at h
   ·cases h;exact⟨.one rfl hb rfl,fin _ (aNq.2 rfl)⟩
   ·cases h
  ·split at h
   ·cases h;refine⟨fun p hp=>?_,fin (.cells .dead []) (by simp)⟩;simp only[aNn,List.not_mem_nil,or_false]at hp;rcases hp with rfl|rfl
    ·exact⟨by simp[dV],.inr ⟨_,hb,rfl⟩⟩
    ·exact⟨by simp[dV],.inl rfl⟩
   ·cases h
theorem zj{t:Nat}{s x v:AV}{l:List (Nat×cG)}(h:nz E aM t s x=some (v,l)):lT H aM l:=by
 unfold nz at h;split at h
 case h_2=>cases h
 split at h
 case h_2=>cases h
 split at h
 case h_2=>cases h
 split at h
 ·cases h;exact .new rfl
 ·cases h
theorem Kx{t:Nat}{d x v:AV}{l:List (Nat×cG)}(h:v7 E H t d x=some (v,l)):
  lT H aM l/\∀H',(∀b,b∈fO x->rI H H' b)->(∀q,q∈l->H'[q.1]?=H[q.1]?)->v7 E H' t d x=some (v,l):=by
 unfold v7 at h;split at h
 case h_2=>cases h
 rename_i e _ _ _ _ _ ht;split at h
 case h_2=>cases h
 rename_i ei he;split at h
 case h_2=>cases h
 rename_i dn xn xs h1 h2 h3;have red:∀d',d'=d->∀H',(∀b,b∈fO x->rI H H' b)->v7 E H' t d x=
   (let n:=min xn dn
    if n=0 then(match d' with|.aH|.ef|.aI .. =>some (.int .i64 0,[])|_=>none)else
    match d' with
    |.aI b off _ esz _=>match H'[b]? with
     |some (.cells .live cs)=>
      if esz=ei.size/\off+n*esz<=cs.length/\xs.all b7 then
       some (.int .i64 n,[(b,.cells .live (dE cs off (xs.take (n*esz))))])
      else none
     |_=>none
    |_=>none):=fun d' hd H' hr=>by
  subst hd;unfold v7;rw[ht];simp only;rw[he];simp only;rw[h1,h2,Fw hr h3];cases d'<;>rfl
 simp only at h red;split at h
 ·rename_i hn;have hl:l=[]:=by
   split at h<;>first|(cases h;rfl)|cases h
  subst hl;refine⟨.nil,fun H' hr _=>?_⟩;rw[red d rfl H' hr,if_pos hn,<-h];cases d<;>rfl
 rename_i hn;cases d<;>simp only at h<;>try (cases h;done)
 case aI b off len esz kc=>
  split at h
  case h_2=>cases h
  rename_i cs hb;split at h
  case isFalse=>cases h
  rename_i hc;cases h;refine⟨.one rfl hb rfl,fun H' hr hw=>?_⟩;rw[red _ rfl H' hr,if_neg hn];simp only;rw[hw _ (aNq.2 rfl),hb];simp only;rw[if_pos hc]
theorem afj(hc:jG E o=.s){v:AV}{e:cJ}(h:eN E pc ic yc true ts H aM o=some (v,e)):
  ∃l,e=.bM l/\lT H aM l/\∀H',(∀b,b∈lf ts o->rI H H' b)->(∀q,q∈l->H'[q.1]?=H[q.1]?)->eN E pc ic yc true ts H' aM o=some (v,e):=by
 have key:∀{r:Option (AV×List (Nat×cG))},(r.map fun x=>(x.1,cJ.bM x.2))=some (v,e)->∃l,e=.bM l/\r=some (v,l):=fun{r} h=>by
  rw[aLp]at h;obtain⟨⟨a,l⟩,q1,q⟩:=h;cases q;exact⟨l,rfl,q1⟩
 have ais:∀{r:Option (List (Nat×cG))},(r.map fun l=>(aX,cJ.bM l))=some (v,e)->∃l,e=.bM l/\v=aX/\r=some l:=fun{r} h=>by
  rw[aLp]at h;obtain⟨l,q1,q⟩:=h;cases q;exact⟨l,rfl,rfl,q1⟩
 have Jb:∀{r:Option (AV×List (Nat×cG))},(r.map fun x=>(x.1,cJ.bM x.2))=some (v,e)->(∀a l,r=some (a,l)->lT H aM l)->∃l,e=.bM l/\lT H aM l:=fun{r} h hk=>by
  obtain⟨l,h1,h2⟩:=key h;exact⟨l,h1,hk _ _ h2⟩
 have B9:∀(H':Hp),(∀b,b∈lf ts o->rI H H' b)->∀x,x∈o.op.operands.toList->∀v,ch ts x=some v->∀b,b∈fO v->rI H H' b:=
  fun H' hr x hx v hv b hb=>hr b (Hi hx hv hb)
 unfold eN at h;unfold jG at hc;unfold eN;cases ho:o.op<;>simp only[ho]at hc h⊢<;>try (cases hc;done)
 case alloc t=>
  obtain⟨l,h1,h2⟩:=Jb h (fun a l q=>by
   rw[aLp]at q;obtain⟨_,_,q⟩:=q;cases q;exact .new rfl)
  exact⟨l,h1,h2,fun _ _ _=>h⟩
 case box t x=>
  obtain⟨l,h1,h2⟩:=Jb h (fun a l q=>by
   rw[aLp]at q;obtain⟨_,_,q⟩:=q;cases q;exact .new rfl)
  exact⟨l,h1,h2,fun _ _ _=>h⟩
 case buildSlice t len ps=>
  split at h
  case h_2=>cases h
  split at h
  case h_2=>cases h
  split at h
  case h_2=>cases h
  split at h
  case isFalse=>cases h
  rename_i tU;obtain⟨l,h1,h2⟩:=Jb h (fun a l q=>by
   rw[aLp]at q;obtain⟨_,_,q⟩:=q;cases q;exact .new rfl)
  exact⟨l,h1,h2,fun _ _ _=>by rw[if_pos tU];exact h⟩
 case makeMap t r=>
  split at h
  ·obtain⟨l,h1,h2⟩:=Jb h (fun a l q=>by cases q;exact .new rfl);exact⟨l,h1,h2,fun _ _ _=>h⟩
  ·obtain⟨l,h1,h2⟩:=Jb h (fun a l q=>by cases q;exact .new rfl);exact⟨l,h1,h2,fun _ _ _=>h⟩
  ·cases h
 case makeSlice t x y=>
  split at h
  case h_2=>cases h
  obtain⟨l,h1,h2⟩:=Jb h (fun a l q=>by
   unfold fL at q;split at q
   case h_2=>cases q
   split at q
   case h_2=>cases q
   split at q
   case h_2=>cases q
   split at q
   ·cases q;exact .new rfl
   ·cases q)
  exact⟨l,h1,h2,fun _ _ _=>h⟩
 case range t x=>
  split at h
  case h_2=>cases h
  obtain⟨l,h1,h2⟩:=Jb h (fun a l q=>by cases q;exact .new rfl);exact⟨l,h1,h2,fun _ _ _=>h⟩
 case convert s d x=>
  split at h
  ·split at h
   ·obtain⟨l,h1,h2⟩:=Jb h (fun a l q=>by cases q;exact .new rfl);exact⟨l,h1,h2,fun _ _ _=>h⟩
   ·cases h
  ·simp[*]at hc
  ·rename_i z hx q1 q2 q3;rw[aLp]at h;obtain⟨y,h1,h2⟩:=h;cases h2;exact⟨[],rfl,.nil,fun _ _ _=>by rw[h1];rfl⟩
  ·cases h
 case next it s=>
  cases s
  ·cases h
  simp only at h⊢;split at h
  case h_2=>cases h
  rename_i i hit;split at h
  case h_2=>cases h
  rename_i z pos hi;have fin:∀H',(∀b,b∈lf ts o->rI H H' b)->H'[i]?=some (.kF z pos):=fun H' hr=>
   (B9 H' hr it (by simp[ho,Op.operands]) _ hit i (by simp[fO])).kF hi
  split at h
  ·rename_i hp;obtain⟨l,h1,h2⟩:=Jb h (fun a l q=>by cases q;exact .one rfl hi rfl);exact⟨l,h1,h2,fun H' hr _=>by rw[fin H' hr];simp only;rw[if_pos hp];exact h⟩
  ·rename_i hp;have h':=h;simp only[aNj,aLv.injEq,Prod.mk.injEq]at h';exact⟨[],h'.2.symm,.nil,fun H' hr _=>by rw[fin H' hr];simp only;rw[if_neg hp];exact h⟩
 case store t p x=>
  split at h
  case h_2=>cases h
  rename_i a z hp hx;obtain⟨l,rfl,rfl,h2⟩:=ais h;obtain⟨g1,g2⟩:=JJ (aM:=aM) h2;exact⟨l,rfl,g1,fun H' hr hw=>by rw[g2 H' hw];rfl⟩
 case mapUpdate t m k x=>
  split at h
  case h_2=>cases h
  rename_i a b c hp hx hy;obtain⟨l,rfl,rfl,h2⟩:=ais h;obtain⟨g1,g2⟩:=ua (aM:=aM) h2;exact⟨l,rfl,g1,fun H' hr hw=>by rw[g2 H' hw];rfl⟩
 case insert t m k x=>
  split at h
  case h_2=>cases h
  rename_i a b c hp hx hy;obtain⟨l,rfl,rfl,h2⟩:=ais h;obtain⟨g1,g2⟩:=ua (aM:=aM) h2;exact⟨l,rfl,g1,fun H' hr hw=>by rw[g2 H' hw];rfl⟩
 case slice t x lo hi mx=>
  split at hc<;>cases hc
 case call c=>
  cases pT:c.callee with
  |invoke r m=>simp only[pT]at h;cases h
  |value f=>
   simp only[pT]at hc;cases f<;>simp only at hc<;>try (cases hc;done)
   split at hc<;>cases hc
  |builtin bi=>
   simp only[pT]at hc h⊢;split at h
   case h_2=>cases h
   rename_i a_ has;obtain⟨l,rfl,h1⟩:=key h;have anX:∀H',(∀b,b∈lf ts o->rI H H' b)->∀x,x∈a_->∀b,b∈fO x->rI H H' b:=fun H' hr x hx=>by
    obtain⟨xo,k1,k2⟩:=IT has x hx;exact B9 H' hr xo (by rw[ho];simp only[Op.operands,Call.operands,aNQ,aNg];exact .inr k1) x k2
   cases bi<;>simp only at hc<;>try (cases hc;done)
   case append=>
    rcases vH:c.argTypes.toList with _|⟨t,_|⟨u,eg⟩⟩
    ·rw[vH]at h1;rcases a_ with _|⟨x,_|⟨y,a_⟩⟩<;>cases h1
    ·rw[vH]at h1;rcases a_ with _|⟨x,_|⟨y,a_⟩⟩<;>cases h1
    rw[vH]at h1;rcases a_ with _|⟨s,_|⟨x,a_⟩⟩
    ·cases h1
    ·cases h1
    have e1:∀H,aZ E H aM .append (t::u::eg) (s::x::a_)=(match E.ty u with
     |some {cS:=.int _,..}=>nz E aM t s x
     |some _=>fM E H aM false t s x
     |none=>none):=fun H=>rfl
    rw[e1]at h1;split at h1
    ·rename_i hu;refine⟨l,rfl,zj h1,fun H' hr hw=>?_⟩;rw[e1,hu];simp only;rw[h1];rfl
    ·rename_i ui dM hu;obtain⟨g1,g2⟩:=FO h1;refine⟨l,rfl,g1,fun H' hr hw=>?_⟩;rw[e1]
     split
     ·rename_i hu2;exact absurd (hu.symm.trans hu2) (by intro q;injection q with q;exact dM _ _ _ _ _ _ q)
     ·rw[g2 H' (anX H' hr x (by simp)) hw];rfl
     ·rename_i hu2;rw[hu]at hu2;cases hu2
    ·cases h1
   case copy=>
    rcases vH:c.argTypes.toList with _|⟨t,eg⟩
    ·rw[vH]at h1;rcases a_ with _|⟨x,_|⟨y,a_⟩⟩<;>cases h1
    rw[vH]at h1;rcases a_ with _|⟨d,_|⟨x,a_⟩⟩
    ·rcases eg with _|⟨u,r⟩<;>cases h1
    ·rcases eg with _|⟨u,r⟩<;>cases d<;>cases h1
    have e1:∀H,aZ E H aM .copy (t::eg) (d::x::a_)=v7 E H t d x:=fun H=>by
     rcases eg with _|⟨u,r⟩<;>cases d<;>rfl
    rw[e1]at h1;obtain⟨g1,g2⟩:=Kx (aM:=aM) h1;refine⟨l,rfl,g1,fun H' hr hw=>?_⟩;rw[e1,g2 H' (anX H' hr x (by simp)) hw];rfl
end
section
variable{E:Env}{pc:Pc}{ic yc:Ic}{dr:Bool}{ts df:List AV}{H H':Hp}{aM nid':Nat}{o:Oper}{b:Nat}
def oL(H:Hp)(l:List (Nat×cG)):Hp:=l.foldl (fun H p=>dP H p.1 p.2) H
theorem eY{k:Nat}{x:cG}(h:k<H.length):dP H k x=H.set k x:=by simp[dP,h]
theorem Af:∀(l:List (Nat×cG)) (H:Hp),(∀p,p∈l->p.1<H.length)->(oL H l).length=H.length
 |[],_,_=>rfl
 |p::l,H,h=>by
  simp only[oL,aNm];rw[eY (h p (by simp))]
  have:=Af l (H.set p.1 p.2) (fun q hq=>by simpa using h q (by simp[hq]))
  simp only[oL]at this;rw[this];simp
theorem km:∀(l:List (Nat×cG)) (H:Hp) (b:Nat),(∀p,p∈l->p.1<H.length)->(∀p,p∈l->p.1≠b)->(oL H l)[b]?=H[b]?
 |[],_,_,_,_=>rfl
 |p::l,H,b,h,hb=>by
  simp only[oL,aNm];rw[eY (h p (by simp))]
  have:=km l (H.set p.1 p.2) b (fun q hq=>by simpa using h q (by simp[hq])) (fun q hq=>hb q (by simp[hq]))
  simp only[oL]at this;rw[this,aN9 (hb p (by simp))]
theorem LY:∀(l:List (Nat×cG)) (H:Hp) (b:Nat),(∀p,p∈l->p.1<H.length)->(oL H l)[b]?=H[b]?∨∃x,(b,x)∈l/\(oL H l)[b]?=some x
 |[],_,_,_=>.inl rfl
 |p::l,H,b,h=>by
  have hl:∀q,q∈l->q.1<(H.set p.1 p.2).length:=fun q hq=>by simpa using h q (by simp[hq])
  have e:oL H (p::l)=oL (H.set p.1 p.2) l:=by simp only[oL,aNm];rw[eY (h p (by simp))]
  rw[e];rcases LY l (H.set p.1 p.2) b hl with g|⟨x,g1,g2⟩
  ·by_cases hb:p.1=b
   ·right
    refine⟨p.2,by subst hb;simp,?_⟩;rw[g,<-hb,aOc (h p (by simp))]
   ·left;rw[g,aN9 hb]
  ·exact .inr ⟨x,by simp[g1],g2⟩
theorem xR:∀(l:List (Nat×cG)) (H H':Hp) (b:Nat),H.length=H'.length->(∀p,p∈l->p.1<H.length)->(H[b]?=H'[b]?∨∃x,(b,x)∈l)->(oL H l)[b]?=(oL H' l)[b]?
 |[],_,_,_,_,_,h=>by
  rcases h with h|⟨x,h⟩
  ·exact h
  ·simp at h
 |p::l,H,H',b,hlen,hl,h=>by
  have e:∀(H:Hp),p.1<H.length->oL H (p::l)=oL (H.set p.1 p.2) l:=fun H hp=>by simp only[oL,aNm];rw[eY hp]
  rw[e H (hl p (by simp)),e H' (by have:=hl p (by simp);omega)];refine xR l _ _ b (by simpa using hlen) (fun q hq=>by simpa using hl q (by simp[hq])) ?_;by_cases hb:p.1=b
  ·left
   have:=hl p (by simp)
   subst hb;rw[aOc this,aOc (by omega)]
  ·rw[aN9 hb,aN9 hb];rcases h with h|⟨x,h⟩
   ·exact .inl h
   ·rcases aNn.1 h with h|h
    ·exact absurd (by rw[<-h]) hb
    ·exact .inr ⟨x,h⟩
theorem S8{l m:List (Nat×cG)}(hl:∀p,p∈l->p.1<H.length)(hm:∀p,p∈m->p.1<H.length)(hd:∀p,p∈l->∀q,q∈m->p.1≠q.1):
  oL (oL H l) m=oL (oL H m) l:=by
 have l1:=Af l H hl;have m1:=Af m H hm;apply aOg;intro b;by_cases hb:∃x,(b,x)∈m
 ·obtain⟨x,hx⟩:=hb
  have:∀p,p∈l->p.1≠b:=fun p hp=>hd p hp (b,x) hx
  rw[km l (oL H m) b (by rw[m1];exact hl) this];exact xR m _ _ b l1 (by rw[l1];exact hm) (.inr ⟨x,hx⟩)
 ·have hn:∀p,p∈m->p.1≠b:=fun p hp q=>hb ⟨p.2,by rw[<-q];exact hp⟩
  rw[km m (oL H l) b (by rw[l1];exact hm) hn];exact xR l _ _ b m1.symm hl (.inl (km m H b hm hn).symm)
theorem SD(l m:List Nat):mark (mark H l) m=mark (mark H m) l:=by
 apply aOg;intro b;simp only[iF];by_cases h1:b∈l<;>by_cases h2:b∈m<;>simp[h1,h2]
theorem Hg{l:List (Nat×cG)}{m:List Nat}(hl:∀p,p∈l->p.1<H.length)(hd:∀p,p∈l->p.1∉m):mark (oL H l) m=oL (mark H m) l:=by
 apply aOg;intro b;rw[iF];have ml:(mark H m).length=H.length:=k6 m H;by_cases hb:∃x,(b,x)∈l
 ·obtain⟨x,hx⟩:=hb;rw[if_neg (hd _ hx)];exact xR l _ _ b ml.symm hl (.inr ⟨x,hx⟩)
 ·have hn:∀p,p∈l->p.1≠b:=fun p hp q=>hb ⟨p.2,by rw[<-q];exact hp⟩
  rw[km l H b hl hn,km l (mark H m) b (by rw[ml];exact hl) hn,iF]
theorem Ty(k:cG):k.nN.nN=k.nN:=by
 cases k
 case cells st c=>cases st<;>rfl
 case map st a b=>cases st<;>rfl
 all_goals rfl
theorem DB(l:List Nat)(b:Nat):rI (mark H l) H b/\rI H (mark H l) b:=by
 have:(mark H l)[b]?.map cG.nN=H[b]?.map cG.nN:=by
  rw[iF]
  split
  ·rw[Option.map_map];congr 1;funext k;exact Ty k
  ·rfl
 exact⟨this.symm,this⟩
theorem Tx{k:cG}(h:k.nN=dV):k=dV:=by
 cases k
 case cells st c=>cases st<;>simp[cG.nN,dV]at h⊢;exact h
 case map st a b=>cases st<;>simp[cG.nN,dV]at h
 all_goals cases h
theorem Hf{l:List Nat}:(mark H l)[b]?=some dV↔H[b]?=some dV:=by
 rw[iF]
 split
 ·rw[aLp];constructor
  ·rintro⟨k,h1,h2⟩;rw[h1,Tx h2]
  ·intro h;exact⟨_,h,rfl⟩
 ·rfl
theorem nG{x:Option cG}:lK x=true↔x=some dV:=by
 unfold lK dV aX
 split
 ·simp
 ·rename_i h;simp only[aLs,false_iff];exact fun q=>h q
theorem yG{a b:List Nat}:yF a b=true↔∀x,x∈a->x∉b:=by simp[yF]
theorem Qu{dst:Option Nat}{v:AV}{x:Operand}(h:∀d,dst=some d->x≠ .tmp d):ch (bQ dst v ts) x=ch ts x:=by
 cases dst with
 |none=>rfl
 |some d=>
  cases x with
  |tmp t=>
   have:t≠d:=fun q=>h d rfl (by rw[q])
   simp only[ch,bQ];rw[aN9 (fun q=>this q.symm)]
  |_=>rfl
theorem Hh{ops:Array Oper}{d:Nat}(h:Operand.tmp d∈o.op.operands.toList):d∈o.looksAt ops:=
 aOd _ (List.mem_filterMap.2 ⟨.tmp d,h,rfl⟩)
theorem ab4{ops:Array Oper}{dst:Option Nat}{u:AV}(h:∀d,dst=some d->d∉o.looksAt ops):eN E pc ic yc dr (bQ dst u ts) H aM o=eN E pc ic yc dr ts H aM o:=
 SW fun x hx=>Qu fun d hd q=>h d hd (Hh (by rw[<-q];exact hx))
theorem Td{ops:Array Oper}{dst:Option Nat}{u:AV}(h:∀d,dst=some d->d∉o.looksAt ops):lf (bQ dst u ts) o=lf ts o:=by
 unfold lf
 have:∀(l:List Operand),(∀x,x∈l->x∈o.op.operands.toList)->(l.flatMap fun x=>match ch (bQ dst u ts) x with|some v=>fO v|none=>[])=(l.flatMap fun x=>match ch ts x with|some v=>fO v|none=>[]):=by
  intro l;induction l with
  |nil=>intro _;rfl
  |cons x l ih=>
   intro hl;rw[aNs,aNs,ih (fun y hy=>hl y (by simp[hy]))];rw[Qu fun d hd q=>h d hd (Hh (by rw[<-q];exact hl x (by simp)))]
 exact this _ (fun _ h=>h)
theorem BC{ops:Array Oper}{dst:Option Nat}{u:AV}{e:cJ}(h:∀d,dst=some d->d∉o.looksAt ops):bI E (bQ dst u ts) o e=bI E ts o e:=by unfold bI;rw[Td h]
theorem MO{ops:Array Oper}{dst:Option Nat}{u:AV}(h:∀d,dst=some d->d∉o.looksAt ops):bU ops.toList (bQ dst u ts) o=bU ops.toList ts o:=by
 unfold bU
 split
 ·rfl
 ·rename_i j want hg
  split
  ·rfl
  ·rename_i d hd;cases dst with
   |none=>rfl
   |some d'=>
    have:d'≠d:=fun q=>h d' rfl (by
     unfold Oper.looksAt;rw[hg];refine aOa _ ?_;simp only[Array.getElem?_toList]at hd;simp[hd,q])
    simp only[bQ];rw[aN9 this]
theorem put_comm{d1 d2:Option Nat}{v1 v2:AV}(h:∀d,d1=some d->d2≠some d):bQ d1 v1 (bQ d2 v2 ts)=bQ d2 v2 (bQ d1 v1 ts):=by
 cases d1<;>cases d2<;>simp only[bQ]
 rename_i a b;rw[List.set_comm];exact fun q=>h a rfl (by rw[q])
end
noncomputable section
section
variable{E:Env}{pc:Pc}{ic yc:Ic}{dr:Bool}{ts df:List AV}{H H':Hp}{aM nid':Nat}{o:Oper}{b:Nat}{ops:Array Oper}
def mX(E:Env)(pc:Pc)(ic yc:Ic)(ops:Array Oper)(aM:Nat)(o:Oper)(ts:List AV)(H:Hp):Option (AV×cJ):=
 if ck E o&&!lK H[aM]? then none else if bU ops.toList ts o then eN E pc ic yc true ts H aM o else some (aX,.bM [])
theorem Mc{dst:Option Nat}{u:AV}(h:∀d,dst=some d->d∉o.looksAt ops):mX E pc ic yc ops aM o (bQ dst u ts) H=mX E pc ic yc ops aM o ts H:=by unfold mX;rw[MO h,ab4 h]
theorem ait(h:ck E o=true):jG E o=.s:=by
 unfold ck at h;unfold jG;cases ho:o.op<;>simp only[ho]at h⊢<;>try (cases h;done)
 case convert s d x=>
  split at h
  ·rfl
  ·cases h
 case call c=>
  cases hc:c.callee with
  |builtin bi=>
   simp only[hc]at h;cases bi<;>first|rfl|(cases h;done)
  |value f=>simp only[hc]at h;cases h
  |invoke r m=>simp only[hc]at h;cases h
theorem XI(hc:jG E o=.n){v:AV}{e:cJ}(h:mX E pc ic yc ops aM o ts H=some (v,e)):e=.bM []/\∀H',mX E pc ic yc ops aM o ts H'=some (v,e):=by
 have hl:ck E o=false:=by
  cases hq:ck E o with
  |false=>rfl
  |true=>rw[ait hq]at hc;cases hc
 unfold mX at h⊢;simp only[hl,aOf,aLs,if_false]at h⊢;split at h
 ·rename_i hw;obtain⟨h1,h2⟩:=aqz hc h;exact⟨h1,fun H'=>by rw[if_pos hw];exact h2 H' aM⟩
 ·rename_i hw;cases h;exact⟨rfl,fun H'=>by rw[if_neg hw]⟩
inductive Shape(E:Env)(H:Hp)(aM:Nat)(o:Oper)(t:List Nat×List Nat):cJ->Prop where
 |bM (l:List (Nat×cG)) (hk:∀p,p∈l->p.2≠dV/\p.1<H.length/\(ck E o=true/\p.1=aM∨∃eP,H[p.1]?=some eP/\eP.st=.live)) (ht:t.2=l.map (·.1)) (hr:jG E o=.r->l=[]):Shape E H aM o t (.bM l)
 |looks (m:List Nat) (ht:t=(m,[])):Shape E H aM o t (.looks m)
 |marks (m:List Nat) (ht:t=(m,[])):Shape E H aM o t (.marks m)
theorem abv{l:List (Nat×cG)}(hs:jG E o=.s)(j7:ck E o=true->lK H[aM]?=true){v:AV}(h:eN E pc ic yc true ts H aM o=some (v,.bM l)):
  ∀p,p∈l->p.2≠dV/\p.1<H.length/\(ck E o=true/\p.1=aM∨∃eP,H[p.1]?=some eP/\eP.st=.live):=by
 intro p hp;have get:∀{aM},eN E pc ic yc true ts H aM o=some (v,.bM l)->lT H aM l:=fun{aM} h=>by
  obtain⟨l',h1,h2,_⟩:=afj hs h;cases h1;exact h2
 cases hl:ck E o with
 |true=>
  have:=get h p hp
  refine⟨this.1,?_,?_⟩
  ·rcases this.2 with q|⟨eP,q,_⟩
   ·rw[q]
    have:=nG.1 (j7 hl)
    exact(aLu.1 this).1
   ·exact(aLu.1 q).1
  ·rcases this.2 with q|q
   ·exact .inl ⟨rfl,q⟩
   ·exact .inr q
 |false=>
  have a1:=get ((Dg (nid':=H.length+1) hl).symm.trans h) p hp;have a2:=get ((Dg (nid':=H.length+2) hl).symm.trans h) p hp
  have:∃eP,H[p.1]?=some eP/\eP.st=.live:=by
   rcases a1.2 with q|q
   ·rcases a2.2 with q'|q'
    ·omega
    ·exact q'
   ·exact q
  obtain⟨eP,g1,g2⟩:=this;exact⟨a1.1,(aLu.1 g1).1,.inr ⟨eP,g1,g2⟩⟩
theorem Dk(hc:jG E o=.r∨jG E o=.s){v:AV}{e:cJ}(h:mX E pc ic yc ops aM o ts H=some (v,e)):
  Shape E H aM o (bI E ts o e) e/\(ck E o=true->H[aM]?=some dV)/\
  ∀H',(∀b,b∈(bI E ts o e).1->rI H H' b)->(∀b,b∈(bI E ts o e).2->H'[b]?=H[b]?)->(ck E o=true->H'[aM]?=some dV)->mX E pc ic yc ops aM o ts H'=some (v,e):=by
 have T1:jG E o≠ .n:=by rcases hc with q|q<;>rw[q]<;>simp
 have BB:∀l,bI E ts o (.bM l)=(lf ts o,l.map (·.1)):=fun l=>by
  unfold bI
  split
  ·exact absurd ‹_› T1
  ·rfl
 have Yz:∀m,bI E ts o (.marks m)=(m,[]):=fun l=>by
  unfold bI
  split
  ·exact absurd ‹_› T1
  ·rfl
 have Yy:∀m,bI E ts o (.looks m)=(m,[]):=fun l=>by
  unfold bI
  split
  ·exact absurd ‹_› T1
  ·rfl
 unfold mX at h;split at h
 ·cases h
 rename_i j7;have G6:ck E o=true->lK H[aM]?=true:=fun q=>by
  rw[q]at j7;simpa using j7
 have cond:∀H':Hp,(ck E o=true->H'[aM]?=some dV)->¬(ck E o&&!lK H'[aM]?)=true:=fun H' hq=>by
  cases hl:ck E o with
  |false=>simp
  |true=>
   have:=nG.2 (hq hl)
   simp[this]
 split at h
 ·rename_i hw;have back:∀H',(ck E o=true->H'[aM]?=some dV)->eN E pc ic yc true ts H' aM o=some (v,e)->mX E pc ic yc ops aM o ts H'=some (v,e):=fun H' h1 h2=>by
   unfold mX;rw[if_neg (cond H' h1),if_pos hw];exact h2
  rcases hc with hc|hc
  ·rcases aqA hc h with⟨rfl,hf⟩|⟨bs,he,hf⟩
   ·refine⟨.bM [] (fun p hp=>by simp at hp) (by rw[BB]) (fun _=>rfl),fun q=>nG.1 (G6 q),fun H' h1 h2 h3=>back H' h3 (hf H' fun b hb=>h1 b (by rw[BB];exact hb))⟩
   ·rcases he with rfl|rfl
    ·exact⟨.looks bs (Yy bs),fun q=>nG.1 (G6 q),fun H' h1 h2 h3=>back H' h3 (hf H' fun b hb=>h1 b (by rw[Yy];exact hb))⟩
    ·exact⟨.marks bs (Yz bs),fun q=>nG.1 (G6 q),fun H' h1 h2 h3=>back H' h3 (hf H' fun b hb=>h1 b (by rw[Yz];exact hb))⟩
  ·obtain⟨l,rfl,hk,hf⟩:=afj hc h;refine⟨.bM l (abv hc G6 h) (by rw[BB]) (fun q=>by rw[hc]at q;cases q),fun q=>nG.1 (G6 q),fun H' h1 h2 h3=>back H' h3 (hf H' (fun b hb=>h1 b (by rw[BB];exact hb)) fun p hp=>h2 p.1 (by rw[BB];exact aNp.2 ⟨p,hp,rfl⟩))⟩
 ·rename_i hw;cases h;refine⟨.bM [] (fun p hp=>by simp at hp) (by rw[BB]) (fun _=>rfl),fun q=>nG.1 (G6 q),fun H' h1 h2 h3=>?_⟩;unfold mX;rw[if_neg (cond H' h3),if_neg hw]
section
variable{t:List Nat×List Nat}{e:cJ}
theorem Shape.len(h:Shape E H aM o t e):(e.app H).length=H.length:=by
 cases h with
 |bM l hk ht hr=>exact Af l H fun p hp=>(hk p hp).2.1
 |looks m ht=>rfl
 |marks m ht=>exact k6 m H
theorem Shape.agr(h:Shape E H aM o t e){b:Nat}(hb:b∉t.2):rI H (e.app H) b/\rI (e.app H) H b:=by
 cases h with
 |bM l hk ht hr=>
  have:(oL H l)[b]?=H[b]?:=km l H b (fun p hp=>(hk p hp).2.1) fun p hp q=>hb (by rw[ht];exact aNp.2 ⟨p,hp,q⟩)
  have e1:(cJ.bM l).app H=oL H l:=rfl;rw[e1];unfold rI;rw[this];exact⟨rfl,rfl⟩
 |looks m ht=>exact⟨rfl,rfl⟩
 |marks m ht=>exact⟨(DB m b).2,(DB m b).1⟩
theorem Shape.same(h:Shape E H aM o t e){b:Nat}(h1:b∉t.1)(h2:b∉t.2):(e.app H)[b]?=H[b]?:=by
 cases h with
 |bM l hk ht hr=>exact km l H b (fun p hp=>(hk p hp).2.1) fun p hp q=>h2 (by rw[ht];exact aNp.2 ⟨p,hp,q⟩)
 |looks m ht=>rfl
 |marks m ht=>
  subst ht;show(mark H m)[b]?=_
  rw[iF,if_neg h1]
theorem Shape.dead(h:Shape E H aM o t e){b:Nat}(hb:(e.app H)[b]?=some dV):H[b]?=some dV:=by
 cases h with
 |bM l hk ht hr=>
  rcases LY l H b (fun p hp=>(hk p hp).2.1)with g|⟨x,g1,g2⟩
  ·rw[<-g];exact hb
  ·have:some x=some dV:=g2.symm.trans hb
   cases this;exact absurd rfl (hk _ g1).1
 |looks m ht=>exact hb
 |marks m ht=>exact Hf.1 hb
theorem Shape.aee(h:Shape E H aM o t e){b:Nat}(h2:b∉t.2)(hb:H[b]?=some dV):(e.app H)[b]?=some dV:=by
 cases h with
 |bM l hk ht hr=>
  have:(oL H l)[b]?=H[b]?:=km l H b (fun p hp=>(hk p hp).2.1) fun p hp q=>h2 (by rw[ht];exact aNp.2 ⟨p,hp,q⟩)
  show(oL H l)[b]?=_
  rw[this];exact hb
 |looks m ht=>exact hb
 |marks m ht=>exact Hf.2 hb
theorem Shape.keys(h:Shape E H aM o t e){b:Nat}(hb:b∈t.2):(ck E o=true/\b=aM)∨∃eP,H[b]?=some eP/\eP.st=.live:=by
 cases h with
 |bM l hk ht hr=>
  rw[ht]at hb;obtain⟨p,hp,rfl⟩:=aNp.1 hb;exact(hk p hp).2.2
 |looks m ht=>subst ht;simp at hb
 |marks m ht=>subst ht;simp at hb
theorem Shape.noW(h:Shape E H aM o t e)(hc:jG E o=.r):t.2=[]:=by
 cases h with
 |bM l hk ht hr=>rw[ht,hr hc];rfl
 |looks m ht=>subst ht;rfl
 |marks m ht=>subst ht;rfl
end
theorem Uz{o1 o2:Oper}{n1 n2:Nat}{t1 t2:List Nat×List Nat}{e1 e2:cJ}{H1 H2:Hp}(h1:Shape E H1 n1 o1 t1 e1)(h2:Shape E H2 n2 o2 t2 e2)(l1:H1.length=H.length)(l2:H2.length=H.length)
  (d1:∀x,x∈t1.2->x∉t2.1) (d2:∀x,x∈t1.2->x∉t2.2) (d3:∀x,x∈t1.1->x∉t2.2):e2.app (e1.app H)=e1.app (e2.app H):=by
 cases h1 with
 |looks m ht=>rfl
 |bM l hk ht hr=>
  have hl:∀p,p∈l->p.1<H.length:=fun p hp=>by rw[<-l1];exact(hk p hp).2.1
  have hm:∀p,p∈l->p.1∈t1.2:=fun p hp=>by rw[ht];exact aNp.2 ⟨p,hp,rfl⟩
  cases h2 with
  |looks m ht=>rfl
  |bM l' xM ht' lW=>
   have B8:∀p,p∈l'->p.1<H.length:=fun p hp=>by rw[<-l2];exact(xM p hp).2.1
   exact S8 hl B8 fun p hp q hq e=>d2 p.1 (hm p hp) (by rw[ht'];exact aNp.2 ⟨q,hq,e.symm⟩)
  |marks m' ht'=>
   subst ht';exact Hg hl fun p hp=>d1 p.1 (hm p hp)
 |marks m ht=>
  subst ht;cases h2 with
  |looks m ht=>rfl
  |bM l' xM ht' lW=>
   have B8:∀p,p∈l'->p.1<H.length:=fun p hp=>by rw[<-l2];exact(xM p hp).2.1
   exact(Hg B8 fun p hp hx=>d3 p.1 hx (by rw[ht'];exact aNp.2 ⟨p,hp,rfl⟩)).symm
  |marks m' ht'=>exact SD m m'
theorem OT{t:Nat}{p v:AV}(hk:∀b,b<H.length->H'[b]?=H[b]?)(h:gl E H t p=some v):gl E H' t p=some v:=by
 refine Cg (fun b hb=>?_) h;have gO:b<H.length:=by
  cases hx:H[b]? with
  |some q=>exact(aLu.1 hx).1
  |none=>
   exfalso;cases p<;>simp[fO]at hb
   all_goals
    subst hb;simp[gl,Fh,hx]at h
 unfold rI;rw[hk b gO]
theorem Tc(hc:zP o=true){v:AV}{e:cJ}(h:mX E pc ic yc ops aM o ts H=some (v,e)):
  e=.bM []/\∀H',(∀b,b<H.length->H'[b]?=H[b]?)->mX E pc ic yc ops aM o ts H'=some (v,e):=by
 obtain⟨d,op,ty,pos,af,g⟩:=o;cases op<;>simp[zP]at hc
 rename_i t x;unfold mX at h⊢;simp only[ck,aOf,aLs,if_false]at h⊢;split at h
 ·rename_i hw;simp only[hw,if_true];unfold eN at h⊢;simp only at h⊢;cases hx:ch ts x with
  |none=>rw[hx]at h;cases h
  |some p=>
   rw[hx]at h;simp only at h⊢;rw[aLp]at h;obtain⟨u,h1,h2⟩:=h;cases h2;exact⟨rfl,fun H' hk=>by rw[OT hk h1];rfl⟩
 ·rename_i hw;simp only[hw];cases h;exact⟨rfl,fun H' _=>rfl⟩
theorem XH(hc:WJ E o=true){v:AV}{e:cJ}(h:mX E pc ic yc ops aM o ts H=some (v,e)):∀b,b<H.length->(e.app H)[b]?=H[b]?:=by
 obtain⟨d,op,ty,pos,af,g⟩:=o;unfold WJ at hc;cases op<;>simp only at hc<;>try (cases hc;done)
 rename_i c;obtain⟨cal,args,eg⟩:=c;cases cal<;>simp only at hc<;>try (cases hc;done)
 rename_i fo;cases fo<;>simp only at hc<;>try (cases hc;done)
 rename_i f;unfold mX at h;simp only[ck,aOf,aLs,if_false]at h;split at h
 ·unfold eN at h;simp only[ch,pU,Bool.and_self]at h;cases hl:nL ts args.toList with
  |none=>rw[hl]at h;cases h
  |some al=>
   rw[hl]at h;simp only at h;unfold oM at h;split at hc
   ·rename_i jj;simp only[jj,aOf,aLs,if_false]at h;split at h
    ·rename_i v' h' hic;split at h
     ·cases h
     ·rename_i hk;cases h;simp only[Bool.true_and,Bool.not_eq_true',Bool.not_eq_false]at hk;unfold oO at hk;have qY:∀b,b<H.length->h'[b]?=H[b]?:=@of_decide_eq_true _ (Classical.propDecidable _) hk;exact qY
    ·cases h
   ·cases hc
 ·cases h;intro b _;rfl
theorem swap{x y:Oper}{nx ny:Nat}{vx vy:AV}{ex ey:cJ}(ha:y.apart ops x=true)
  (h1:mX E pc ic yc ops nx x ts H=some (vx,ex)) (h2:mX E pc ic yc ops ny y (bQ x.dst vx ts) (ex.app H)=some (vy,ey))
  (hf:jG E x=.n∨jG E y=.n∨((jG E x=.r∨jG E x=.s)/\(jG E y=.r∨jG E y=.s)/\
   (∀b,b∈(bI E ts x ex).2->b∉(bI E (bQ x.dst vx ts) y ey).1)/\(∀b,b∈(bI E ts x ex).2->b∉(bI E (bQ x.dst vx ts) y ey).2)/\
   (∀b,b∈(bI E ts x ex).1->b∉(bI E (bQ x.dst vx ts) y ey).2))∨(zP x=true/\WJ E y=true))
  (hn:ck E x=true->ck E y=true->nx≠ny):
  mX E pc ic yc ops ny y ts H=some (vy,ey)/\mX E pc ic yc ops nx x (bQ y.dst vy ts) (ey.app H)=some (vx,ex)/\ey.app (ex.app H)=ex.app (ey.app H)/\
   bQ y.dst vy (bQ x.dst vx ts)=bQ x.dst vx (bQ y.dst vy ts)/\bI E (bQ y.dst vy ts) x ex=bI E ts x ex/\bI E (bQ x.dst vx ts) y ey=bI E ts y ey:=by
 obtain⟨a1,a2,a3⟩:=Oper.apart_spec ha;rw[Mc a3]at h2;rw[Mc a1,BC a1,BC a3];rw[BC a3]at hf;have Ot:bQ y.dst vy (bQ x.dst vx ts)=bQ x.dst vx (bQ y.dst vy ts):=put_comm a2;rcases hf with hc|hc|⟨hx,hy,d1,d2,d3⟩|⟨hx,hy⟩
 ·obtain⟨rfl,g⟩:=XI hc h1;exact⟨h2,g _,rfl,Ot,rfl,rfl⟩
 ·obtain⟨rfl,g⟩:=XI hc h2;exact⟨g _,h1,rfl,Ot,rfl,rfl⟩
 ·obtain⟨s1,r1,f1⟩:=Dk hx h1;obtain⟨s2,r2,f2⟩:=Dk hy h2;have l1:=s1.len;have hy':mX E pc ic yc ops ny y ts H=some (vy,ey):=by refine f2 H (fun b hb=>(s1.agr fun q=>d1 b q hb).2) (fun b hb=>?_) (fun hl=>s1.dead (r2 hl));exact(s1.same (fun q=>d3 b q hb) (fun q=>d2 b q hb)).symm
  obtain⟨s2',_,_⟩:=Dk hy hy';refine⟨hy',?_,Uz s1 s2' rfl rfl d1 d2 d3,Ot,rfl,rfl⟩;refine f1 _ (fun b hb=>(s2'.agr (d3 b hb)).1) (fun b hb=>s2'.same (d1 b hb) (d2 b hb)) fun hl=>?_
  refine s2'.aee (fun q=>?_) (r1 hl);rcases s2.keys q with⟨q1,q2⟩|⟨eP,q1,q2⟩
  ·exact hn hl q1 q2
  ·by_cases hw:nx∈(bI E ts x ex).2
   ·exact d2 nx hw q
   ·have:=s1.aee hw (r1 hl)
    rw[this]at q1;cases q1;cases q2
 ·obtain⟨rfl,g⟩:=Tc hx h1;exact⟨h2,g _ (XH hy h2),rfl,Ot,rfl,rfl⟩
end
end
noncomputable section
abbrev Item:=Nat×Nat×Oper
abbrev Touch:=List Nat×List Nat
section
variable{E:Env}{P:Program}{pc:Pc}{ic yc:Ic}{dr:Bool}{ts df:List AV}{H H':Hp}{aM nid':Nat}{o:Oper}{b:Nat}{ops:Array Oper}
variable{ι:dZ}{w:World}{Lo:Nat->Prop}{w0:World}{a:Act}{B:Nat}
def Bw(E:Env)(pc:Pc)(ic yc:Ic)(ops:Array Oper):List Item->List AV->Hp->Option (List AV×Hp×List (Nat×Touch))
 |[],ts,H=>some (ts,H,[])
 |it::rest,ts,H=>match mX E pc ic yc ops it.2.1 it.2.2 ts H with
  |some (v,e)=>match Bw E pc ic yc ops rest (bQ it.2.2.dst v ts) (e.app H)with
   |some (t,h,l)=>some (t,h,(it.1,bI E ts it.2.2 e)::l)
   |none=>none
  |none=>none
theorem HG{it:Item}{rest:List Item}{t:List AV}{h:Hp}{L:List (Nat×Touch)}(hr:Bw E pc ic yc ops (it::rest) ts H=some (t,h,L)):
  ∃v e l,mX E pc ic yc ops it.2.1 it.2.2 ts H=some (v,e)/\Bw E pc ic yc ops rest (bQ it.2.2.dst v ts) (e.app H)=some (t,h,l)/\L=(it.1,bI E ts it.2.2 e)::l:=by
 unfold Bw at hr;split at hr
 case h_2=>cases hr
 rename_i v e h1;split at hr
 case h_2=>cases hr
 rename_i t' h' l h2;cases hr;exact⟨v,e,l,h1,h2,rfl⟩
theorem Rh{it:Item}{rest:List Item}{t:List AV}{h:Hp}{l:List (Nat×Touch)}{v:AV}{e:cJ}(h1:mX E pc ic yc ops it.2.1 it.2.2 ts H=some (v,e))
  (h2:Bw E pc ic yc ops rest (bQ it.2.2.dst v ts) (e.app H)=some (t,h,l)):Bw E pc ic yc ops (it::rest) ts H=some (t,h,(it.1,bI E ts it.2.2 e)::l):=by
 unfold Bw;rw[h1];simp only;rw[h2]
def TOk(ps:List (Nat×Nat))(L:List (Nat×Touch)):Prop:=∀j i tj ti,(j,i)∈ps->(j,tj)∈L->(i,ti)∈L->
 (∀b,b∈tj.2->b∉ti.1)/\(∀b,b∈tj.2->b∉ti.2)/\(∀b,b∈tj.1->b∉ti.2)
def P8(E:Env)(x y:Item):Prop:=ck E x.2.2=true->ck E y.2.2=true->x.2.1≠y.2.1
theorem noW{x:Oper}{nx:Nat}{v:AV}{e:cJ}(h:mX E pc ic yc ops nx x ts H=some (v,e))(hc:jG E x=.r):(bI E ts x e).2=[]:=
 (Dk (.inl hc) h).1.noW hc
theorem UQ{ps:List (Nat×Nat)}{y:Item}{post:List Item}{t:List AV}{h:Hp}:∀(pre:List Item) (ts:List AV) (H:Hp) (L:List (Nat×Touch)),
  (∀x,x∈pre->y.2.2.apart ops x.2.2=true/\Vz E ps x.1 y.1 x.2.2 y.2.2=true/\P8 E x y)->Bw E pc ic yc ops (pre++y::post) ts H=some (t,h,L)->TOk ps L->
  ∃v e L',mX E pc ic yc ops y.2.1 y.2.2 ts H=some (v,e)/\Bw E pc ic yc ops (pre++post) (bQ y.2.2.dst v ts) (e.app H)=some (t,h,L')/\(y.1,bI E ts y.2.2 e)∈L/\∀z,z∈L'->z∈L
 |[],ts,H,L,_,hr,_=>by
  obtain⟨v,e,l,h1,h2,rfl⟩:=HG hr;exact⟨v,e,l,h1,h2,by simp,fun z hz=>by simp[hz]⟩
 |x::pre,ts,H,L,hp,hr,ht=>by
  obtain⟨vx,ex,l,h1,h2,rfl⟩:=HG hr;obtain⟨vy,ey,L',g1,g2,g3,g4⟩:=UQ pre _ _ l (fun z hz=>hp z (by simp[hz])) h2 (fun j i tj ti a b c=>ht j i tj ti a (by simp[b]) (by simp[c]));obtain⟨ha,hf,hn⟩:=hp x (by simp);have hf':jG E x.2.2=.n∨jG E y.2.2=.n∨((jG E x.2.2=.r∨jG E x.2.2=.s)/\(jG E y.2.2=.r∨jG E y.2.2=.s)/\
    (∀b,b∈(bI E ts x.2.2 ex).2->b∉(bI E (bQ x.2.2.dst vx ts) y.2.2 ey).1)/\(∀b,b∈(bI E ts x.2.2 ex).2->b∉(bI E (bQ x.2.2.dst vx ts) y.2.2 ey).2)/\
    (∀b,b∈(bI E ts x.2.2 ex).1->b∉(bI E (bQ x.2.2.dst vx ts) y.2.2 ey).2))∨(zP x.2.2=true/\WJ E y.2.2=true):=by
   have seen:ps.contains (x.1,y.1)=true->_:=fun q=>ht x.1 y.1 _ _ (by simpa using q) (List.mem_cons_self ..) (aOe _ g3)
   unfold Vz at hf;cases cx:jG E x.2.2 with
   |n=>exact .inl rfl
   |w=>rw[cx]at hf;cases cy:jG E y.2.2<;>rw[cy]at hf<;>first|(cases hf;done)|exact .inr (.inl rfl)
   |r=>
    cases cy:jG E y.2.2 with
    |n=>exact .inr (.inl rfl)
    |w=>rw[cx,cy]at hf;simp only[aMq]at hf;exact .inr (.inr (.inr hf))
    |r=>exact .inr (.inr (.inl ⟨.inl rfl,.inl rfl,by rw[noW h1 cx];simp,by rw[noW h1 cx];simp,by rw[noW g1 cy];simp⟩))
    |s=>rw[cx,cy]at hf;exact .inr (.inr (.inl ⟨.inl rfl,.inr rfl,seen hf⟩))
   |s=>
    cases cy:jG E y.2.2 with
    |n=>exact .inr (.inl rfl)
    |w=>rw[cx,cy]at hf;cases hf
    |r=>rw[cx,cy]at hf;exact .inr (.inr (.inl ⟨.inr rfl,.inl rfl,seen hf⟩))
    |s=>rw[cx,cy]at hf;exact .inr (.inr (.inl ⟨.inr rfl,.inr rfl,seen hf⟩))
  obtain⟨s1,s2,s3,s4,s5,s6⟩:=swap ha h1 g1 hf' hn;refine⟨vy,ey,(x.1,bI E (bQ y.2.2.dst vy ts) x.2.2 ex)::L',s1,?_,?_,fun z hz=>?_⟩
  ·refine Rh s2 ?_;rw[<-s3,<-s4];exact g2
  ·rw[<-s6];exact aOe _ g3
  ·rcases aNn.1 hz with rfl|hz
   ·rw[s5];simp
   ·exact aOe _ (g4 z hz)
theorem JI(S:iW E Lo w0 ι H w){v:AV}{e:cJ}(h:mX E pc ic yc ops aM o ts H=some (v,e)):
  ∃nid',pI ι H nid'/\cO E pc ic yc true ops.toList nid' o ts H=some (bQ o.dst v ts,e):=by
 unfold mX at h;split at h
 ·cases h
 rename_i j7;have main:∀nid',(if bU ops.toList ts o then eN E pc ic yc true ts H nid' o else some (aX,.bM []))=some (v,e)->cO E pc ic yc true ops.toList nid' o ts H=some (bQ o.dst v ts,e):=fun nid' h=>by
  unfold cO;split at h
  ·rename_i hw;rw[if_pos hw,h]
  ·rename_i hw;rw[if_neg hw];cases h;rfl
 cases hl:ck E o with
 |true=>
  rw[hl]at j7;exact⟨aM,VJ S (nG.1 (by simpa using j7)),main aM h⟩
 |false=>
  refine⟨H.length,Eh S,main _ ?_⟩;rw[Dg (nid':=aM) hl];exact h
def Down(ops:Array Oper)(listed:Array Bool):Prop:=∀k o,ops[k]?=some o->listed.getD k false=true->∀e,e∈o.after->Region.binds .any e=true->listed.getD e.on false=true
theorem Ck{listed:Array Bool}(hd:Down ops listed){j:Nat}:∀(n i:Nat) (o:Oper),ops[i]?=some o->(∀e,e∈o.after->Region.binds .any e=true->listed.getD e.on false=true)->Hu ops j n i=true->listed.getD j false=true
 |0,_,_,_,_,h=>by cases h
 |n+1,i,o,ho,he,h=>by
  unfold Hu at h;rw[ho]at h;simp only at h;rw[Array.any_eq_true']at h;obtain⟨e,h1,h2⟩:=h;simp only[aMq,aMi,beq_iff_eq,decide_eq_true_eq]at h2;obtain⟨h2,h3⟩:=h2;have hl:=he e h1 h2;rcases h3 with h3|⟨_,h3⟩
  ·rw[<-h3];exact hl
  ·cases hk:ops[e.on]? with
   |none=>
    cases n with
    |zero=>cases h3
    |succ n=>unfold Hu at h3;rw[hk]at h3;cases h3
   |some o'=>exact Ck hd n e.on o' hk (hd e.on o' hk hl) h3
theorem E3{ps:List (Nat×Nat)}(h:Ae E ps ops=true){i:Nat}{oi:Oper}(hi:ops[i]?=some oi):
  (∀e,e∈oi.after->Region.binds .any e=true->e.on<i)/\∀j oj,j<i->ops[j]?=some oj->(oi.apart ops oj=true/\Vz E ps j i oj oi=true)∨Hu ops j ops.size i=true:=by
 unfold Ae at h;have gO:=(aOb.1 hi).1
 have:=aMa.1 h i (List.mem_range.2 gO)
 rw[hi]at this;simp only[aMq]at this;obtain⟨h1,h2⟩:=this;refine⟨fun e he hb=>?_,fun j oj hj hoj=>?_⟩
 ·rw[Array.all_eq_true_iff_forall_mem]at h1
  have:=h1 e he
  rw[hb]at this;simpa using this
 ·have:=aMa.1 h2 j (List.mem_range.2 hj)
  rw[hoj]at this;simpa using this
theorem aaO{listed:Array Bool}{j:Nat}(h1:listed.getD j true=false)(h2:listed.getD j false=true):False:=by
 cases hj:listed[j]?<;>simp[hj]at h1 h2
 rw[h1]at h2;cases h2
theorem Qp(V:Valid E P)(hp:qh E P pc)(hi:vP E P ic)(hy:uC E P yc){F:Fence}(hF:mD F){ps:List (Nat×Nat)}(I5:Ae E ps ops=true){Q:Exit->Act->World->Prop}{t:List AV}{h:Hp}:
  ∀(fuel:Nat) (rest:List Item) (listed:Array Bool) (ts:List AV) (H:Hp) (L:List (Nat×Touch)) (ι:dZ) (w:World) (a:Act),rest.length=fuel->listed.size=ops.size->
   (∀it,it∈rest->ops[it.1]?=some it.2.2/\listed.getD it.1 true=false)->(∀k o,ops[k]?=some o->listed.getD k true=false->∃it,it∈rest/\it.1=k)->
   rest.Pairwise (fun x y=>x.1<y.1/\P8 E x y)->Down ops listed->Bw E pc ic yc ops rest ts H=some (t,h,L)->TOk ps L->St E B Lo w0 ι H ts a w->CC E B Lo w0 ι H w t h (Q .normal)->
   wpAnyIn F 0 P .any ops Q fuel listed a w
 |0,rest,listed,ts,H,L,ι,w,a,hlen,yf,hA,hB,hC,hD,hr,hT,S,hk=>by
  have:rest=[]:=List.length_eq_zero_iff.1 hlen
  subst this;unfold Bw at hr;cases hr;refine⟨?_,hk _ _ ι (dZ.le_refl _) (Ext.refl _ _) S⟩;rw[List.eq_nil_iff_forall_not_mem];intro j hj;obtain⟨h1,o,h2,_⟩:=mem_ready.1 hj;obtain⟨it,h3,_⟩:=hB j o h2 h1;simp at h3
 |fuel+1,rest,listed,ts,H,L,ι,w,a,hlen,yf,hA,hB,hC,hD,hr,hT,S,hk=>by
  refine⟨fun I4=>?_,fun i zL=>?_⟩
  ·
   exfalso
   match rest,hlen with
   |y::r,_=>
    obtain⟨y1,y2⟩:=hA y (by simp)
    have:y.1∈Region.ready .any ops listed:=by
     refine mem_ready.2 ⟨y2,_,y1,fun e he hb=>?_⟩;have gO:=(E3 I5 y1).1 e he hb;have hys:=(aOb.1 y1).1;have C8:e.on<listed.size:=by omega
     cases hv:listed.getD e.on false with
     |true=>rfl
     |false=>
      exfalso;have hv':listed.getD e.on true=false:=by simp[C8]at hv⊢;exact hv
      obtain⟨it,k1,k2⟩:=hB e.on _ (Array.getElem?_eq_getElem (by omega)) hv';rcases aNn.1 k1 with rfl|k1
      ·omega
      ·have:=(aOi.1 hC).1 it k1
       omega
    rw[I4]at this;simp at this
  ·obtain⟨h1,o,h2,h3⟩:=mem_ready.1 zL;obtain⟨y,k1,k2⟩:=hB i o h2 h1;obtain⟨pre,post,rfl⟩:=List.append_of_mem k1;have hyo:y.2.2=o:=by
    have:=(hA y k1).1
    rw[k2,h2]at this;injection this with this;exact this.symm
   rw[aOh]at hC;obtain⟨c1,c2,c3⟩:=hC;rw[aOi]at c2;have axq:∀x,x∈pre->y.2.2.apart ops x.2.2=true/\Vz E ps x.1 y.1 x.2.2 y.2.2=true/\P8 E x y:=by
    intro x hx;obtain⟨q1,q2⟩:=c3 x hx y (by simp);obtain⟨x1,x2⟩:=hA x (by simp[hx]);rcases(E3 I5 (by rw[hyo,k2];exact h2:ops[y.1]?=some y.2.2)).2 x.1 x.2.2 q1 x1 with q|q
    ·exact⟨q.1,q.2,q2⟩
    ·exfalso;rw[k2]at q;exact aaO x2 (Ck hD _ i o h2 h3 q)
   obtain⟨v,e,L',g1,g2,g3,g4⟩:=UQ pre ts H L axq hr hT;rw[hyo]at g1 g2;obtain⟨nid',f1,f2⟩:=JI S.Py g1;unfold wpOpIn;rw[h2];simp only;refine Mu V hp hi hy S f1 f2 hF fun a1 w1 ι1 m1 m2 m3=>?_
   have dM:∀it,it∈pre++post->it.1≠i:=fun it hit=>by
    rcases aNg.1 hit with hit|hit
    ·have:=(c3 it hit y (by simp)).1;omega
    ·have:=(c2.1 it hit).1;omega
   refine Qp V hp hi hy hF I5 fuel (pre++post) (listed.setIfInBounds i true) _ _ L' ι1 w1 a1 ?_ (by simpa using yf) (fun it hit=>?_) (fun k o' xM hl=>?_) ?_ ?_ g2 (fun j i tj ti a b c=>hT j i tj ti a (g4 _ b) (g4 _ c)) m3 (hk.chain m1 m2)
   ·simp only[List.length_append,List.length_cons]at hlen⊢;omega
   ·have hm:it∈pre++y::post:=by
     rcases aNg.1 hit with q|q<;>simp[q]
    obtain⟨q1,q2⟩:=hA it hm;exact⟨q1,by rw[getD_set_ne true (fun q=>dM it hit q.symm)];exact q2⟩
   ·have Wh:i≠k:=by
     intro q;subst q
     have:i<listed.size:=by rw[yf];exact(aOb.1 h2).1
     simp[this]at hl
    rw[getD_set_ne true Wh]at hl;obtain⟨it,q1,q2⟩:=hB k o' xM hl;refine⟨it,?_,q2⟩;rcases aNg.1 q1 with q|q
    ·exact aOd _ q
    ·rcases aNn.1 q with q|q
     ·exact absurd (by rw[<-q2,q,k2]) Wh.symm
     ·exact aOa _ q
   ·rw[aOh];exact⟨c1,c2.2,fun x hx z hz=>c3 x hx z (by simp[hz])⟩
   ·intro k o' xM hl e' he hb;by_cases Wh:i=k
    ·subst Wh;rw[h2]at xM;cases xM
     exact getD_set_true (h3 e' he hb)
    ·rw[getD_set_ne false Wh]at hl;exact getD_set_true (hD k o' xM hl e' he hb)
end
end
end Dv
