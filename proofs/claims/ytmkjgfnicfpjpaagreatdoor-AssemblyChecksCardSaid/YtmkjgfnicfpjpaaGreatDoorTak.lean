/- Lemmas for AssemblyChecks; no condition. -/
import Derived.Test.YtmkjgfnicfpjpaaGreatDoorTaf
set_option linter.all false
set_option maxHeartbeats 100000000
set_option maxRecDepth 100000
noncomputable section
open Option renaming map_some->aLt,some->aK3,bind_some->aPf
open Bool renaming false_eq_true->aK4,and_eq_true->aMh,not_eq_true'->aLm
open Nat renaming le_max_right->aNC,le_max_left->aND,lt_or_ge->aOs,succ_mul->aPc
open List renaming flatten_cons->aO8,all_eq_true->aLq,getElem?_eq_some_iff->aKB,pairwise_iff_getElem->aO9,getElem_mem->aLr,take_of_length_le->aOv,replicate->aKF,all_cons->aPa,countP_eq_zero->aPb,take_append->aPe
namespace Dv
open Go Go.RowKit
noncomputable section
inductive Tree where
 |nil
 |leaf (f:Nat) (l:List (Nat×aX))
 |node (f:Nat) (a b:Tree)
def Tree.at:Tree->Nat->List (Nat×aX)
 |.nil,_=>[]
 |.leaf g l,f=>if Nat.beq f g then l else []
 |.node g a b,f=>if Nat.blt f g then a.at f else b.at f
def Je(k:Nat):List (Nat×aX)->List AV->Option AV
 |[],_=>none
 |(j,K)::l,args=>if Nat.ble j k then(match PY K args with
  |some r=>some r
  |none=>Je k l args)else Je k l args
def Env.upto(E:Env)(T:Tree)(k:Nat):Env:={E with ov:=fun f args=>match Je k (T.at f) args with
 |some r=>some r
 |none=>E.ov f args}
def Good(E:Env)(P:Program)(f:Nat)(a_:List AV)(r:AV):Prop:=∀(L:Nat->Prop) (w:World) (vs:Array Value),(∀c,L c->c<w.heap.size)->xD E L w->
 Rs cg w L a_ vs.toList->lL P ((callFunc f vs).run P w) (fun v w'=>Below w.heap.size w w'/\R cg w' L r v)
def zF{k:Nat}:∀{l:List (Nat×aX)} {args:List AV} {r:AV},Je k l args=some r->∃j K,(j,K)∈l/\j<=k/\(args,r)∈K
 |[],_,_,h=>by cases h
 |(j,K)::l,args,r,h=>by
  unfold Je at h;split at h
  ·rename_i hj;split at h
   ·rename_i r' hr;cases h;exact⟨j,K,by simp,Nat.le_of_ble_eq_true hj,Fx hr⟩
   ·obtain⟨j',K',h1,h2,h3⟩:=zF h;exact⟨j',K',by simp[h1],h2,h3⟩
  ·obtain⟨j',K',h1,h2,h3⟩:=zF h;exact⟨j',K',by simp[h1],h2,h3⟩
def df(E:Env)(P:Program)(T:Tree)(k:Nat):Prop:=∀f j K,(j,K)∈T.at f->j<=k->∀a_ r,(a_,r)∈K->Good E P f a_ r
def Ia{E:Env}{P:Program}(V:Valid E P)(O:oW E P){T:Tree}{k:Nat}(h:df E P T k):Valid (E.upto T k) P/\oW (E.upto T k) P:=by
 refine⟨V.ov _ _,⟨?_,O.rC.env rfl (fun c=>gn _ _ c)⟩⟩;intro f a_ r hr L w vs hl Xk ha;simp only[Env.upto]at hr;split at hr
 ·rename_i r' hf;cases hr;obtain⟨j,K,h1,h2,h3⟩:=zF hf;exact h f j K h1 h2 a_ r h3 L w vs hl Xk ha
 ·exact O.ov f a_ r hr L w vs hl Xk ha
def df.step{E:Env}{P:Program}(V:Valid E P)(O:oW E P){T:Tree}{k n:Nat}(h:df E P T k)(hc:∀f K,(k+1,K)∈T.at f->sY (E.upto T k) n f K=true):df E P T (k+1):=by
 intro f j K hm hj a_ r hr;rcases aOs k j with ek|Iq
 ·have:j=k+1:=by omega
  subst this;have hk:=aLq.1 (hc f K hm) _ hr;simp only at hk;split at hk
  ·rename_i v hv;obtain⟨V',O'⟩:=Ia V O h
   have:=GI V' O' n f a_ v hv
   rw[<-GB _ _ hk];exact fun L w vs hl hg ha=>this L w vs hl hg ha
  ·cases hk
 ·exact h f j K hm Iq a_ r hr
def df.skip{E:Env}{P:Program}{T:Tree}{k:Nat}(h:df E P T k)(hc:∀f K,(k+1,K)∉T.at f):df E P T (k+1):=by
 intro f j K hm hj a_ r hr;rcases aOs k j with ek|Iq
 ·have:j=k+1:=by omega
  subst this;exact absurd hm (hc f K)
 ·exact h f j K hm Iq a_ r hr
def Tree.leaves:Tree->List (Nat×Nat×aX)
 |.nil=>[]
 |.leaf f l=>l.map fun x=>(f,x.1,x.2)
 |.node _ a b=>a.leaves++b.leaves
def qo:∀(T:Tree) (f j:Nat) (K:aX),(j,K)∈T.at f->(f,j,K)∈T.leaves
 |.nil,_,_,_,h=>by simp[Tree.at]at h
 |.leaf g l,f,j,K,h=>by
  simp only[Tree.at]at h;split at h
  ·rename_i hf
   have:=Nat.eq_of_beq_eq_true hf
   subst this;exact List.mem_map.2 ⟨_,h,rfl⟩
  ·simp at h
 |.node g a b,f,j,K,h=>by
  simp only[Tree.at]at h;simp only[Tree.leaves,List.mem_append];split at h
  ·exact .inl (qo a f j K h)
  ·exact .inr (qo b f j K h)
def df.next{E:Env}{P:Program}(V:Valid E P)(O:oW E P){T:Tree}{k n:Nat}(h:df E P T k)(hc:∀x,x∈T.leaves->x.2.1=k+1->sY (E.upto T k) n x.1 x.2.2=true):df E P T (k+1):=
 h.step V O fun f K hm=>hc (f,k+1,K) (qo T f _ K hm) rfl
def dF{E:Env}{n f:Nat}{K K':aX}:sY E n f (K++K')=(sY E n f K&&sY E n f K'):=by unfold sY;exact List.all_append
def df.zero{E:Env}{P:Program}{T:Tree}(hl:(T.leaves.filter fun x=>x.2.1==0).length=0):df E P T 0:=by
 intro f j K hm hj a_ r hr;have h1:=qo T f j K hm
 have:(f,j,K)∈T.leaves.filter fun x=>x.2.1==0:=List.mem_filter.2 ⟨h1,by simp;omega⟩
 rw[List.length_eq_zero_iff.1 hl]at this;cases this
def FX{T:Tree}{k:Nat}{l:Table}(hl:(T.leaves.filter fun x=>x.2.1==k).map (fun x=>(x.1,x.2.2))=l){f:Nat}{K:aX}(hm:(k,K)∈T.at f):(f,K)∈l:=by rw[<-hl];exact List.mem_map.2 ⟨(f,k,K),List.mem_filter.2 ⟨qo T f k K hm,by simp⟩,rfl⟩
def df.qC{E:Env}{P:Program}(V:Valid E P)(O:oW E P){T:Tree}{k n:Nat}{l:Table}(h:df E P T k)(hl:(T.leaves.filter fun x=>x.2.1==k+1).map (fun x=>(x.1,x.2.2))=l)
  (hc:fl (E.upto T k) n l=true):df E P T (k+1):=
 h.step V O (n:=n) fun f K hm=>aLq.1 hc (f,K) (FX hl hm)
def df.other{E:Env}{P:Program}{T:Tree}{k:Nat}{l:Table}(h:df E P T k)(hl:(T.leaves.filter fun x=>x.2.1==k+1).map (fun x=>(x.1,x.2.2))=l)
  (hg:∀p,p∈l->∀e,e∈p.2->Good E P p.1 e.1 e.2):df E P T (k+1):=by
 intro f j K hm hj a_ r hr;rcases aOs k j with ek|Iq
 ·have:j=k+1:=by omega
  subst this;exact hg (f,K) (FX hl hm) (a_,r) hr
 ·exact h f j K hm Iq a_ r hr
def ae1{E:Env}{T:Tree}{k:Nat}:(E.upto T k).fn=E.fn:=rfl
def ae2{E:Env}{T:Tree}{k:Nat}:(E.upto T k).ty=E.ty:=rfl
def aap{E:Env}{T:Tree}{k:Nat}:(E.upto T k).rC=E.rC:=rfl
def OX{E:Env}{T:Tree}{k:Nat}:(E.upto T k).pairs=E.pairs:=rfl
def TR{E:Env}{T:Tree}{k:Nat}:(E.upto T k).glob=E.glob:=rfl
def FA{E:Env}{P:Program}{T:Tree}{k f:Nat}{a_:List AV}{r:AV}(h:Good (E.upto T k) P f a_ r):Good E P f a_ r:=h
end
noncomputable section
variable{s:Nat}
def iY{l:List (List AV)}(h:∀r∈l,r.length=s):l.flatten.length=l.length*s:=by
 induction l with
 |nil=>simp
 |cons r l ih=>
  rw[aO8,List.length_append,ih (fun x hx=>h x (by simp[hx])),h r (by simp),List.length_cons,Nat.add_mul];omega
def nW{l:List (List AV)}(h:∀r∈l,r.length=s)(j:Nat):l.flatten.drop (j*s)=(l.drop j).flatten:=by
 induction l generalizing j with
 |nil=>simp
 |cons r l ih=>
  cases j with
  |zero=>simp
  |succ j=>
   have hr:=h r (by simp);rw[aO8,List.drop_succ_cons,<-ih (fun x hx=>h x (by simp[hx])) j,aPc,List.drop_append,List.drop_of_length_le (by omega),List.nil_append];congr 1;omega
def kT{l:List (List AV)}(h:∀r∈l,r.length=s)(j:Nat):l.flatten.take (j*s)=(l.take j).flatten:=by
 induction l generalizing j with
 |nil=>simp
 |cons r l ih=>
  cases j with
  |zero=>simp
  |succ j=>
   have hr:=h r (by simp);rw[aO8,List.take_succ_cons,aO8,<-ih (fun x hx=>h x (by simp[hx])) j,aPc,aPe,aOv (by omega)];congr 2;omega
def jz{l:List (List AV)}(h:∀r∈l,r.length=s){j:Nat}{r:List AV}(hj:l[j]?=some r):(l.flatten.drop (j*s)).take s=r:=by
 have ek:=(aKB.1 hj).1;rw[nW h,List.drop_eq_getElem_cons ek,aO8,aPe,aOv (by rw[h _ (aLr ek)];exact Nat.le_refl _)]
 have:l[j]=r:=(aKB.1 hj).2
 rw[this,h r (this▸aLr ek),Nat.sub_self]
 simp
def Jg{l:List (List AV)}(h:∀r∈l,r.length=s){j:Nat}(hj:j<l.length){r:List AV}(hr:r.length=s):cV l.flatten (j*s) r=(l.set j r).flatten:=by
 unfold cV;rw[hr,kT h,show j*s+s=(j+1)*s from by rw[Nat.add_mul];omega,nW h,List.set_eq_take_append_cons_drop,if_pos hj]
 simp
def iM{l:List (List AV)}(h:∀r∈l,r.length=s){j:Nat}(hj:j<l.length):j*s+s<=l.flatten.length:=by rw[iY h,<-aPc];exact Nat.mul_le_mul_right s hj
def Wv{n:Nat}{l:List Nat}(hp:l.Perm (List.range n))(hs:∀(p q:Nat) (hp:p<l.length) (hq:q<l.length),p<q->l[p]<=l[q]):l=List.range n:=by
 refine List.Perm.eq_of_pairwise (le:=fun a b=>a<=b) ?_ ?_ ?_ hp
 ·intro a b _ _ h1 h2;omega
 ·rw[aO9];intro i j hi hj tA;exact hs i j hi hj tA
 ·rw[aO9];intro i j hi hj tA;simp;omega
def swap_perm{l:List Nat}{j k:Nat}(hj:j<l.length)(hk:k<l.length):((l.set j l[k]).set k l[j]).Perm l:=by
 rw[List.perm_iff_count];intro a;by_cases hjk:j=k
 ·subst hjk;simp
 have sG:k<(l.set j l[k]).length:=by simpa using hk
 rw[List.count_set (h:=sG),List.count_set (h:=hj)];have e:(l.set j l[k])[k]=l[k]:=by rw[List.getElem_set_ne hjk]
 rw[e];have c1:l[j]==a->1<=l.count a:=fun h=>by
  have:l[j]=a:=by simpa using h
  exact List.count_pos_iff.2 (this▸aLr hj)
 by_cases h1:(l[j]==a)=true<;>by_cases h2:(l[k]==a)=true<;>simp only[h1,h2,if_true,if_false,aK4]<;>(try have:=c1 h1)<;>omega
end
end Dv
namespace Dv
open Go Go.RowKit
def ku(E:Env)(f:Nat)(al:List AV)(r:AV):Prop:=(∀fi,E.fn f=some fi->fi.pure=true)/\∃m,call E m f al=some r
def KJ:Pc:=fun _ _=>none
def vJ:Ic:=fun _ _ _=>none
def lE(o:Oper):Bool:=match o.op with
 |.call c=>match c.callee with
  |.value _=>true
  |_=>false
 |_=>false
def IB(E:Env)(ops:List Oper)(o:Oper)(ts:List AV)(H:Hp)(k:List AV->Hp->Prop):Prop:=
 match o.op with
 |.call {callee:=.value fo,args:=args,..}=>match bT ts fo,km ts args.toList with
  |some (.func f first cap),some al=>∃sR bs r,bW H (first++al++cap)=some (sR,bs)/\ku E f sR r/\k (bt o.dst r ts) ((if bY r then cC.looks bs else cC.marks bs).app H)
  |_,_=>False
 |_=>match bU E KJ vJ vJ false ops H.length {o with guard:=none} ts H with
  |some (ts1,e)=>k ts1 (e.app H)
  |none=>False
def rS(E:Env)(ops:List Oper)(o:Oper)(ts:List AV)(H:Hp)(k:List AV->Hp->Prop):Prop:=
 if bE ops ts o=true then IB E ops o ts H k else k (bt o.dst bS ts) H
def dZ(E:Env)(ops:List Oper):List Oper->List AV->Hp->(List AV->Hp->Prop)->Prop
 |[],ts,H,q=>q ts H
 |o::rest,ts,H,q=>rS E ops o ts H fun ts1 H1=>dZ E ops rest ts1 H1 q
def oJ{E:Env}{pc:Pc}{ic yc:Ic}{dr:Bool}{ops:List Oper}{aP:Nat}{o:Oper}{ts:List AV}{H:Hp}(h:bE ops ts o=true):
  bU E pc ic yc dr ops aP o ts H=bU E pc ic yc dr ops aP {o with guard:=none} ts H:=by
 unfold bU;rw[if_pos h,if_pos (show bE ops ts {o with guard:=none}=true from rfl)];rfl
def qN{E:Env}{pc:Pc}{ic yc:Ic}{dr:Bool}{ops:List Oper}{aP:Nat}{o:Oper}{ts:List AV}{H:Hp}(h:¬bE ops ts o=true):
  bU E pc ic yc dr ops aP o ts H=some (bt o.dst bS ts,.bJ []):=by
 unfold bU;rw[if_neg h]
def gz.VX{E:Env}{ops rest:List Oper}{ts:List AV}{H:Hp}{q:List AV->Hp->Prop}{d:Option Nat}{t:Nat}{p:String}{af:Array Edge}{g:Option (Nat×Bool)}{fo:Operand}{args:Array Operand}{ats:Array Nat}{f:Nat}{first cap al sR:List AV}{bs:List Nat}{r:AV}
  (hw:bE ops ts ⟨d,.call {callee:=.value fo,args:=args,argTypes:=ats},t,p,af,g⟩=true) (hf:bT ts fo=some (.func f first cap)) (ha:km ts args.toList=some al) (hz:bW H (first++al++cap)=some (sR,bs)) (hc:ku E f sR r)
  (h:gz E ops rest (bt d r ts) ((if bY r then cC.looks bs else cC.marks bs).app H) q):
  gz E ops (⟨d,.call {callee:=.value fo,args:=args,argTypes:=ats},t,p,af,g⟩::rest) ts H q:=by
 obtain⟨n,ts',H',k1,k2⟩:=h;obtain⟨hp,m,hm⟩:=hc;have l1:=cY (E:=E) (aND n m);refine⟨max n m,ts',H',?_,k2⟩;unfold qa;have h1:jE E (bR E (max n m)) f sR=some r:=lk (aNC n m) _ _ _ hm;have dp:bU E (jE E (bR E (max n m))) (kQ E (bR E (max n m))) (lI (bR E (max n m))) false ops H.length ⟨d,.call {callee:=.value fo,args:=args,argTypes:=ats},t,p,af,g⟩ ts H=some (bt d r ts,if bY r then cC.looks bs else cC.marks bs):=by
  rw[oJ hw];cases fB:E.fn f with
  |none=>simp only[bU,bE,dH,hf,ha,ka,fB,hz,h1,if_true,aLt]
  |some fi=>
   obtain⟨code,ntmps,results,pu,du⟩:=fi
   have:=hp _ fB
   simp only at this;subst this;simp only[bU,bE,dH,hf,ha,ka,fB,hz,h1,if_true,aLt]
 rw[dp];exact rA (lH l1) (jV l1) (jW l1) k1
def dZ.ops{E:Env}{ops:List Oper}{q:List AV->Hp->Prop}:∀{rest:List Oper} {ts:List AV} {H:Hp},dZ E ops rest ts H q->gz E ops rest ts H q
 |[],ts,H,h=>gz.nil h
 |o::rest,ts,H,h=>by
  unfold dZ rS at h;by_cases hw:bE ops ts o=true
  ·rw[if_pos hw]at h;unfold IB at h;split at h
   ·rename_i fo args ats h1;obtain⟨d,op,t,p,af,g⟩:=o;simp only at h1;subst h1;split at h
    ·rename_i f first cap al e1 e2
     obtain⟨sR,bs,r,g1,g2,g3⟩:=h;exact gz.VX hw e1 e2 g1 g2 (dZ.ops g3)
    ·exact h.elim
   ·split at h
    ·rename_i ts1 e dp;exact gz.step (by rw[oJ hw];exact dp) (dZ.ops h)
    ·exact h.elim
  ·rw[if_neg hw]at h;exact gz.step (qN hw) (dZ.ops h)
def Cv.run{E:Env}{id:Nat}{ops:Array Oper}{ts:List AV}{H:Hp}{Q:Ex->List AV->Hp->Prop}(h:dZ E ops.toList ops.toList ts H (Q .normal)):Cv E (.region id ops false) ts H Q:=Cv.region h.ops
section
variable{E:Env}{ops rest:List Oper}{ts:List AV}{H:Hp}{q:List AV->Hp->Prop}{d t:Nat}{p:String}{af:Array Edge}
def bZ:dZ E ops [] ts H q=q ts H:=rfl
def nC{o:Oper}(hg:o.guard=none)(hc:∀c,o.op=.call c->∀f,c.callee≠ .value f):dZ E ops (o::rest) ts H q=(match bU E KJ vJ vJ false ops H.length o ts H with
  |some (ts1,e)=>dZ E ops rest ts1 (e.app H) q
  |none=>False):=by
 show rS E ops o ts H _=_
 have hw:bE ops ts o=true:=by unfold bE;rw[hg]
 unfold rS;rw[if_pos hw];unfold IB
 split
 ·rename_i fo args ats h1;exact absurd rfl (hc _ h1 fo)
 ·rw[<-oJ hw]
def Lc{d:Option Nat}{fo:Operand}{args:Array Operand}{ats:Array Nat}:dZ E ops (⟨d,.call {callee:=.value fo,args:=args,argTypes:=ats},t,p,af,none⟩::rest) ts H q=
  (match bT ts fo,km ts args.toList with
  |some (.func f first cap),some al=>∃sR bs r,bW H (first++al++cap)=some (sR,bs)/\ku E f sR r/\dZ E ops rest (bt d r ts) ((if bY r then cC.looks bs else cC.marks bs).app H) q
  |_,_=>False):=by
 show rS E ops _ ts H _=_
 unfold rS;rw[if_pos (show bE ops ts _=true from rfl)];rfl
def run_move{x:Operand}:dZ E ops (⟨some d,.move x,t,p,af,none⟩::rest) ts H q=(match bT ts x with
  |some v=>dZ E ops rest (ts.set d v) H q
  |none=>False):=by
 rw[nC rfl (by intro c h;cases h)];cases hx:bT ts x with
 |none=>simp[bU,bE,dH,hx]
 |some v=>rw[cQ hx];rfl
def run_assign{x:Operand}:dZ E ops (⟨some d,.assign x,t,p,af,none⟩::rest) ts H q=(match bT ts x with
  |some v=>dZ E ops rest (ts.set d v) H q
  |none=>False):=by
 rw[nC rfl (by intro c h;cases h)];cases hx:bT ts x with
 |none=>simp[bU,bE,dH,hx]
 |some v=>rw[gF hx];rfl
def ZX{c a b:Operand}:dZ E ops (⟨some d,.pick c a b,t,p,af,none⟩::rest) ts H q=(match bT ts c with
  |some (.bool z)=>(match bT ts (if z then a else b)with
   |some v=>dZ E ops rest (ts.set d v) H q
   |none=>False)
  |_=>False):=by
 rw[nC rfl (by intro c h;cases h)];cases hc:bT ts c with
 |none=>simp[bU,bE,dH,hc]
 |some u=>
  cases u<;>try (simp[bU,bE,dH,hc];done)
  rename_i z;cases hx:bT ts (if z then a else b)with
  |none=>simp only[bU,bE,dH,hc,hx,if_true,Option.map_none]
  |some v=>rw[HT hc hx];simp only[hx];rfl
def TA{op:BinOp}{t1 t2:Nat}{x y:Operand}:dZ E ops (⟨some d,.binOp op t1 x y t2,t,p,af,none⟩::rest) ts H q=(match bT ts x,bT ts y with
  |some u,some v=>(match cd E (bC x||bC y) op t1 u v with
   |some r=>dZ E ops rest (ts.set d r) H q
   |none=>False)
  |_,_=>False):=by
 rw[nC rfl (by intro c h;cases h)];cases hx:bT ts x with
 |none=>simp[bU,bE,dH,hx]
 |some u=>
  cases hy:bT ts y with
  |none=>simp[bU,bE,dH,hx,hy]
  |some v=>
   cases hr:cd E (bC x||bC y) op t1 u v with
   |none=>simp[bU,bE,dH,hx,hy,hr]
   |some r=>rw[gZ hx hy hr];simp only[hr];rfl
def E2{t1:Nat}{x y:Operand}:dZ E ops (⟨some d,.indexAddr t1 x y,t,p,af,none⟩::rest) ts H q=(match bT ts x,bT ts y with
  |some u,some v=>(match b9 E t1 u v with
   |some r=>dZ E ops rest (ts.set d r) H q
   |none=>False)
  |_,_=>False):=by
 rw[nC rfl (by intro c h;cases h)];cases hx:bT ts x with
 |none=>simp[bU,bE,dH,hx]
 |some u=>
  cases hy:bT ts y with
  |none=>simp[bU,bE,dH,hx,hy]
  |some v=>
   cases hr:b9 E t1 u v with
   |none=>simp[bU,bE,dH,hx,hy,hr]
   |some r=>rw[iT hx hy hr];simp only[hr];rfl
def run_load{t1:Nat}{x:Operand}:dZ E ops (⟨some d,.load t1 x,t,p,af,none⟩::rest) ts H q=(match bT ts x with
  |some u=>(match dW E H t1 u with
   |some r=>dZ E ops rest (ts.set d r) H q
   |none=>False)
  |none=>False):=by
 rw[nC rfl (by intro c h;cases h)];cases hx:bT ts x with
 |none=>simp[bU,bE,dH,hx]
 |some u=>
  cases hr:dW E H t1 u with
  |none=>simp[bU,bE,dH,hx,hr]
  |some r=>rw[rM hx hr];simp only[hr];rfl
def run_store{t1:Nat}{x y:Operand}:dZ E ops (⟨none,.store t1 x y,t,p,af,none⟩::rest) ts H q=(match bT ts x,bT ts y with
  |some u,some v=>(match fe E H t1 u v with
   |some l=>dZ E ops rest ts ((cC.bJ l).app H) q
   |none=>False)
  |_,_=>False):=by
 rw[nC rfl (by intro c h;cases h)];cases hx:bT ts x with
 |none=>simp[bU,bE,dH,hx]
 |some u=>
  cases hy:bT ts y with
  |none=>simp[bU,bE,dH,hx,hy]
  |some v=>
   cases hr:fe E H t1 u v with
   |none=>simp[bU,bE,dH,hx,hy,hr]
   |some l=>rw[yO hx hy hr];simp only[hr]
def Tz{t1:Nat}:dZ E ops (⟨some d,.alloc t1,t,p,af,none⟩::rest) ts H q=(match eo E t1 with
  |some z=>dZ E ops rest (ts.set d (.bI H.length 0)) ((cC.bJ [(H.length,.cells .live z.cells)]).app H) q
  |none=>False):=by
 rw[nC rfl (by intro c h;cases h)];cases hz:eo E t1 with
 |none=>simp[bU,bE,dH,hz]
 |some z=>rw[Ln hz]
def Lb{bi:Builtin}{args:Array Operand}{ats:Array Nat}:dZ E ops (⟨some d,.call {callee:=.builtin bi,args:=args,argTypes:=ats},t,p,af,none⟩::rest) ts H q=(match km ts args.toList with
  |some al=>(match bB E H H.length bi ats.toList al with
   |some (r,l)=>dZ E ops rest (ts.set d r) ((cC.bJ l).app H) q
   |none=>False)
  |none=>False):=by
 rw[nC rfl (by intro c h f hf;cases h;cases hf)];cases ha:km ts args.toList with
 |none=>simp[bU,bE,dH,ha]
 |some al=>
  cases hr:bB E H H.length bi ats.toList al with
  |none=>simp[bU,bE,dH,ha,hr]
  |some x=>
   obtain⟨r,l⟩:=x;rw[rL ha hr];simp only[hr]
def TC{t1:Nat}{x:Operand}{lo hi:Option Operand}{ti:sO}(ht:E.ty t1=some ti)(hna:ti.isAgg=(match ti.cD with|.struct _|.array .. =>true|_=>false))(ha:ti.isAgg=false):
  dZ E ops (⟨some d,.slice t1 x lo hi none,t,p,af,none⟩::rest) ts H q=(match bT ts x,gr ts lo,gr ts hi with
  |some u,some l,some h=>(match gg E t1 u l h with
   |some r=>dZ E ops rest (ts.set d r) H q
   |none=>False)
  |_,_,_=>False):=by
 rw[nC rfl (by intro c h;cases h)];have dp:∀u l h,bT ts x=some u->gr ts lo=some l->gr ts hi=some h->∀r,gg E t1 u l h=r->
   bU E KJ vJ vJ false ops H.length ⟨some d,.slice t1 x lo hi none,t,p,af,none⟩ ts H=(r.map fun r=>(ts.set d r,cC.bJ [])):=by
  intro u l h h1 h2 h3 r hr;subst hr;obtain⟨cD,jA,jS,jB,jZ,dQ⟩:=ti;simp only at ha hna;subst ha;cases cD<;>simp at hna<;>(simp only[bU,bE,dH,h1,h2,h3,ht,bt,if_true];cases gg E t1 u l h<;>rfl)
 cases hx:bT ts x with
 |none=>simp[bU,bE,dH,hx]
 |some u=>
  cases hl:gr ts lo with
  |none=>simp[bU,bE,dH,hx,hl]
  |some l=>
   cases hh:gr ts hi with
   |none=>simp[bU,bE,dH,hx,hl,hh]
   |some h=>
    rw[dp u l h hx hl hh _ rfl];cases hs:gg E t1 u l h with
    |none=>simp only[hs];rfl
    |some r=>simp only[hs];rfl
def tc(ops:List Oper)(j:Nat):Option Nat:=(ops[j]?).bind (·.dst)
def Fe:AV->Option Bool
 |.bool b=>some b
 |_=>none
def TB{d:Option Nat}{op:Op}{j:Nat}{want:Bool}:dZ E ops (⟨d,op,t,p,af,some (j,want)⟩::rest) ts H q=
  (if(tc ops j).bind (fun dj=>Fe (gt ts dj))=some want then dZ E ops (⟨d,op,t,p,af,none⟩::rest) ts H q
   else dZ E ops rest (bt d bS ts) H q):=by
 have hw:bE ops ts ⟨d,op,t,p,af,some (j,want)⟩=true↔(tc ops j).bind (fun dj=>Fe (gt ts dj))=some want:=by
  unfold bE tc;cases hj:(ops[j]?).bind (·.dst)with
  |none=>simp[hj]
  |some dj=>
   simp only[hj,aPf];unfold gt;cases hv:ts[dj]? with
   |none=>simp[Fe,bS]
   |some v=>cases v<;>simp[Fe]
 show rS E ops _ ts H _=_
 unfold rS;by_cases h:bE ops ts ⟨d,op,t,p,af,some (j,want)⟩=true
 ·rw[if_pos h,if_pos (hw.1 h)];show _=rS E ops _ ts H _
  unfold rS;rw[if_pos (show bE ops ts ⟨d,op,t,p,af,none⟩=true from rfl)];rfl
 ·rw[if_neg h,if_neg (fun q=>h (hw.2 q))]
end
def b8(r:Option AV)(k:AV->Prop):Prop:=match r with
 |some v=>k v
 |none=>False
def aS{v:AV}{k:AV->Prop}:b8 (some v) k=k v:=rfl
@[congr] theorem ahC {a b:Option AV} {k:AV->Prop} (h:a=b):b8 a k=b8 b k:=by rw[h]
def qU(r:Option (AV×List (Nat×ct)))(k:AV×List (Nat×ct)->Prop):Prop:=match r with
 |some v=>k v
 |none=>False
def cN{v:AV×List (Nat×ct)}{k:AV×List (Nat×ct)->Prop}:qU (some v) k=k v:=rfl
@[congr] theorem ahD {a b:Option (AV×List (Nat×ct))} {k:AV×List (Nat×ct)->Prop} (h:a=b):qU a k=qU b k:=by rw[h]
def A9(r:Option (List (Nat×ct)))(k:List (Nat×ct)->Prop):Prop:=match r with
 |some v=>k v
 |none=>False
def de{v:List (Nat×ct)}{k:List (Nat×ct)->Prop}:A9 (some v) k=k v:=rfl
@[congr] theorem ahB {a b:Option (List (Nat×ct))} {k:List (Nat×ct)->Prop} (h:a=b):A9 a k=A9 b k:=by rw[h]
def oh(c:Bool)(a b:Prop):Prop:=if c=true then a else b
def gE{a b:Prop}:oh true a b=a:=by simp[oh]
def eJ{a b:Prop}:oh false a b=b:=by simp[oh]
@[congr] theorem ahv {c d:Bool} {a b:Prop} (h:c=d):oh c a b=oh d a b:=by rw[h]
@[congr] theorem amD {E:Env} {ops rest:List Oper} {ts ts':List AV} {H H':Hp} {q:List AV->Hp->Prop} (h1:ts=ts') (h2:H=H'):dZ E ops rest ts H q=dZ E ops rest ts' H' q:=by rw[h1,h2]
def MA(ts:List AV):Operand->AV
 |.tmp i=>gt ts i
 |.const (.int k n)=>.int k n
 |.const (.bool b)=>.bool b
 |.const (.slice none 0 0)=>.aH
 |.const (.string s)=>.str s.data.toList
 |.func f=>.func f [] []
 |.global g=>.ie g 0
 |_=>bS
def nI:Operand->Bool
 |.tmp _|.const (.int ..)|.const (.bool _)|.const (.slice none 0 0)|.const (.string _)|.func _|.global _=>true
 |_=>false
def qt{ts:List AV}{x:Operand}(h:nI x=true):bT ts x=some (MA ts x):=by
 unfold nI at h;split at h<;>first|rfl|cases h
def ajx(ts:List AV)(l:List Operand):List AV:=l.map (MA ts)
def af1{ts:List AV}:∀{l:List Operand},l.all nI=true->km ts l=some (ajx ts l)
 |[],_=>rfl
 |x::l,h=>by
  simp only[aPa,aMh]at h;simp only[km,qt h.1,af1 h.2,ajx,List.map_cons]
def Gi(c a b:AV):Option AV:=match c with
 |.bool z=>some (if z then a else b)
 |_=>none
def DG{a b:AV}:Gi (.bool true) a b=some a:=rfl
def AT{a b:AV}:Gi (.bool false) a b=some b:=rfl
def pC(ops:List Oper)(ts:List AV)(j:Nat)(want:Bool):Bool:=match tc ops j with
 |some dj=>Fe (gt ts dj)==some want
 |none=>false
section
variable{E:Env}{ops rest:List Oper}{ts:List AV}{H:Hp}{q:List AV->Hp->Prop}{d t:Nat}{p:String}{af:Array Edge}
def aet{x:Operand}(h:nI x=true):dZ E ops (⟨some d,.move x,t,p,af,none⟩::rest) ts H q=dZ E ops rest (ts.set d (MA ts x)) H q:=by rw[run_move,qt h]
def Ag{x:Operand}(h:nI x=true):dZ E ops (⟨some d,.assign x,t,p,af,none⟩::rest) ts H q=dZ E ops rest (ts.set d (MA ts x)) H q:=by rw[run_assign,qt h]
def aeu{c a b:Operand}(hc:nI c=true)(ha:nI a=true)(hb:nI b=true):dZ E ops (⟨some d,.pick c a b,t,p,af,none⟩::rest) ts H q=
  b8 (Gi (MA ts c) (MA ts a) (MA ts b)) fun v=>dZ E ops rest (ts.set d v) H q:=by
 rw[ZX,qt hc];cases hq:MA ts c<;>try rfl
 rename_i z;cases z
 ·simp only[aK4,if_false,qt hb,Gi];rfl
 ·simp only[if_true,qt ha,Gi];rfl
def K8{op:BinOp}{t1 t2:Nat}{x y:Operand}(hx:nI x=true)(hy:nI y=true):dZ E ops (⟨some d,.binOp op t1 x y t2,t,p,af,none⟩::rest) ts H q=
  b8 (cd E (bC x||bC y) op t1 (MA ts x) (MA ts y)) fun r=>dZ E ops rest (ts.set d r) H q:=by
 rw[TA,qt hx,qt hy];rfl
def HJ{t1:Nat}{x y:Operand}(hx:nI x=true)(hy:nI y=true):dZ E ops (⟨some d,.indexAddr t1 x y,t,p,af,none⟩::rest) ts H q=
  b8 (b9 E t1 (MA ts x) (MA ts y)) fun r=>dZ E ops rest (ts.set d r) H q:=by
 rw[E2,qt hx,qt hy];rfl
def aes{t1:Nat}{x:Operand}(hx:nI x=true):dZ E ops (⟨some d,.load t1 x,t,p,af,none⟩::rest) ts H q=
  b8 (dW E H t1 (MA ts x)) fun r=>dZ E ops rest (ts.set d r) H q:=by
 rw[run_load,qt hx];rfl
def ZO{t1:Nat}{x y:Operand}(hx:nI x=true)(hy:nI y=true):dZ E ops (⟨none,.store t1 x y,t,p,af,none⟩::rest) ts H q=
  A9 (fe E H t1 (MA ts x) (MA ts y)) fun l=>dZ E ops rest ts ((cC.bJ l).app H) q:=by
 rw[run_store,qt hx,qt hy];rfl
def ZN{t1:Nat}:dZ E ops (⟨some d,.alloc t1,t,p,af,none⟩::rest) ts H q=
  b8 (eo E t1) fun z=>dZ E ops rest (ts.set d (.bI H.length 0)) ((cC.bJ [(H.length,.cells .live z.cells)]).app H) q:=by
 rw[Tz];rfl
def OB{bi:Builtin}{args:Array Operand}{ats:Array Nat}(h:args.toList.all nI=true):dZ E ops (⟨some d,.call {callee:=.builtin bi,args:=args,argTypes:=ats},t,p,af,none⟩::rest) ts H q=
  qU (bB E H H.length bi ats.toList (ajx ts args.toList)) fun x=>dZ E ops rest (ts.set d x.1) ((cC.bJ x.2).app H) q:=by
 rw[Lb,af1 h];simp only;unfold qU
 split<;>simp_all
def qI{d:Option Nat}{op:Op}{j:Nat}{want:Bool}:dZ E ops (⟨d,op,t,p,af,some (j,want)⟩::rest) ts H q=
  oh (pC ops ts j want) (dZ E ops (⟨d,op,t,p,af,none⟩::rest) ts H q) (dZ E ops rest (bt d bS ts) H q):=by
 rw[TB];unfold oh pC;cases tc ops j with
 |none=>simp
 |some dj=>simp only[aPf,beq_iff_eq]
end
section
variable{E:Env}{ops rest:List Oper}{ts:List AV}{H:Hp}{q:List AV->Hp->Prop}{d t:Nat}{p:String}{af:Array Edge}
def gu{i0:Nat}:dZ E ops (⟨some d,.move (.tmp i0),t,p,af,none⟩::rest) ts H q=dZ E ops rest (ts.set d (gt ts i0)) H q:=aet rfl
def mh{i0:Nat}:dZ E ops (⟨some d,.assign (.tmp i0),t,p,af,none⟩::rest) ts H q=dZ E ops rest (ts.set d (gt ts i0)) H q:=Ag rfl
def mf{k0:IntKind}{z0:Int}:dZ E ops (⟨some d,.assign (.const (.int k0 z0)),t,p,af,none⟩::rest) ts H q=dZ E ops rest (ts.set d (.int k0 z0)) H q:=Ag rfl
def Ov:dZ E ops (⟨some d,.assign (.const (.slice none 0 0)),t,p,af,none⟩::rest) ts H q=dZ E ops rest (ts.set d (.aH)) H q:=Ag rfl
def yI{i0:Nat}{i1:Nat}{op:BinOp}{t1 t2:Nat}:dZ E ops (⟨some d,.binOp op t1 (.tmp i0) (.tmp i1) t2,t,p,af,none⟩::rest) ts H q=b8 (cd E false op t1 (gt ts i0) (gt ts i1)) fun r=>dZ E ops rest (ts.set d r) H q:=K8 rfl rfl
def mW{i0:Nat}{k1:IntKind}{z1:Int}{op:BinOp}{t1 t2:Nat}:dZ E ops (⟨some d,.binOp op t1 (.tmp i0) (.const (.int k1 z1)) t2,t,p,af,none⟩::rest) ts H q=b8 (cd E true op t1 (gt ts i0) (.int k1 z1)) fun r=>dZ E ops rest (ts.set d r) H q:=K8 rfl rfl
def BR{i0:Nat}{i1:Nat}{t1:Nat}:dZ E ops (⟨some d,.indexAddr t1 (.tmp i0) (.tmp i1),t,p,af,none⟩::rest) ts H q=b8 (b9 E t1 (gt ts i0) (gt ts i1)) fun r=>dZ E ops rest (ts.set d r) H q:=HJ rfl rfl
def Rc{i0:Nat}{i1:Nat}{t1:Nat}:dZ E ops (⟨none,.store t1 (.tmp i0) (.tmp i1),t,p,af,none⟩::rest) ts H q=A9 (fe E H t1 (gt ts i0) (gt ts i1)) fun l=>dZ E ops rest ts ((cC.bJ l).app H) q:=ZO rfl rfl
def ael{i0:Nat}{t1:Nat}:dZ E ops (⟨some d,.load t1 (.tmp i0),t,p,af,none⟩::rest) ts H q=b8 (dW E H t1 (gt ts i0)) fun r=>dZ E ops rest (ts.set d r) H q:=aes rfl
def uV{i0:Nat}{i1:Nat}{b2:Bool}:dZ E ops (⟨some d,.pick (.tmp i0) (.tmp i1) (.const (.bool b2)),t,p,af,none⟩::rest) ts H q=b8 (Gi (gt ts i0) (gt ts i1) (.bool b2)) fun v=>dZ E ops rest (ts.set d v) H q:=aeu rfl rfl rfl
def AW{i0 t1:Nat}:dZ E ops (⟨some d,.call {callee:=.builtin .len,args:=#[.tmp i0],argTypes:=#[t1]},t,p,af,none⟩::rest) ts H q=qU (bB E H H.length .len [t1] [gt ts i0]) fun x=>dZ E ops rest (ts.set d x.1) ((cC.bJ x.2).app H) q:=OB rfl
end
section
variable{E:Env}{c:Bool}{t:Nat}{k:IntKind}{a b:Int}
def kL:cd E c .add t (.int k a) (.int k b)=some (.int k (aW k (a+b))):=by simp[cd,k7]
def lW:cd E c .sub t (.int k a) (.int k b)=some (.int k (aW k (a-b))):=by simp[cd,k7]
def L6:cd E c .mul t (.int k a) (.int k b)=some (.int k (aW k (a*b))):=by simp[cd,k7]
def L5:cd E c .eql t (.int k a) (.int k b)=some (.bool (a==b)):=by simp[cd,k7]
def L7:cd E c .neq t (.int k a) (.int k b)=some (.bool (a !=b)):=by simp[cd,k7]
def ga:cd E c .lss t (.int k a) (.int k b)=some (.bool (decide (a<b))):=by simp[cd,k7]
def ah0:cd E c .leq t (.int k a) (.int k b)=some (.bool (decide (a<=b))):=by simp[cd,k7]
def zx:cd E c .gtr t (.int k a) (.int k b)=some (.bool (decide (a>b))):=by simp[cd,k7]
def zw:cd E c .geq t (.int k a) (.int k b)=some (.bool (decide (a≥b))):=by simp[cd,k7]
def ah1(h:b≠0):cd E c .quo t (.int k a) (.int k b)=some (.int k (aW k (a.tdiv b))):=by simp[cd,k7,h]
def ah2(h:b≠0):cd E c .rem t (.int k a) (.int k b)=some (.int k (a.tmod b)):=by simp[cd,k7,h]
def OW{x:Bool}:TQ .not (.bool x)=some (.bool (!x)):=rfl
end
def Zf{E:Env}{pc:Pc}{ic yc:Ic}{dr dr':Bool}{ts:List AV}{H:Hp}{aP:Nat}{o:Oper}(hc:lE o=false):dH E pc ic yc dr ts H aP o=dH E pc ic yc dr' ts H aP o:=by
 obtain⟨d,op,t,p,af,g⟩:=o;cases op<;>try rfl
 case makeFunc fn a b=>cases fn<;>rfl
 case next it s=>cases s<;>rfl
 case call c=>
  obtain⟨callee,args,ats⟩:=c;cases callee<;>first|rfl|(simp[lE]at hc;done)
def Gt{E:Env}{pc:Pc}{ic yc:Ic}{dr dr':Bool}{ops:List Oper}{ts:List AV}{H:Hp}{aP nid':Nat}{o:Oper}(hl:bV E o=false)(hc:lE o=false):
  bU E pc ic yc dr ops aP o ts H=bU E pc ic yc dr' ops nid' o ts H:=by
 unfold bU;rw[Zf (dr':=dr') hc,BP (nid':=nid') hl]
def dD.VX{E:Env}{ops rest:List Oper}{aP:Nat}{ts:List AV}{H:Hp}{Q:List AV->Hp->Prop}{d:Option Nat}{t:Nat}{p:String}{af:Array Edge}{g:Option (Nat×Bool)}{fo:Operand}{args:Array Operand}{ats:Array Nat}{f:Nat}{first cap al sR:List AV}{bs:List Nat}{r:AV}
  (hw:bE ops ts ⟨d,.call {callee:=.value fo,args:=args,argTypes:=ats},t,p,af,g⟩=true)
  (hf:bT ts fo=some (.func f first cap)) (ha:km ts args.toList=some al) (hz:bW H (first++al++cap)=some (sR,bs)) (hc:ku E f sR r)
  (h:dD E ops rest aP (bt d r ts) ((if bY r then cC.looks bs else cC.marks bs).app H) fun ts' H' _=>Q ts' H'):
  dD E ops (⟨d,.call {callee:=.value fo,args:=args,argTypes:=ats},t,p,af,g⟩::rest) aP ts H fun ts' H' _=>Q ts' H':=by
 obtain⟨n,ts',H',l,k1,k2⟩:=h;obtain⟨hp,m,hm⟩:=hc;have l1:=cY (E:=E) (aND n m);refine⟨max n m,ts',H',bH E ts ⟨d,.call {callee:=.value fo,args:=args,argTypes:=ats},t,p,af,g⟩ (if bY r then cC.looks bs else cC.marks bs)::l,?_,k2⟩;unfold o7;have h1:jE E (bR E (max n m)) f sR=some r:=lk (aNC n m) _ _ _ hm;rw[show bV E ⟨d,.call {callee:=.value fo,args:=args,argTypes:=ats},t,p,af,g⟩=false from rfl];simp only[Bool.false_and,aK4,if_false];have dp:bU E (jE E (bR E (max n m))) (kQ E (bR E (max n m))) (lI (bR E (max n m))) true ops aP ⟨d,.call {callee:=.value fo,args:=args,argTypes:=ats},t,p,af,g⟩ ts H=some (bt d r ts,if bY r then cC.looks bs else cC.marks bs):=by
  rw[oJ hw];cases fB:E.fn f with
  |none=>simp only[bU,bE,dH,hf,ha,ka,fB,hz,h1,if_true,aLt]
  |some fi=>
   obtain⟨code,ntmps,results,pu,du⟩:=fi
   have:=hp _ fB
   simp only at this;subst this;simp only[bU,bE,dH,hf,ha,ka,fB,hz,h1,if_true,aLt]
 rw[dp];simp only[uH (lH l1) (jV l1) (jW l1) k1]
def dZ.o7{E:Env}{ops:List Oper}{q:List AV->Hp->Prop}{aP:Nat}:∀{rest:List Oper} {ts:List AV} {H:Hp},rest.all (fun o=>!bV E o)=true->dZ E ops rest ts H q->dD E ops rest aP ts H fun ts' H' _=>q ts' H'
 |[],ts,H,_,h=>dD.nil h
 |o::rest,ts,H,hl,h=>by
  simp only[aPa,aMh,aLm]at hl;have tC:rest.all (fun o=>!bV E o)=true:=by simpa using hl.2
  unfold dZ rS at h;by_cases hw:bE ops ts o=true
  ·rw[if_pos hw]at h;unfold IB at h;split at h
   ·rename_i fo args ats h1;obtain⟨d,op,t,p,af,g⟩:=o;simp only at h1;subst h1;split at h
    ·rename_i f first cap al e1 e2
     obtain⟨sR,bs,r,g1,g2,g3⟩:=h;exact dD.VX hw e1 e2 g1 g2 (dZ.o7 tC g3)
    ·exact h.elim
   ·rename_i hnc;have hc:lE o=false:=by
     unfold lE
     split
     ·rename_i c Sq
      split
      ·rename_i f mO;obtain⟨callee,args,ats⟩:=c;simp only at mO;subst mO;exact absurd Sq (hnc f args ats)
      ·rfl
     ·rfl
    split at h
    ·rename_i ts1 e dp;refine dD.step hl.1 ?_ (dZ.o7 tC h);rw[<-oJ hw]at dp;rw[Gt (dr':=false) (nid':=H.length) hl.1 hc];exact dp
    ·exact h.elim
  ·rw[if_neg hw]at h;exact dD.step hl.1 (qN hw) (dZ.o7 tC h)
def Cv.Ai{E:Env}{id:Nat}{ops:Array Oper}{ts:List AV}{H:Hp}{Q:Ex->List AV->Hp->Prop}(hl:ops.toList.all (fun o=>!bV E o)=true)(hp:E.pairs id ops.toList.length=[])
  (h:dZ E ops.toList ops.toList ts H (Q .normal)):Cv E (.region id ops true) ts H Q:=by
 refine Cv.BS ?_ ?_
 ·rw[aPb];intro o ho
  have:=aLq.1 hl o ho
  simpa using this
 ·obtain⟨n,ts',H',l,h1,h2⟩:=dZ.o7 (aP:=H.length) hl h;exact⟨n,ts',H',l,h1,by rw[hp];rfl,h2⟩
section
variable{E:Env}{ops rest:List Oper}{ts:List AV}{H:Hp}{q:List AV->Hp->Prop}{d t:Nat}{p:String}{af:Array Edge}
def alV{f:Nat}{args:Array Operand}{ats:Array Nat}{al:List AV}{r:AV}(ha:km ts args.toList=some al)(hz:aV al=true)(hc:ku E f al r)(h:dZ E ops rest (ts.set d r) H q):
  dZ E ops (⟨some d,.call {callee:=.value (.func f),args:=args,argTypes:=ats},t,p,af,none⟩::rest) ts H q:=by
 rw[Lc];simp only[lu,ha];refine⟨al,[],r,?_,hc,?_⟩
 ·unfold bW;simp[hz]
 ·have:∀(e:cC),e=(if bY r=true then cC.looks []else cC.marks [])->e.app H=H:=by
   intro e he;subst he;split<;>rfl
  rw[this _ rfl];exact h
def Rb{t1:Nat}{ps:Array (Nat×Operand)}{pl:Nat->Option (Nat×Nat)}{z cs:List AV}{vs:List (Nat×AV)}(hp:fA E t1=some pl)(hz:(E.ty t1).bind (·.zero)=some z)(he:sC ts ps.toList=some vs)(hf:fD pl z vs=some cs):
  dZ E ops (⟨some d,.build t1 ps,t,p,af,none⟩::rest) ts H q=dZ E ops rest (ts.set d (.agg cs)) H q:=by
 rw[nC rfl (by intro c h;cases h)];simp only[bU,bE,dH,hp,hz,he,hf,if_true,aLt,bt];rfl
end
def Cj{E:Env}{f:Nat}{fi:FnI}{args:List AV}{G:AV->Prop}(ke:E.ov f args=none)(fB:E.fn f=some fi)(hp:fi.pure=true)
  (h:Cv E fi.code (args++aKF (fi.ntmps-args.length) bS) [] fun ex ts H=>(∀id,ex≠ .exit id)/\∃rs r bs,fL H E ts fi.results=some rs/\bW H [gV rs]=some ([r],bs)/\G r):∃r,ku E f args r/\G r:=by
 obtain⟨n,ex,ts,H,h1,h2,rs,r,bs,h3,h4,h5⟩:=h;refine⟨r,⟨fun fi' h'=>(by rw[fB]at h';cases h';exact hp),n,?_⟩,h5⟩;unfold call jE;simp only[ke,fB,hp,Bool.true_or,Bool.not_true,aK4,if_false,h1];cases ex with
 |exit id=>exact absurd rfl (h2 id)
 |normal=>simp only[h3,h4]
 |ret=>simp only[h3,h4]
def Ji{H:Hp}{v:AV}(h:aU v=true):bW H [v]=some ([v],[]):=by unfold bW;simp[aV,h]
def quiet(o:Oper):Bool:=match o.op with
 |.move _|.assign _|.pick .. |.load .. |.binOp .. |.unOp .. |.fieldAddr .. |.field .. |.indexAddr .. |.extract .. |.build .. =>true
 |.call c=>(match c.callee with|.value _=>true|_=>false)
 |_=>false
def calm:cC->Bool
 |.bJ []|.looks _|.marks _|.Es _=>true
 |_=>false
def wY{E:Env}{ts:List AV}{o:Oper}{e:cC}(h:calm e=true):(bH E ts o e).2=[]:=by
 unfold bH
 split
 ·rfl
 ·cases e with
  |bJ l=>cases l with
   |nil=>rfl
   |cons a l=>cases h
  |_=>rfl
def KE{x:Option AV}{v:AV}{e:cC}(h:(x.map fun x=>(x,cC.bJ []))=some (v,e)):calm e=true:=by
 cases x with
 |none=>cases h
 |some x=>simp only[aLt,aK3.injEq,Prod.mk.injEq]at h;rw[<-h.2];rfl
def Ou{E:Env}{ops:List Oper}{aP:Nat}{o:Oper}{ts ts1:List AV}{H:Hp}{e:cC}(hq:quiet o=true)(hc:lE o=false)(h:bU E KJ vJ vJ false ops aP o ts H=some (ts1,e)):calm e=true:=by
 unfold bU at h;split at h
 ·split at h
  ·rename_i v e' ho;simp only[aK3.injEq,Prod.mk.injEq]at h;obtain⟨_,rfl⟩:=h;obtain⟨d,op,t,p,af,g⟩:=o;cases op<;>simp only[quiet,aK4]at hq<;>simp only[dH]at ho
   all_goals first
    |exact KE ho
    |(repeat' split at ho)<;>first|exact KE ho|(cases ho;done)|skip
   all_goals (simp[lE]at hc)
   all_goals (split at hq<;>simp_all)
  ·cases h
 ·simp only[aK3.injEq,Prod.mk.injEq]at h;rw[<-h.2];rfl
def dD.aqi{E:Env}{ops rest:List Oper}{aP:Nat}{ts:List AV}{H:Hp}{Q:List AV->Hp->List (List Nat×List Nat)->Prop}{d:Option Nat}{t:Nat}{p:String}{af:Array Edge}{g:Option (Nat×Bool)}{fo:Operand}{args:Array Operand}{ats:Array Nat}{f:Nat}{first cap al sR:List AV}{bs:List Nat}{r:AV}
  (hw:bE ops ts ⟨d,.call {callee:=.value fo,args:=args,argTypes:=ats},t,p,af,g⟩=true)
  (hf:bT ts fo=some (.func f first cap)) (ha:km ts args.toList=some al) (hz:bW H (first++al++cap)=some (sR,bs)) (hc:ku E f sR r)
  (h:dD E ops rest aP (bt d r ts) ((if bY r then cC.looks bs else cC.marks bs).app H) fun ts' H' l=>∀x,x.2=[]->Q ts' H' (x::l)):
  dD E ops (⟨d,.call {callee:=.value fo,args:=args,argTypes:=ats},t,p,af,g⟩::rest) aP ts H Q:=by
 obtain⟨n,ts',H',l,k1,k2⟩:=h;obtain⟨hp,m,hm⟩:=hc;have l1:=cY (E:=E) (aND n m);refine⟨max n m,ts',H',bH E ts ⟨d,.call {callee:=.value fo,args:=args,argTypes:=ats},t,p,af,g⟩ (if bY r then cC.looks bs else cC.marks bs)::l,?_,k2 _ (wY (by split<;>rfl))⟩;unfold o7;have h1:jE E (bR E (max n m)) f sR=some r:=lk (aNC n m) _ _ _ hm;rw[show bV E ⟨d,.call {callee:=.value fo,args:=args,argTypes:=ats},t,p,af,g⟩=false from rfl];simp only[Bool.false_and,aK4,if_false];have dp:bU E (jE E (bR E (max n m))) (kQ E (bR E (max n m))) (lI (bR E (max n m))) true ops aP ⟨d,.call {callee:=.value fo,args:=args,argTypes:=ats},t,p,af,g⟩ ts H=some (bt d r ts,if bY r then cC.looks bs else cC.marks bs):=by
  rw[oJ hw];cases fB:E.fn f with
  |none=>simp only[bU,bE,dH,hf,ha,ka,fB,hz,h1,if_true,aLt]
  |some fi=>
   obtain⟨code,ntmps,results,pu,du⟩:=fi
   have:=hp _ fB
   simp only at this;subst this;simp only[bU,bE,dH,hf,ha,ka,fB,hz,h1,if_true,aLt]
 rw[dp];simp only[uH (lH l1) (jV l1) (jW l1) k1]
def QL(rest:List Oper)(l:List (List Nat×List Nat)):Prop:=∀(j:Nat) (o:Oper) (t:List Nat×List Nat),rest[j]?=some o->l[j]?=some t->quiet o=true->t.2=[]
def QL.cons{o:Oper}{rest:List Oper}{x:List Nat×List Nat}{l:List (List Nat×List Nat)}(h:QL rest l)(hx:quiet o=true->x.2=[]):QL (o::rest) (x::l):=by
 intro j o' t h1 h2 hq;cases j with
 |zero=>
  simp only[List.getElem?_cons_zero,aK3.injEq]at h1 h2;subst h1;subst h2
  exact hx hq
 |succ j=>exact h j o' t (by simpa using h1) (by simpa using h2) hq
def dZ.ad9{E:Env}{ops:List Oper}{q:List AV->Hp->Prop}{aP:Nat}:∀{rest:List Oper} {ts:List AV} {H:Hp},rest.all (fun o=>!bV E o)=true->dZ E ops rest ts H q->dD E ops rest aP ts H fun ts' H' l=>q ts' H'/\QL rest l
 |[],ts,H,_,h=>dD.nil ⟨h,by intro j o t h1;simp at h1⟩
 |o::rest,ts,H,hl,h=>by
  simp only[aPa,aMh,aLm]at hl;have tC:rest.all (fun o=>!bV E o)=true:=by simpa using hl.2
  unfold dZ rS at h;by_cases hw:bE ops ts o=true
  ·rw[if_pos hw]at h;unfold IB at h;split at h
   ·rename_i fo args ats h1;obtain⟨d,op,t,p,af,g⟩:=o;simp only at h1;subst h1;split at h
    ·rename_i f first cap al e1 e2
     obtain⟨sR,bs,r,g1,g2,g3⟩:=h;refine dD.aqi hw e1 e2 g1 g2 ?_;obtain⟨n,ts',H',l,k1,k2,k3⟩:=dZ.ad9 (aP:=aP) tC g3;exact⟨n,ts',H',l,k1,fun x hx=>⟨k2,k3.cons fun _=>hx⟩⟩
    ·exact h.elim
   ·rename_i hnc;have hc:lE o=false:=by
     unfold lE
     split
     ·rename_i c Sq
      split
      ·rename_i f mO;obtain⟨callee,args,ats⟩:=c;simp only at mO;subst mO;exact absurd Sq (hnc f args ats)
      ·rfl
     ·rfl
    split at h
    ·rename_i ts1 e dp;rw[<-oJ hw]at dp;have atI:=dp;rw[Gt (dr':=true) (nid':=aP) hl.1 hc]at atI;refine dD.step hl.1 atI ?_;obtain⟨n,ts',H',l,k1,k2,k3⟩:=dZ.ad9 (aP:=aP) tC h;exact⟨n,ts',H',l,k1,k2,k3.cons fun hq=>wY (Ou hq hc dp)⟩
    ·exact h.elim
  ·rw[if_neg hw]at h;refine dD.step hl.1 (qN hw) ?_;obtain⟨n,ts',H',l,k1,k2,k3⟩:=dZ.ad9 (aP:=aP) tC h;exact⟨n,ts',H',l,k1,k2,k3.cons fun _=>wY rfl⟩
def quietAt(ops:List Oper)(i:Nat):Bool:=match ops[i]? with
 |some o=>quiet o
 |none=>false
def Cv.al0{E:Env}{id:Nat}{ops:Array Oper}{ts:List AV}{H:Hp}{Q:Ex->List AV->Hp->Prop}(hl:ops.toList.all (fun o=>!bV E o)=true)(hp:(E.pairs id ops.toList.length).all (fun p=>quietAt ops.toList p.1&&quietAt ops.toList p.2)=true)
  (h:dZ E ops.toList ops.toList ts H (Q .normal)):Cv E (.region id ops true) ts H Q:=by
 refine Cv.BS ?_ ?_
 ·rw[aPb];intro o ho
  have:=aLq.1 hl o ho
  simpa using this
 ·obtain⟨n,ts',H',l,h1,h2,h3⟩:=dZ.ad9 (aP:=H.length) hl h;refine⟨n,ts',H',l,h1,?_,h2⟩;rw[aLq]at hp⊢;intro p hpm
  have:=hp p hpm
  simp only[aMh]at this;unfold rE;have q:∀i x,quietAt ops.toList i=true->l[i]?=some x->x.2=[]:=by
   intro i x hq hx;unfold quietAt at hq;cases ho:ops.toList[i]? with
   |none=>rw[ho]at hq;cases hq
   |some o=>rw[ho]at hq;exact h3 i o x ho hx hq
  cases e1:l[p.1]? with
  |none=>rfl
  |some x=>
   cases e2:l[p.2]? with
   |none=>rfl
   |some y=>
    obtain⟨r1,w1⟩:=x;obtain⟨r2,w2⟩:=y;have a:=q _ _ this.1 e1;have b:=q _ _ this.2 e2;simp only at a b;subst a;subst b
    simp[wk]
end Dv
namespace Dv
open Classical in
def aR(E:Env)(f:Nat)(al:List AV):Option AV:=if h:∃r,ku E f al r then some h.choose else none
open Go Go.RowKit
def ku.uniq{E:Env}{f:Nat}{al:List AV}{r s:AV}(h:ku E f al r)(k:ku E f al s):r=s:=by obtain⟨_,m,hm⟩:=h;obtain⟨_,n,hn⟩:=k;have a:=lk (E:=E) (aND m n) _ _ _ hm;have b:=lk (E:=E) (aNC m n) _ _ _ hn;rw[a]at b;exact aK3.inj b
def dB{E:Env}{f:Nat}{al:List AV}{r:AV}(h:ku E f al r):aR E f al=some r:=by have hx:∃r,ku E f al r:=⟨r,h⟩;unfold aR;rw[dif_pos hx,hx.choose_spec.uniq h]
def wu{E:Env}{f:Nat}{al:List AV}{r:AV}(h:aR E f al=some r):ku E f al r:=by
 unfold aR at h;split at h
 ·rename_i hx
  have:=aK3.inj h
  exact this▸hx.choose_spec
 ·cases h
def Em(x:Option (AV×cC))(k:AV->cC->Prop):Prop:=match x with
 |some (v,e)=>k v e
 |none=>False
def zp{v:AV}{e:cC}{k:AV->cC->Prop}:Em (some (v,e)) k=k v e:=rfl
@[congr] theorem ahx {a b:Option (AV×cC)} {k:AV->cC->Prop} (h:a=b):Em a k=Em b k:=by rw[h]
def nL(x:Option (List AV))(k:List AV->Prop):Prop:=match x with
 |some l=>k l
 |none=>False
def bP{l:List AV}{k:List AV->Prop}:nL (some l) k=k l:=rfl
@[congr] theorem ahu {a b:Option (List AV)} {k:List AV->Prop} (h:a=b):nL a k=nL b k:=by rw[h]
def zq(x:Option (List (Nat×AV)))(k:List (Nat×AV)->Prop):Prop:=match x with
 |some l=>k l
 |none=>False
def fM{l:List (Nat×AV)}{k:List (Nat×AV)->Prop}:zq (some l) k=k l:=rfl
@[congr] theorem ahF {a b:Option (List (Nat×AV))} {k:List (Nat×AV)->Prop} (h:a=b):zq a k=zq b k:=by rw[h]
def xE(x:Option (List AV×List Nat))(k:List AV->List Nat->Prop):Prop:=match x with
 |some (v,e)=>k v e
 |none=>False
def dd{v:List AV}{e:List Nat}{k:List AV->List Nat->Prop}:xE (some (v,e)) k=k v e:=rfl
@[congr] theorem ahy {a b:Option (List AV×List Nat)} {k:List AV->List Nat->Prop} (h:a=b):xE a k=xE b k:=by rw[h]
def Rz(fv:AV)(al:List AV)(k:Nat->List AV->Prop):Prop:=match fv with
 |.func f first cap=>k f (first++al++cap)
 |_=>False
def k9{f:Nat}{al:List AV}{k:Nat->List AV->Prop}:Rz (.func f [] []) al k=k f al:=by simp[Rz]
def RA{f:Nat}{a c al:List AV}{k:Nat->List AV->Prop}:Rz (.func f a c) al k=k f (a++al++c):=rfl
@[congr] theorem ahw {a b:AV} {al bl:List AV} {k:Nat->List AV->Prop} (h:a=b) (h2:al=bl):Rz a al k=Rz b bl k:=by rw[h,h2]
def PJ(x:Option AV)(l:Option (List AV)):Option (List AV):=match x,l with
 |some v,some vs=>some (v::vs)
 |_,_=>none
def cB{v:AV}{l:List AV}:PJ (some v) (some l)=some (v::l):=rfl
def gA{ts:List AV}{x:Operand}{xs:List Operand}:km ts (x::xs)=PJ (bT ts x) (km ts xs):=by
 rw[km];cases bT ts x<;>cases km ts xs<;>rfl
def afV(i:Nat)(x:Option AV)(l:Option (List (Nat×AV))):Option (List (Nat×AV)):=match x,l with
 |some v,some vs=>some ((i,v)::vs)
 |_,_=>none
def kM{i:Nat}{v:AV}{l:List (Nat×AV)}:afV i (some v) (some l)=some ((i,v)::l):=rfl
def CC{ts:List AV}:sC ts []=some []:=rfl
def CB{ts:List AV}{i:Nat}{x:Operand}{xs:List (Nat×Operand)}:sC ts ((i,x)::xs)=afV i (bT ts x) (sC ts xs):=by
 rw[sC];cases bT ts x<;>cases sC ts xs<;>rfl
def vX(c a b:Option AV):Option AV:=match c with
 |some (.bool t)=>if t then a else b
 |_=>none
def Q8{a b:Option AV}:vX (some (.bool true)) a b=a:=rfl
def Q7{a b:Option AV}:vX (some (.bool false)) a b=b:=rfl
def eN(E:Env)(t:Nat)(vs:List (Nat×AV)):Option AV:=match fA E t,(E.ty t).bind (·.zero)with
 |some pl,some z=>(fD pl z vs).map .agg
 |_,_=>none
def qR(b:Bool)(H:Hp)(al:List AV):Option (List AV×List Nat):=if b then some (al,[])else bW H al
def fF{H:Hp}{al:List AV}:bW H al=qR (aV al) H al:=by
 unfold qR;cases h:aV al
 ·rfl
 ·rw[bW,h];rfl
def mE{H:Hp}{al:List AV}:qR true H al=some (al,[]):=rfl
section
variable{E:Env}{ops rest:List Oper}{ts:List AV}{H:Hp}{q:List AV->Hp->Prop}{d:Option Nat}{t:Nat}{p:String}{af:Array Edge}
def nJ{o:Oper}(hg:o.guard=none)(hc:∀c,o.op=.call c->∀f,c.callee≠ .value f):dZ E ops (o::rest) ts H q=Em (dH E KJ vJ vJ false ts H H.length o) fun v e=>dZ E ops rest (bt o.dst v ts) (e.app H) q:=by
 rw[nC hg hc];unfold bU;rw[if_pos (show bE ops ts o=true by unfold bE;rw[hg])];cases dH E KJ vJ vJ false ts H H.length o with
 |none=>rfl
 |some x=>rfl
def nN{H:Hp}:(cC.bJ []).app H=H:=rfl
def ur{H:Hp}{l:List Nat}:(cC.looks l).app H=H:=rfl
def sU{H:Hp}{b:Bool}:(if b=true then cC.looks []else cC.marks []).app H=H:=by cases b<;>rfl
def U5{H:Hp}{x:ct}:(cC.bJ [(H.length,x)]).app H=H++[x]:=by
 show cJ H H.length x=_
 unfold cJ;rw[if_neg (by omega)]
def eO{x:Operand}:dZ E ops (⟨d,.move x,t,p,af,none⟩::rest) ts H q=b8 (bT ts x) fun v=>dZ E ops rest (bt d v ts) H q:=by
 rw[nJ rfl (by intro c h;cases h)];show Em ((bT ts x).map _) _=_
 cases bT ts x<;>rfl
def cT{x:Operand}:dZ E ops (⟨d,.assign x,t,p,af,none⟩::rest) ts H q=b8 (bT ts x) fun v=>dZ E ops rest (bt d v ts) H q:=by
 rw[nJ rfl (by intro c h;cases h)];show Em ((bT ts x).map _) _=_
 cases bT ts x<;>rfl
def W5{c a b:Operand}:dZ E ops (⟨d,.pick c a b,t,p,af,none⟩::rest) ts H q=b8 (vX (bT ts c) (bT ts a) (bT ts b)) fun v=>dZ E ops rest (bt d v ts) H q:=by
 rw[nJ rfl (by intro c h;cases h)];simp only[dH,vX];cases hc:bT ts c with
 |none=>rfl
 |some v=>
  cases v<;>try rfl
  rename_i z;cases z
  ·simp only[aK4,if_false];cases bT ts b<;>rfl
  ·simp only[if_true];cases bT ts a<;>rfl
def mA{t1:Nat}:dZ E ops (⟨d,.alloc t1,t,p,af,none⟩::rest) ts H q=b8 (eo E t1) fun z=>dZ E ops rest (bt d (.bI H.length 0) ts) (H++[.cells .live z.cells]) q:=by
 rw[nJ rfl (by intro c h;cases h)];simp only[dH];cases eo E t1 with
 |none=>rfl
 |some z=>simp only[aLt,zp,aS,U5]
def AE{t1:Nat}{x:Operand}:dZ E ops (⟨d,.box t1 x,t,p,af,none⟩::rest) ts H q=b8 (bT ts x) fun z=>dZ E ops rest (bt d (.bI H.length 0) ts) (H++[.cells .live z.cells]) q:=by
 rw[nJ rfl (by intro c h;cases h)];simp only[dH];cases bT ts x with
 |none=>rfl
 |some z=>simp only[aLt,zp,aS,U5]
def fT{t1:Nat}{x:Operand}:dZ E ops (⟨d,.load t1 x,t,p,af,none⟩::rest) ts H q=b8 (bT ts x) fun a=>b8 (dW E H t1 a) fun v=>dZ E ops rest (bt d v ts) H q:=by
 rw[nJ rfl (by intro c h;cases h)];simp only[dH];cases bT ts x with
 |none=>rfl
 |some a=>simp only[aS];cases dW E H t1 a<;>rfl
def eR{t1:Nat}{x y:Operand}:dZ E ops (⟨none,.store t1 x y,t,p,af,none⟩::rest) ts H q=b8 (bT ts x) fun a=>b8 (bT ts y) fun v=>A9 (fe E H t1 a v) fun l=>dZ E ops rest ts ((cC.bJ l).app H) q:=by
 rw[nJ rfl (by intro c h;cases h)];simp only[dH];cases bT ts x with
 |none=>rfl
 |some a=>
  cases bT ts y with
  |none=>rfl
  |some v=>simp only[aS];cases fe E H t1 a v<;>rfl
def fP{op:BinOp}{t1 t2:Nat}{x y:Operand}:dZ E ops (⟨d,.binOp op t1 x y t2,t,p,af,none⟩::rest) ts H q=b8 (bT ts x) fun a=>b8 (bT ts y) fun b=>b8 (cd E (bC x||bC y) op t1 a b) fun v=>dZ E ops rest (bt d v ts) H q:=by
 rw[nJ rfl (by intro c h;cases h)];simp only[dH];cases bT ts x with
 |none=>rfl
 |some a=>
  cases bT ts y with
  |none=>rfl
  |some b=>simp only[aS];cases cd E (bC x||bC y) op t1 a b<;>rfl
def R9{op:UnOp}{t1:Nat}{x:Operand}:dZ E ops (⟨d,.unOp op t1 x,t,p,af,none⟩::rest) ts H q=b8 (bT ts x) fun a=>b8 (TQ op a) fun v=>dZ E ops rest (bt d v ts) H q:=by
 rw[nJ rfl (by intro c h;cases h)];simp only[dH];cases bT ts x with
 |none=>rfl
 |some a=>simp only[aS];cases TQ op a<;>rfl
def CS{t1 f:Nat}{x:Operand}:dZ E ops (⟨d,.fieldAddr t1 x f,t,p,af,none⟩::rest) ts H q=b8 (bT ts x) fun a=>b8 (cP E t1 a f) fun v=>dZ E ops rest (bt d v ts) H q:=by
 rw[nJ rfl (by intro c h;cases h)];simp only[dH];cases bT ts x with
 |none=>rfl
 |some a=>simp only[aS];cases cP E t1 a f<;>rfl
def tw{t1:Nat}{x y:Operand}:dZ E ops (⟨d,.indexAddr t1 x y,t,p,af,none⟩::rest) ts H q=b8 (bT ts x) fun a=>b8 (bT ts y) fun b=>b8 (b9 E t1 a b) fun v=>dZ E ops rest (bt d v ts) H q:=by
 rw[nJ rfl (by intro c h;cases h)];simp only[dH];cases bT ts x with
 |none=>rfl
 |some a=>
  cases bT ts y with
  |none=>rfl
  |some b=>simp only[aS];cases b9 E t1 a b<;>rfl
def nth(v:AV)(i:Nat):Option AV:=match v with
 |.tuple vs=>vs[i]?
 |_=>none
def S7{vs:List AV}{i:Nat}:nth (.tuple vs) i=vs[i]?:=rfl
def P9{t1:Nat}{ps:Array (Nat×Operand)}:dZ E ops (⟨d,.build t1 ps,t,p,af,none⟩::rest) ts H q=zq (sC ts ps.toList) fun vs=>b8 (eN E t1 vs) fun v=>dZ E ops rest (bt d v ts) H q:=by
 rw[nJ rfl (by intro c h;cases h)];simp only[dH,eN];cases sC ts ps.toList with
 |none=>cases fA E t1<;>cases (E.ty t1).bind (·.zero)<;>rfl
 |some vs=>
  cases fA E t1 with
  |none=>rfl
  |some pl=>
   cases (E.ty t1).bind (·.zero)with
   |none=>rfl
   |some z=>simp only[fM];cases fD pl z vs<;>rfl
def mM{t1:Nat}{x y:Operand}:dZ E ops (⟨d,.makeSlice t1 x y,t,p,af,none⟩::rest) ts H q=b8 (bT ts x) fun a=>b8 (bT ts y) fun b=>qU (fp E H.length t1 a b) fun r=>dZ E ops rest (bt d r.1 ts) ((cC.bJ r.2).app H) q:=by
 rw[nJ rfl (by intro c h;cases h)];simp only[dH];cases bT ts x with
 |none=>rfl
 |some a=>
  cases bT ts y with
  |none=>rfl
  |some b=>simp only[aS];cases fp E H.length t1 a b<;>rfl
def dP{bi:Builtin}{args:Array Operand}{ats:Array Nat}:dZ E ops (⟨d,.call {callee:=.builtin bi,args:=args,argTypes:=ats},t,p,af,none⟩::rest) ts H q=
  nL (km ts args.toList) fun al=>qU (bB E H H.length bi ats.toList al) fun r=>dZ E ops rest (bt d r.1 ts) ((cC.bJ r.2).app H) q:=by
 rw[nJ rfl (by intro c h f hf;cases h;cases hf)];simp only[dH];cases km ts args.toList with
 |none=>rfl
 |some al=>simp only[bP];cases bB E H H.length bi ats.toList al<;>rfl
def ou{x:Operand}{args:Array Operand}{ats:Array Nat}:dZ E ops (⟨d,.call {callee:=.value x,args:=args,argTypes:=ats},t,p,af,none⟩::rest) ts H q=
  b8 (bT ts x) fun fv=>nL (km ts args.toList) fun al=>Rz fv al fun f bl=>xE (bW H bl) fun cl bs=>b8 (aR E f cl) fun r=>dZ E ops rest (bt d r ts) ((if bY r=true then cC.looks bs else cC.marks bs).app H) q:=by
 rw[Lc];cases bT ts x with
 |none=>rfl
 |some fv=>
  cases km ts args.toList with
  |none=>cases fv<;>rfl
  |some al=>
   cases fv<;>try rfl
   rename_i f a c;simp only[aS,bP,RA];apply propext;constructor
   ·rintro⟨sR,bs,r,h1,h2,h3⟩;rw[h1,dd,dB h2,aS];exact h3
   ·intro h;cases hz:bW H (a++al++c)with
    |none=>rw[hz]at h;exact h.elim
    |some y=>
     obtain⟨cl,bs⟩:=y;rw[hz,dd]at h;cases hr:aR E f cl with
     |none=>rw[hr]at h;exact h.elim
     |some r=>rw[hr,aS]at h;exact⟨cl,bs,r,rfl,wu hr,h⟩
end
def sN(k:List AV->Hp->Prop)(Q:Ex->List AV->Hp->Prop)(ex:Ex)(ts:List AV)(H:Hp):Prop:=match ex with
 |.normal=>k ts H
 |e=>Q e ts H
def lS(id:Nat)(Q:Ex->List AV->Hp->Prop)(ex:Ex)(ts:List AV)(H:Hp):Prop:=match ex with
 |.exit j=>if j=id then Q .normal ts H else Q (.exit j) ts H
 |e=>Q e ts H
def xy(v:AV)(a b:Prop):Prop:=match v with
 |.bool t=>if t=true then a else b
 |_=>False
def dE{t:Bool}{a b:Prop}:xy (.bool t) a b=if t=true then a else b:=rfl
@[congr] theorem afu {u v:AV} {a b:Prop} (h:u=v):xy u a b=xy v a b:=by rw[h]
def Bz(E:Env)(id:Nat)(ops:List Oper):Prop:=ops.all (fun o=>!bV E o)=true/\(E.pairs id ops.length).all (fun p=>quietAt ops p.1&&quietAt ops p.2)=true
@[congr] theorem aaH {E:Env} {id:Nat} {ops:List Oper}:Bz E id ops=Bz E id ops:=rfl
def W(E:Env):Code->List AV->Hp->(Ex->List AV->Hp->Prop)->Prop
 |.skip,ts,H,Q=>Q .normal ts H
 |.exit id,ts,H,Q=>Q (.exit id) ts H
 |.ret,ts,H,Q=>Q .ret ts H
 |.seq a b,ts,H,Q=>W E a ts H (sN (fun ts H=>W E b ts H Q) Q)
 |.block id a,ts,H,Q=>W E a ts H (lS id Q)
 |.cond c a b,ts,H,Q=>b8 (bT ts c) fun v=>xy v (W E a ts H Q) (W E b ts H Q)
 |.region id ops false,ts,H,Q=>dZ E ops.toList ops.toList ts H (Q .normal)
 |.region id ops true,ts,H,Q=>Bz E id ops.toList/\dZ E ops.toList ops.toList ts H (Q .normal)
 |c,ts,H,Q=>Cv E c ts H Q
def W.cv{E:Env}:∀{c:Code} {ts:List AV} {H:Hp} {Q:Ex->List AV->Hp->Prop},W E c ts H Q->Cv E c ts H Q
 |.skip,_,_,_,h=>Cv.skip h
 |.exit _,_,_,_,h=>Cv.exit h
 |.ret,_,_,_,h=>Cv.ret h
 |.seq a b,ts,H,Q,h=>by
  refine Cv.seq ?_
  have:=W.cv (c:=a) h
  refine this.mono ?_;intro ex ts' H' k;cases ex with
  |normal=>exact W.cv (c:=b) k
  |ret=>exact k
  |exit id=>exact k
 |.block id a,ts,H,Q,h=>by
  refine Cv.block ?_;refine(W.cv (c:=a) h).mono ?_;intro ex ts' H' k;cases ex<;>exact k
 |.cond c a b,ts,H,Q,h=>by
  unfold W at h;cases hc:bT ts c with
  |none=>rw[hc]at h;exact h.elim
  |some v=>
   rw[hc,aS]at h;cases v<;>try exact h.elim
   rename_i z;refine Cv.cond hc ?_;rw[dE]at h;cases z
   ·simp only[aK4,if_false]at h⊢;exact W.cv h
   ·simp only[if_true]at h⊢;exact W.cv h
 |.region id ops false,_,_,_,h=>Cv.run h
 |.region id ops true,_,_,_,h=>Cv.al0 h.1.1 h.1.2 h.2
 |.loop _,_,_,_,h=>h
 |.label _,_,_,_,h=>h
 |.scope _,_,_,_,h=>h
 |.rangeFunc ..,_,_,_,h=>h
 |.goto _,_,_,_,h=>h
 |.refuse _,_,_,_,h=>h
section
variable{E:Env}{ts:List AV}{H:Hp}{Q:Ex->List AV->Hp->Prop}
def eY:W E .skip ts H Q=Q .normal ts H:=rfl
def jH{id:Nat}:W E (.exit id) ts H Q=Q (.exit id) ts H:=rfl
def nG:W E .ret ts H Q=Q .ret ts H:=rfl
def ft{a b:Code}:W E (.seq a b) ts H Q=W E a ts H (sN (fun ts H=>W E b ts H Q) Q):=rfl
def er{id:Nat}{a:Code}:W E (.block id a) ts H Q=W E a ts H (lS id Q):=rfl
def eX{c:Operand}{a b:Code}:W E (.cond c a b) ts H Q=b8 (bT ts c) fun v=>xy v (W E a ts H Q) (W E b ts H Q):=rfl
def cO{id:Nat}{ops:Array Oper}:W E (.region id ops false) ts H Q=dZ E ops.toList ops.toList ts H (Q .normal):=rfl
def zt{id:Nat}{ops:Array Oper}:W E (.region id ops true) ts H Q=(Bz E id ops.toList/\dZ E ops.toList ops.toList ts H (Q .normal)):=rfl
def sP{b:Code}:W E (.loop b) ts H Q=Cv E (.loop b) ts H Q:=rfl
@[congr] theorem awb {c:Code} {ts ts':List AV} {H H':Hp} (h1:ts=ts') (h2:H=H'):W E c ts H Q=W E c ts' H' Q:=by rw[h1,h2]
@[congr] theorem ahG {k:List AV->Hp->Prop} {ex ex':Ex} {ts ts':List AV} {H H':Hp} (h:ex=ex') (h1:ts=ts') (h2:H=H'):sN k Q ex ts H=sN k Q ex' ts' H':=by rw[h,h1,h2]
@[congr] theorem aa1 {id:Nat} {ex ex':Ex} {ts ts':List AV} {H H':Hp} (h:ex=ex') (h1:ts=ts') (h2:H=H'):lS id Q ex ts H=lS id Q ex' ts' H':=by rw[h,h1,h2]
def ec{k:List AV->Hp->Prop}:sN k Q .normal ts H=k ts H:=rfl
def B4{k:List AV->Hp->Prop}:sN k Q .ret ts H=Q .ret ts H:=rfl
def jF{k:List AV->Hp->Prop}{id:Nat}:sN k Q (.exit id) ts H=Q (.exit id) ts H:=rfl
def fj{id:Nat}:lS id Q .normal ts H=Q .normal ts H:=rfl
def sI{id:Nat}:lS id Q .ret ts H=Q .ret ts H:=rfl
def fC{id j:Nat}:lS id Q (.exit j) ts H=if j=id then Q .normal ts H else Q (.exit j) ts H:=rfl
end
def lU(E:Env)(results:List ResultVar)(G:AV->Prop)(ex:Ex)(ts:List AV)(H:Hp):Prop:=match ex with
 |.exit _=>False
 |_=>nL (fL H E ts results) fun rs=>xE (bW H [gV rs]) fun rl bs=>∃r,rl=[r]/\G r
def jf{E:Env}{results:List ResultVar}{G:AV->Prop}{ts:List AV}{H:Hp}:lU E results G .ret ts H=nL (fL H E ts results) fun rs=>xE (bW H [gV rs]) fun rl bs=>∃r,rl=[r]/\G r:=rfl
def UN{E:Env}{results:List ResultVar}{G:AV->Prop}{ts:List AV}{H:Hp}:lU E results G .normal ts H=nL (fL H E ts results) fun rs=>xE (bW H [gV rs]) fun rl bs=>∃r,rl=[r]/\G r:=rfl
def jx{G:AV->Prop}{v:AV}:(∃r,[v]=[r]/\G r)=G v:=by
 apply propext;constructor
 ·rintro⟨r,h,g⟩;cases h;exact g
 ·intro g;exact⟨v,rfl,g⟩
@[congr] theorem ahs {E:Env} {results:List ResultVar} {G:AV->Prop} {ex:Ex} {ts ts':List AV} {H H':Hp} (h1:ts=ts') (h2:H=H'):lU E results G ex ts H=lU E results G ex ts' H':=by rw[h1,h2]
def gJ{E:Env}{ts:List AV}{H:Hp}:fL H E ts []=some []:=rfl
def rJ{E:Env}{ts:List AV}{H:Hp}{i:Nat}{rs:List ResultVar}:fL H E ts (.tmp i::rs)=PJ (some (gt ts i)) (fL H E ts rs):=by
 rw[fL];cases fL H E ts rs<;>rfl
def jM{E:Env}{ts:List AV}{H:Hp}{a t:Nat}{rs:List ResultVar}:fL H E ts (.cell a t::rs)=PJ (dW E H t (gt ts a)) (fL H E ts rs):=by
 rw[fL];show(match dW E H t (gt ts a),fL H E ts rs with|some v,some vs=>some (v::vs)|_,_=>none)=_
 cases dW E H t (gt ts a)<;>cases fL H E ts rs<;>rfl
def tL{v:AV}:gV [v]=v:=rfl
def auU{u v:AV}:gV [u,v]=.tuple [u,v]:=rfl
def auV{u v w:AV}:gV [u,v,w]=.tuple [u,v,w]:=rfl
def WR{E:Env}{f:Nat}{code:Code}{nt:Nat}{results:List ResultVar}{pu du:Bool}{args:List AV}{G:AV->Prop}(ke:E.ov f args=none)(fB:E.fn f=some {code:=code,ntmps:=nt,results:=results,pure:=pu,eE:=du})(hp:pu=true)
  (h:W E code (args++aKF (nt-args.length) bS) [] (lU E results G)):∃r,aR E f args=some r/\G r:=by
 have:∃r,ku E f args r/\G r:=by
  refine Cj ke fB hp ((W.cv h).mono ?_);intro ex ts H k;cases ex with
  |exit id=>exact k.elim
  |normal=>
   rw[UN]at k;refine⟨fun id h=>(by cases h),?_⟩;show∃rs r bs,fL H E ts results=some rs/\_
   cases h1:fL H E ts results with
   |none=>rw[h1]at k;exact k.elim
   |some rs=>
    rw[h1,bP]at k;cases h2:bW H [gV rs]with
    |none=>rw[h2]at k;exact k.elim
    |some y=>
     obtain⟨rl,bs⟩:=y;rw[h2,dd]at k;obtain⟨r,rfl,g⟩:=k;exact⟨rs,r,bs,rfl,h2,g⟩
  |ret=>
   rw[jf]at k;refine⟨fun id h=>(by cases h),?_⟩;show∃rs r bs,fL H E ts results=some rs/\_
   cases h1:fL H E ts results with
   |none=>rw[h1]at k;exact k.elim
   |some rs=>
    rw[h1,bP]at k;cases h2:bW H [gV rs]with
    |none=>rw[h2]at k;exact k.elim
    |some y=>
     obtain⟨rl,bs⟩:=y;rw[h2,dd]at k;obtain⟨r,rfl,g⟩:=k;exact⟨rs,r,bs,rfl,h2,g⟩
 obtain⟨r,h1,h2⟩:=this;exact⟨r,dB h1,h2⟩
def fn1{E:Env}{f:Nat}{code:Code}{nt:Nat}{results:List ResultVar}{pu du:Bool}{a:AV}{G:AV->Prop}(ke:E.ov f [a]=none)(fB:E.fn f=some {code:=code,ntmps:=nt,results:=results,pure:=pu,eE:=du})(hp:pu=true)(hn:1<=nt)
  (h:∀ts:List AV,ts.length=nt->gt ts 0=a->W E code ts [] (lU E results G)):∃r,aR E f [a]=some r/\G r:=
 WR ke fB hp (h _ (by simp;omega) rfl)
def fn2{E:Env}{f:Nat}{code:Code}{nt:Nat}{results:List ResultVar}{pu du:Bool}{a b:AV}{G:AV->Prop}(ke:E.ov f [a,b]=none)(fB:E.fn f=some {code:=code,ntmps:=nt,results:=results,pure:=pu,eE:=du})(hp:pu=true)(hn:2<=nt)
  (h:∀ts:List AV,ts.length=nt->gt ts 0=a->gt ts 1=b->W E code ts [] (lU E results G)):∃r,aR E f [a,b]=some r/\G r:=
 WR ke fB hp (h _ (by simp;omega) rfl rfl)
def fn3{E:Env}{f:Nat}{code:Code}{nt:Nat}{results:List ResultVar}{pu du:Bool}{a b c:AV}{G:AV->Prop}(ke:E.ov f [a,b,c]=none)(fB:E.fn f=some {code:=code,ntmps:=nt,results:=results,pure:=pu,eE:=du})(hp:pu=true)(hn:3<=nt)
  (h:∀ts:List AV,ts.length=nt->gt ts 0=a->gt ts 1=b->gt ts 2=c->W E code ts [] (lU E results G)):∃r,aR E f [a,b,c]=some r/\G r:=
 WR ke fB hp (h _ (by simp;omega) rfl rfl rfl)
end Dv
namespace Dv
open Go Go.RowKit
def Aq(E:Env)(f:Nat)(al:List AV)(H:Hp)(r:AV)(H':Hp):Prop:=∃n,kQ E (bR E n) f al H=some (r,H')
def Aq.uniq{E:Env}{f:Nat}{al:List AV}{H:Hp}{r s:AV}{H1 H2:Hp}(h:Aq E f al H r H1)(k:Aq E f al H s H2):r=s/\H1=H2:=by
 obtain⟨m,hm⟩:=h;obtain⟨n,hn⟩:=k;have a:=jV (cY (E:=E) (aND m n)) _ _ _ _ hm;have b:=jV (cY (E:=E) (aNC m n)) _ _ _ _ hn;rw[a]at b;simpa using b
open Classical in
def cR(E:Env)(f:Nat)(al:List AV)(H:Hp):Option (AV×Hp):=if h:∃x:AV×Hp,Aq E f al H x.1 x.2 then some h.choose else none
def zB{E:Env}{f:Nat}{al:List AV}{H H':Hp}{r:AV}(h:Aq E f al H r H'):cR E f al H=some (r,H'):=by
 have hx:∃x:AV×Hp,Aq E f al H x.1 x.2:=⟨(r,H'),h⟩;unfold cR;rw[dif_pos hx]
 have:=hx.choose_spec.uniq h
 rw[<-this.1,<-this.2]
def Md{E:Env}{f:Nat}{al:List AV}{H H':Hp}{r:AV}(h:cR E f al H=some (r,H')):Aq E f al H r H':=by
 unfold cR at h;split at h
 ·rename_i hx
  have:=aK3.inj h
  have hs:=hx.choose_spec;rw[this]at hs;exact hs
 ·cases h
def xw(E:Env)(f:Nat)(al:List AV)(r:AV):Prop:=∃m,call E m f al=some r
def xw.uniq{E:Env}{f:Nat}{al:List AV}{r s:AV}(h:xw E f al r)(k:xw E f al s):r=s:=by obtain⟨m,hm⟩:=h;obtain⟨n,hn⟩:=k;have a:=lk (E:=E) (aND m n) _ _ _ hm;have b:=lk (E:=E) (aNC m n) _ _ _ hn;rw[a]at b;exact aK3.inj b
open Classical in
def zC(E:Env)(f:Nat)(al:List AV):Option AV:=if h:∃r,xw E f al r then some h.choose else none
def RU{E:Env}{f:Nat}{al:List AV}{r:AV}(h:xw E f al r):zC E f al=some r:=by have hx:∃r,xw E f al r:=⟨r,h⟩;unfold zC;rw[dif_pos hx,hx.choose_spec.uniq h]
def Me{E:Env}{f:Nat}{al:List AV}{r:AV}(h:zC E f al=some r):xw E f al r:=by
 unfold zC at h;split at h
 ·rename_i hx
  have:=aK3.inj h
  exact this▸hx.choose_spec
 ·cases h
def bF(E:Env)(f:Nat):Bool:=match E.fn f with
 |some {pure:=false,..}=>true
 |_=>false
def Ft(E:Env)(f:Nat):Bool:=match E.fn f with
 |some {eE:=d,..}=>d
 |_=>false
def xx(E:Env)(l:Nat)(al:List AV)(H:Hp)(r:AV)(H':Hp):Prop:=∃n,lI (bR E n) l al H=some (r,H')
def xx.uniq{E:Env}{l:Nat}{al:List AV}{H:Hp}{r s:AV}{H1 H2:Hp}(h:xx E l al H r H1)(k:xx E l al H s H2):r=s/\H1=H2:=by
 obtain⟨m,hm⟩:=h;obtain⟨n,hn⟩:=k;have a:=jW (cY (E:=E) (aND m n)) _ _ _ _ hm;have b:=jW (cY (E:=E) (aNC m n)) _ _ _ _ hn;rw[a]at b;simpa using b
open Classical in
def nE(E:Env)(l:Nat)(al:List AV)(H:Hp):Option (AV×Hp):=if h:∃x:AV×Hp,xx E l al H x.1 x.2 then some h.choose else none
def vt{E:Env}{l:Nat}{al:List AV}{H H':Hp}{r:AV}(h:xx E l al H r H'):nE E l al H=some (r,H'):=by
 have hx:∃x:AV×Hp,xx E l al H x.1 x.2:=⟨(r,H'),h⟩;unfold nE;rw[dif_pos hx]
 have:=hx.choose_spec.uniq h
 rw[<-this.1,<-this.2]
def Mf{E:Env}{l:Nat}{al:List AV}{H H':Hp}{r:AV}(h:nE E l al H=some (r,H')):xx E l al H r H':=by
 unfold nE at h;split at h
 ·rename_i hx
  have:=aK3.inj h
  have hs:=hx.choose_spec;rw[this]at hs;exact hs
 ·cases h
abbrev UR:=List Nat×List Nat
def Iy(E:Env)(dr st:Bool)(f:Nat)(bl:List AV)(H:Hp)(k:AV->cC->Prop):Prop:=
 if bF E f=true then
  (if(Ft E f&&(dr&&st))=true then∃sR bs r,bW H bl=some (sR,bs)/\xw E f sR r/\k r (if bY r then cC.looks bs else cC.marks bs)
   else∃r H',Aq E f bl H r H'/\((dr&&st)=true->r9 H H'=true)/\k r (.Es H'))
 else∃sR bs r,bW H bl=some (sR,bs)/\ku E f sR r/\k r (if bY r then cC.looks bs else cC.marks bs)
def cW(E:Env)(dr:Bool)(o:Oper)(aP:Nat)(ts:List AV)(H:Hp)(k:AV->cC->Prop):Prop:=
 match o.op with
 |.call {callee:=.value fo,args:=args,..}=>match bT ts fo,km ts args.toList with
  |some (.func f first cap),some al=>Iy E dr (mP fo) f (first++al++cap) H k
  |some (.yield l),some al=>∃r H',xx E l al H r H'/\k r (.Es H')
  |_,_=>False
 |_=>Em (dH E KJ vJ vJ false ts H aP o) k
def abU{E:Env}{dr st:Bool}{f:Nat}{first cap args:List AV}{H:Hp}{k:AV->cC->Prop}(h:Iy E dr st f (first++args++cap) H k):
  ∃n v e,(∀m,n<=m->ka E (jE E (bR E m)) (kQ E (bR E m)) (lI (bR E m)) (dr&&st) H (.func f first cap) args=some (v,e))/\k v e:=by
 unfold Iy at h;by_cases hi:bF E f=true
 ·rw[if_pos hi]at h;unfold bF at hi;have lQ:∃fi,E.fn f=some fi/\fi.pure=false:=by
   split at hi
   ·rename_i heq;exact⟨_,heq,rfl⟩
   ·cases hi
  obtain⟨fi,lQ,Sr⟩:=lQ;obtain⟨code,ntmps,results,pu,du⟩:=fi;simp only at Sr;subst Sr;have asN:Ft E f=du:=by unfold Ft;rw[lQ]
  rw[asN]at h;by_cases hd:(du&&(dr&&st))=true
  ·rw[if_pos hd]at h;obtain⟨sR,bs,r,h1,⟨n,h2⟩,h3⟩:=h;refine⟨n,r,_,fun m hm=>?_,h3⟩;have h2':jE E (bR E m) f sR=some r:=lk hm _ _ _ h2;unfold ka;simp only[lQ,hd,if_true,h1,h2',aLt]
  ·rw[if_neg hd]at h;obtain⟨r,H',⟨n,h1⟩,hk,h2⟩:=h;refine⟨n,r,_,fun m hm=>?_,h2⟩;have h1':=jV (cY (E:=E) hm) _ _ _ _ h1;unfold ka
   have:(du&&(dr&&st))=false:=by simpa using hd
   have Xo:((dr&&st)&&!r9 H H')=false:=by
    cases hds:(dr&&st)with
    |false=>rfl
    |true=>rw[hk hds];rfl
   simp only[lQ,this,aK4,if_false,h1',Xo]
 ·rw[if_neg hi]at h;obtain⟨sR,bs,r,h1,⟨hp,n,h2⟩,h3⟩:=h;refine⟨n,r,_,fun m hm=>?_,h3⟩;have h2':jE E (bR E m) f sR=some r:=lk hm _ _ _ h2;unfold ka;cases fB:E.fn f with
  |none=>simp only[fB,if_true,h1,h2',aLt]
  |some fi=>
   obtain⟨code,ntmps,results,pu,du⟩:=fi
   have:=hp _ fB
   simp only at this;subst this;simp only[fB,if_true,h1,h2',aLt]
def Lp{E:Env}{dr:Bool}{ops:List Oper}{o:Oper}{aP:Nat}{ts:List AV}{H:Hp}{k:AV->cC->Prop}(hw:bE ops ts o=true)(h:cW E dr o aP ts H k):
  ∃n v e,(∀m,n<=m->bU E (jE E (bR E m)) (kQ E (bR E m)) (lI (bR E m)) dr ops aP o ts H=some (bt o.dst v ts,e))/\k v e:=by
 unfold cW at h;split at h
 ·rename_i fo args ats h1;obtain⟨d,op,t,p,af,g⟩:=o;simp only at h1;subst h1;split at h
  ·rename_i f first cap al e1 e2
   obtain⟨n,v,e,h2,h3⟩:=abU h;refine⟨n,v,e,fun m hm=>?_,h3⟩;unfold bU;rw[if_pos hw];simp only[dH,e1,e2,h2 m hm]
  ·rename_i l al e1 e2;obtain⟨r,H',⟨n,h2⟩,h3⟩:=h;refine⟨n,r,_,fun m hm=>?_,h3⟩;have h2':=jW (cY (E:=E) hm) _ _ _ _ h2;unfold bU;rw[if_pos hw];simp only[dH,e1,e2,ka,h2',aLt]
  ·exact h.elim
 ·rename_i hnc;have hc:lE o=false:=by
   unfold lE
   split
   ·rename_i c Sq
    split
    ·rename_i f mO;obtain⟨callee,args,ats⟩:=c;simp only at mO;subst mO;exact absurd Sq (hnc f args ats)
    ·rfl
   ·rfl
  cases ho:dH E KJ vJ vJ false ts H aP o with
  |none=>rw[ho]at h;exact h.elim
  |some x=>
   obtain⟨v,e⟩:=x;rw[ho,zp]at h;refine⟨0,v,e,fun m _=>?_,h⟩;rw[Zf (dr':=dr) hc]at ho
   have:=Zh (QY (jE E (bR E m))) (pK (kQ E (bR E m))) (pK (lI (bR E m))) ho
   unfold bU;rw[if_pos hw,this]
def sj:List Oper->List (Option Nat)
 |[]=>[]
 |o::l=>o.dst::sj l
def I9:∀(l:List Oper) (j:Nat),((sj l)[j]?).bind id=(l[j]?).bind (·.dst)
 |[],j=>by simp[sj]
 |o::l,0=>rfl
 |o::l,j+1=>by simpa[sj]using I9 l j
def Mt(ds:List (Option Nat))(j:Nat):Option Nat:=(ds[j]?).bind id
def eM(ds:List (Option Nat))(ts:List AV)(o:Oper):Bool:=
 match o.guard with
 |none=>true
 |some (j,want)=>match Mt ds j with
  |none=>false
  |some d=>match ts[d]? with
   |some (.bool b)=>b==want
   |_=>false
def LD{ops:List Oper}{ts:List AV}{o:Oper}:eM (sj ops) ts o=bE ops ts o:=by
 unfold eM bE Mt;cases o.guard with
 |none=>rfl
 |some g=>
  obtain⟨j,want⟩:=g;simp only[I9];rfl
def bO(E:Env)(dr tr:Bool)(ds:List (Option Nat)):List Oper->Nat->List AV->Hp->List UR->(List AV->Hp->List UR->Prop)->Prop
 |[],_,ts,H,l,q=>q ts H l
 |o::rest,aP,ts,H,l,q=>
  if eM ds ts o=true then
   (dr=true->bV E o=true->kB H[aP]?=true)/\
   cW E dr o (if dr=true then aP else H.length) ts H fun v e=>bO E dr tr ds rest (if dr=true/\bV E o=true then aP+1 else aP) (bt o.dst v ts) (e.app H) (if tr=true then bH E ts o e::l else l) q
  else(dr=true->bV E o=true->kB H[aP]?=true)/\
   bO E dr tr ds rest (if dr=true/\bV E o=true then aP+1 else aP) (bt o.dst bS ts) H (if tr=true then bH E ts o (.bJ [])::l else l) q
def bO.aaf{E:Env}{ops:List Oper}{q:List AV->Hp->Prop}:∀{rest:List Oper} {aP:Nat} {ts:List AV} {H:Hp} {l:List UR},bO E false false (sj ops) rest aP ts H l (fun ts H _=>q ts H)->gz E ops rest ts H q
 |[],_,ts,H,l,h=>gz.nil h
 |o::rest,aP,ts,H,l,h=>by
  unfold bO at h;simp only[aK4,if_false,false_and,LD]at h;by_cases hw:bE ops ts o=true
  ·rw[if_pos hw]at h;obtain⟨n,v,e,h1,h2⟩:=Lp (ops:=ops) hw h.2;obtain⟨m,ts',H',k1,k2⟩:=bO.aaf h2;refine⟨max n m,ts',H',?_,k2⟩;unfold qa;rw[h1 _ (aND n m)];have l2:=cY (E:=E) (aNC n m);exact rA (lH l2) (jV l2) (jW l2) k1
  ·rw[if_neg hw]at h;exact gz.step (qN hw) (bO.aaf h.2)
def bO.HZ{E:Env}{ops:List Oper}{tr:Bool}{q:List AV->Hp->List UR->Prop}:∀{rest:List Oper} {aP:Nat} {ts:List AV} {H:Hp} {l:List UR},bO E true tr (sj ops) rest aP ts H l q->dD E ops rest aP ts H (fun ts H l'=>q ts H (if tr=true then l'.reverse++l else l))
 |[],_,ts,H,l,h=>dD.nil (by cases tr<;>exact h)
 |o::rest,aP,ts,H,l,h=>by
  unfold bO at h;simp only[if_true,true_and,forall_const,LD]at h;have il:(bV E o=true->kB H[aP]?=true)->(bV E o&&!kB H[aP]?)=false:=by
   intro hr;cases hl:bV E o with
   |false=>rfl
   |true=>simp[hr hl]
  by_cases hw:bE ops ts o=true
  ·rw[if_pos hw]at h;obtain⟨hr,h⟩:=h;obtain⟨n,v,e,h1,h2⟩:=Lp (ops:=ops) hw h;obtain⟨m,ts',H',l',k1,k2⟩:=bO.HZ h2;refine⟨max n m,ts',H',bH E ts o e::l',?_,?_⟩
   ·unfold o7;rw[il hr];simp only[aK4,if_false];rw[h1 _ (aND n m)];have l2:=cY (E:=E) (aNC n m);simp only[uH (lH l2) (jV l2) (jW l2) k1]
   ·cases tr<;>simpa using k2
  ·rw[if_neg hw]at h;obtain⟨hr,h⟩:=h;obtain⟨m,ts',H',l',k1,k2⟩:=bO.HZ h;refine⟨m,ts',H',bH E ts o (.bJ [])::l',?_,?_⟩
   ·unfold o7;rw[il hr];simp only[aK4,if_false];rw[qN hw]
    have:(cC.bJ []).app H=H:=rfl
    simp only[this,k1]
   ·cases tr<;>simpa using k2
def Cv.aBd{E:Env}{id:Nat}{ops:Array Oper}{ts:List AV}{H:Hp}{Q:Ex->List AV->Hp->Prop}(h:bO E false false (sj ops.toList) ops.toList 0 ts H [] (fun ts H _=>Q .normal ts H)):Cv E (.region id ops false) ts H Q:=Cv.region (bO.aaf h)
def tY:Nat->Hp
 |0=>[]
 |n+1=>dw::tY n
def DL:∀n,tY n=aKF n dw
 |0=>rfl
 |n+1=>by rw[List.replicate_succ,<-DL n];rfl
def UZ(b:Bool)(n:Nat):Nat:=if b=true then n+1 else n
def ahP{n:Nat}:UZ true n=n+1:=rfl
def ahO{n:Nat}:UZ false n=n:=rfl
def nj(E:Env):List Oper->Nat
 |[]=>0
 |o::l=>UZ (bV E o) (nj E l)
def zD(E:Env):∀l,nj E l=l.countP (bV E)
 |[]=>rfl
 |o::l=>by
  rw[List.countP_cons,<-zD E l,nj,UZ]
  split<;>rfl
def Cv.avq{E:Env}{id:Nat}{ops:Array Oper}{ts:List AV}{H:Hp}{Q:Ex->List AV->Hp->Prop}
  (h:bO E true true (sj ops.toList) ops.toList H.length ts (H++tY (nj E ops.toList)) [] (fun ts H l=>(E.pairs id ops.toList.length).all (rE l.reverse)=true/\Q .normal ts H)):Cv E (.region id ops true) ts H Q:=by
 rw[DL,zD]at h;obtain⟨n,ts',H',l,h1,h2,h3⟩:=bO.HZ h;refine⟨n+1,.normal,ts',H',?_,h3⟩;show cM E (bR E n) (.region id ops true) ts H=_
 unfold cM xZ;simp only[List.append_nil,List.reverse_reverse,if_true]at h2;simp only[if_true,h1,h2,aLt]
def Cv.avr{E:Env}{id:Nat}{ops:Array Oper}{ts:List AV}{H:Hp}{Q:Ex->List AV->Hp->Prop}(hp:E.pairs id ops.toList.length=[])
  (h:bO E true false (sj ops.toList) ops.toList H.length ts (H++tY (nj E ops.toList)) [] (fun ts H _=>Q .normal ts H)):Cv E (.region id ops true) ts H Q:=by
 rw[DL,zD]at h;obtain⟨n,ts',H',l,h1,h3⟩:=bO.HZ h;refine⟨n+1,.normal,ts',H',?_,h3⟩;show cM E (bR E n) (.region id ops true) ts H=_
 unfold cM xZ;simp only[if_true,h1,hp,List.all_nil,aLt]
end Dv
