/- Lemmas for AssemblyRefuses; no condition. -/
import Derived.Test.YtmkjgfnicfpjpaaGreatDoorRaf
set_option linter.all false
set_option maxHeartbeats 100000000
set_option maxRecDepth 100000
noncomputable section
open Option renaming map_some->aMi,some->aLS,bind_some->aP4
open Bool renaming false_eq_true->aLT,and_eq_true->aM6,not_eq_true'->aMb
open Nat renaming le_max_right->aOs,le_max_left->aOt,lt_or_ge->aPh,succ_mul->aP1
open List renaming flatten_cons->aPX,all_eq_true->aMf,getElem?_eq_some_iff->aLq,pairwise_iff_getElem->aPY,getElem_mem->aMg,take_of_length_le->aPk,replicate->aLu,all_cons->aPZ,countP_eq_zero->aP0,take_append->aP3
namespace Dv
open Go Go.RowKit
noncomputable section
inductive Tree where
 |nil
 |leaf (f:Nat) (l:List (Nat×aX))
 |node (f:Nat) (a b:Tree)
def Tree.at:Tree->Nat->List (Nat×aX)
 |.nil,_=>[]
 |.leaf g l,f=>if Nat.beq f g then l else []
 |.node g a b,f=>if Nat.blt f g then a.at f else b.at f
def Jc(k:Nat):List (Nat×aX)->List AV->Option AV
 |[],_=>none
 |(j,K)::l,args=>if Nat.ble j k then(match Qa K args with
  |some r=>some r
  |none=>Jc k l args)else Jc k l args
def Env.upto(E:Env)(T:Tree)(k:Nat):Env:={E with ov:=fun f args=>match Jc k (T.at f) args with
 |some r=>some r
 |none=>E.ov f args}
def Good(E:Env)(P:Program)(f:Nat)(a_:List AV)(r:AV):Prop:=∀(L:Nat->Prop) (w:World) (vs:Array Value),(∀c,L c->c<w.heap.size)->xG E L w->
 Rs cg w L a_ vs.toList->lQ P ((callFunc f vs).run P w) (fun v w'=>Below w.heap.size w w'/\R cg w' L r v)
def zF{k:Nat}:∀{l:List (Nat×aX)} {args:List AV} {r:AV},Jc k l args=some r->∃j K,(j,K)∈l/\j<=k/\(args,r)∈K
 |[],_,_,h=>by cases h
 |(j,K)::l,args,r,h=>by
  unfold Jc at h;split at h
  ·rename_i hj;split at h
   ·rename_i r' hr;cases h;exact⟨j,K,by simp,Nat.le_of_ble_eq_true hj,Fw hr⟩
   ·obtain⟨j',K',h1,h2,h3⟩:=zF h;exact⟨j',K',by simp[h1],h2,h3⟩
  ·obtain⟨j',K',h1,h2,h3⟩:=zF h;exact⟨j',K',by simp[h1],h2,h3⟩
def df(E:Env)(P:Program)(T:Tree)(k:Nat):Prop:=∀f j K,(j,K)∈T.at f->j<=k->∀a_ r,(a_,r)∈K->Good E P f a_ r
def Ie{E:Env}{P:Program}(V:Valid E P)(O:o5 E P){T:Tree}{k:Nat}(h:df E P T k):Valid (E.upto T k) P/\o5 (E.upto T k) P:=by
 refine⟨V.ov _ _,⟨?_,O.rH.env rfl (fun c=>gm _ _ c)⟩⟩;intro f a_ r hr L w vs hl Xn ha;simp only[Env.upto]at hr;split at hr
 ·rename_i r' hf;cases hr;obtain⟨j,K,h1,h2,h3⟩:=zF hf;exact h f j K h1 h2 a_ r h3 L w vs hl Xn ha
 ·exact O.ov f a_ r hr L w vs hl Xn ha
def df.step{E:Env}{P:Program}(V:Valid E P)(O:o5 E P){T:Tree}{k n:Nat}(h:df E P T k)(hc:∀f K,(k+1,K)∈T.at f->s9 (E.upto T k) n f K=true):df E P T (k+1):=by
 intro f j K hm hj a_ r hr;rcases aPh k j with eh|Qi
 ·have:j=k+1:=by omega
  subst this;have hk:=aMf.1 (hc f K hm) _ hr;simp only at hk;split at hk
  ·rename_i v hv;obtain⟨V',O'⟩:=Ie V O h
   have:=GJ V' O' n f a_ v hv
   rw[<-GB _ _ hk];exact fun L w vs hl hg ha=>this L w vs hl hg ha
  ·cases hk
 ·exact h f j K hm Qi a_ r hr
def df.skip{E:Env}{P:Program}{T:Tree}{k:Nat}(h:df E P T k)(hc:∀f K,(k+1,K)∉T.at f):df E P T (k+1):=by
 intro f j K hm hj a_ r hr;rcases aPh k j with eh|Qi
 ·have:j=k+1:=by omega
  subst this;exact absurd hm (hc f K)
 ·exact h f j K hm Qi a_ r hr
def Tree.leaves:Tree->List (Nat×Nat×aX)
 |.nil=>[]
 |.leaf f l=>l.map fun x=>(f,x.1,x.2)
 |.node _ a b=>a.leaves++b.leaves
def qw:∀(T:Tree) (f j:Nat) (K:aX),(j,K)∈T.at f->(f,j,K)∈T.leaves
 |.nil,_,_,_,h=>by simp[Tree.at]at h
 |.leaf g l,f,j,K,h=>by
  simp only[Tree.at]at h;split at h
  ·rename_i hf
   have:=Nat.eq_of_beq_eq_true hf
   subst this;exact List.mem_map.2 ⟨_,h,rfl⟩
  ·simp at h
 |.node g a b,f,j,K,h=>by
  simp only[Tree.at]at h;simp only[Tree.leaves,List.mem_append];split at h
  ·exact .inl (qw a f j K h)
  ·exact .inr (qw b f j K h)
def df.next{E:Env}{P:Program}(V:Valid E P)(O:o5 E P){T:Tree}{k n:Nat}(h:df E P T k)(hc:∀x,x∈T.leaves->x.2.1=k+1->s9 (E.upto T k) n x.1 x.2.2=true):df E P T (k+1):=
 h.step V O fun f K hm=>hc (f,k+1,K) (qw T f _ K hm) rfl
def dF{E:Env}{n f:Nat}{K K':aX}:s9 E n f (K++K')=(s9 E n f K&&s9 E n f K'):=by unfold s9;exact List.all_append
def df.zero{E:Env}{P:Program}{T:Tree}(hl:(T.leaves.filter fun x=>x.2.1==0).length=0):df E P T 0:=by
 intro f j K hm hj a_ r hr;have h1:=qw T f j K hm
 have:(f,j,K)∈T.leaves.filter fun x=>x.2.1==0:=List.mem_filter.2 ⟨h1,by simp;omega⟩
 rw[List.length_eq_zero_iff.1 hl]at this;cases this
def FV{T:Tree}{k:Nat}{l:Table}(hl:(T.leaves.filter fun x=>x.2.1==k).map (fun x=>(x.1,x.2.2))=l){f:Nat}{K:aX}(hm:(k,K)∈T.at f):(f,K)∈l:=by rw[<-hl];exact List.mem_map.2 ⟨(f,k,K),List.mem_filter.2 ⟨qw T f k K hm,by simp⟩,rfl⟩
def df.qH{E:Env}{P:Program}(V:Valid E P)(O:o5 E P){T:Tree}{k n:Nat}{l:Table}(h:df E P T k)(hl:(T.leaves.filter fun x=>x.2.1==k+1).map (fun x=>(x.1,x.2.2))=l)
  (hc:fl (E.upto T k) n l=true):df E P T (k+1):=
 h.step V O (n:=n) fun f K hm=>aMf.1 hc (f,K) (FV hl hm)
def df.other{E:Env}{P:Program}{T:Tree}{k:Nat}{l:Table}(h:df E P T k)(hl:(T.leaves.filter fun x=>x.2.1==k+1).map (fun x=>(x.1,x.2.2))=l)
  (hg:∀p,p∈l->∀e,e∈p.2->Good E P p.1 e.1 e.2):df E P T (k+1):=by
 intro f j K hm hj a_ r hr;rcases aPh k j with eh|Qi
 ·have:j=k+1:=by omega
  subst this;exact hg (f,K) (FV hl hm) (a_,r) hr
 ·exact h f j K hm Qi a_ r hr
def ae7{E:Env}{T:Tree}{k:Nat}:(E.upto T k).fn=E.fn:=rfl
def ae8{E:Env}{T:Tree}{k:Nat}:(E.upto T k).ty=E.ty:=rfl
def aao{E:Env}{T:Tree}{k:Nat}:(E.upto T k).rH=E.rH:=rfl
def O6{E:Env}{T:Tree}{k:Nat}:(E.upto T k).pairs=E.pairs:=rfl
def T2{E:Env}{T:Tree}{k:Nat}:(E.upto T k).glob=E.glob:=rfl
def Fz{E:Env}{P:Program}{T:Tree}{k f:Nat}{a_:List AV}{r:AV}(h:Good (E.upto T k) P f a_ r):Good E P f a_ r:=h
end
noncomputable section
variable{s:Nat}
def jL{l:List (List AV)}(h:∀r∈l,r.length=s):l.flatten.length=l.length*s:=by
 induction l with
 |nil=>simp
 |cons r l ih=>
  rw[aPX,List.length_append,ih (fun x hx=>h x (by simp[hx])),h r (by simp),List.length_cons,Nat.add_mul];omega
def nX{l:List (List AV)}(h:∀r∈l,r.length=s)(j:Nat):l.flatten.drop (j*s)=(l.drop j).flatten:=by
 induction l generalizing j with
 |nil=>simp
 |cons r l ih=>
  cases j with
  |zero=>simp
  |succ j=>
   have hr:=h r (by simp);rw[aPX,List.drop_succ_cons,<-ih (fun x hx=>h x (by simp[hx])) j,aP1,List.drop_append,List.drop_of_length_le (by omega),List.nil_append];congr 1;omega
def kU{l:List (List AV)}(h:∀r∈l,r.length=s)(j:Nat):l.flatten.take (j*s)=(l.take j).flatten:=by
 induction l generalizing j with
 |nil=>simp
 |cons r l ih=>
  cases j with
  |zero=>simp
  |succ j=>
   have hr:=h r (by simp);rw[aPX,List.take_succ_cons,aPX,<-ih (fun x hx=>h x (by simp[hx])) j,aP1,aP3,aPk (by omega)];congr 2;omega
def jC{l:List (List AV)}(h:∀r∈l,r.length=s){j:Nat}{r:List AV}(hj:l[j]?=some r):(l.flatten.drop (j*s)).take s=r:=by
 have eh:=(aLq.1 hj).1;rw[nX h,List.drop_eq_getElem_cons eh,aPX,aP3,aPk (by rw[h _ (aMg eh)];exact Nat.le_refl _)]
 have:l[j]=r:=(aLq.1 hj).2
 rw[this,h r (this▸aMg eh),Nat.sub_self]
 simp
def Je{l:List (List AV)}(h:∀r∈l,r.length=s){j:Nat}(hj:j<l.length){r:List AV}(hr:r.length=s):dA l.flatten (j*s) r=(l.set j r).flatten:=by
 unfold dA;rw[hr,kU h,show j*s+s=(j+1)*s from by rw[Nat.add_mul];omega,nX h,List.set_eq_take_append_cons_drop,if_pos hj]
 simp
def iM{l:List (List AV)}(h:∀r∈l,r.length=s){j:Nat}(hj:j<l.length):j*s+s<=l.flatten.length:=by rw[jL h,<-aP1];exact Nat.mul_le_mul_right s hj
def WA{n:Nat}{l:List Nat}(hp:l.Perm (List.range n))(hs:∀(p q:Nat) (hp:p<l.length) (hq:q<l.length),p<q->l[p]<=l[q]):l=List.range n:=by
 refine List.Perm.eq_of_pairwise (le:=fun a b=>a<=b) ?_ ?_ ?_ hp
 ·intro a b _ _ h1 h2;omega
 ·rw[aPY];intro i j hi hj tJ;exact hs i j hi hj tJ
 ·rw[aPY];intro i j hi hj tJ;simp;omega
def swap_perm{l:List Nat}{j k:Nat}(hj:j<l.length)(hk:k<l.length):((l.set j l[k]).set k l[j]).Perm l:=by
 rw[List.perm_iff_count];intro a;by_cases hjk:j=k
 ·subst hjk;simp
 have sM:k<(l.set j l[k]).length:=by simpa using hk
 rw[List.count_set (h:=sM),List.count_set (h:=hj)];have e:(l.set j l[k])[k]=l[k]:=by rw[List.getElem_set_ne hjk]
 rw[e];have c1:l[j]==a->1<=l.count a:=fun h=>by
  have:l[j]=a:=by simpa using h
  exact List.count_pos_iff.2 (this▸aMg hj)
 by_cases h1:(l[j]==a)=true<;>by_cases h2:(l[k]==a)=true<;>simp only[h1,h2,if_true,if_false,aLT]<;>(try have:=c1 h1)<;>omega
end
end Dv
namespace Dv
open Go Go.RowKit
def kC(E:Env)(f:Nat)(al:List AV)(r:AV):Prop:=(∀fi,E.fn f=some fi->fi.pure=true)/\∃m,call E m f al=some r
def KG:Pc:=fun _ _=>none
def vS:Ic:=fun _ _ _=>none
def lG(o:Oper):Bool:=match o.op with
 |.call c=>match c.callee with
  |.value _=>true
  |_=>false
 |_=>false
def IB(E:Env)(ops:List Oper)(o:Oper)(ts:List AV)(H:Hp)(k:List AV->Hp->Prop):Prop:=
 match o.op with
 |.call {callee:=.value fo,args:=args,..}=>match bU ts fo,kr ts args.toList with
  |some (.func f first cap),some al=>∃sV bs r,bX H (first++al++cap)=some (sV,bs)/\kC E f sV r/\k (bA o.dst r ts) ((if bQ r then cF.looks bs else cF.marks bs).app H)
  |_,_=>False
 |_=>match bV E KG vS vS false ops H.length {o with guard:=none} ts H with
  |some (ts1,e)=>k ts1 (e.app H)
  |none=>False
def rX(E:Env)(ops:List Oper)(o:Oper)(ts:List AV)(H:Hp)(k:List AV->Hp->Prop):Prop:=
 if bE ops ts o=true then IB E ops o ts H k else k (bA o.dst bT ts) H
def dW(E:Env)(ops:List Oper):List Oper->List AV->Hp->(List AV->Hp->Prop)->Prop
 |[],ts,H,q=>q ts H
 |o::rest,ts,H,q=>rX E ops o ts H fun ts1 H1=>dW E ops rest ts1 H1 q
def oP{E:Env}{pc:Pc}{ic yc:Ic}{dr:Bool}{ops:List Oper}{aR:Nat}{o:Oper}{ts:List AV}{H:Hp}(h:bE ops ts o=true):
  bV E pc ic yc dr ops aR o ts H=bV E pc ic yc dr ops aR {o with guard:=none} ts H:=by
 unfold bV;rw[if_pos h,if_pos (show bE ops ts {o with guard:=none}=true from rfl)];rfl
def qS{E:Env}{pc:Pc}{ic yc:Ic}{dr:Bool}{ops:List Oper}{aR:Nat}{o:Oper}{ts:List AV}{H:Hp}(h:¬bE ops ts o=true):
  bV E pc ic yc dr ops aR o ts H=some (bA o.dst bT ts,.bJ []):=by
 unfold bV;rw[if_neg h]
def gz.V0{E:Env}{ops rest:List Oper}{ts:List AV}{H:Hp}{q:List AV->Hp->Prop}{d:Option Nat}{t:Nat}{p:String}{af:Array Edge}{g:Option (Nat×Bool)}{fo:Operand}{args:Array Operand}{ats:Array Nat}{f:Nat}{first cap al sV:List AV}{bs:List Nat}{r:AV}
  (hw:bE ops ts ⟨d,.call {callee:=.value fo,args:=args,argTypes:=ats},t,p,af,g⟩=true) (hf:bU ts fo=some (.func f first cap)) (ha:kr ts args.toList=some al) (hz:bX H (first++al++cap)=some (sV,bs)) (hc:kC E f sV r)
  (h:gz E ops rest (bA d r ts) ((if bQ r then cF.looks bs else cF.marks bs).app H) q):
  gz E ops (⟨d,.call {callee:=.value fo,args:=args,argTypes:=ats},t,p,af,g⟩::rest) ts H q:=by
 obtain⟨n,ts',H',k1,k2⟩:=h;obtain⟨hp,m,hm⟩:=hc;have l1:=cY (E:=E) (aOt n m);refine⟨max n m,ts',H',?_,k2⟩;unfold qi;have h1:jF E (bS E (max n m)) f sV=some r:=ll (aOs n m) _ _ _ hm;have dx:bV E (jF E (bS E (max n m))) (kQ E (bS E (max n m))) (lL (bS E (max n m))) false ops H.length ⟨d,.call {callee:=.value fo,args:=args,argTypes:=ats},t,p,af,g⟩ ts H=some (bA d r ts,if bQ r then cF.looks bs else cF.marks bs):=by
  rw[oP hw];cases fC:E.fn f with
  |none=>simp only[bV,bE,dH,hf,ha,ke,fC,hz,h1,if_true,aMi]
  |some fi=>
   obtain⟨code,ntmps,results,pu,du⟩:=fi
   have:=hp _ fC
   simp only at this;subst this;simp only[bV,bE,dH,hf,ha,ke,fC,hz,h1,if_true,aMi]
 rw[dx];exact rF (lK l1) (jW l1) (jX l1) k1
def dW.ops{E:Env}{ops:List Oper}{q:List AV->Hp->Prop}:∀{rest:List Oper} {ts:List AV} {H:Hp},dW E ops rest ts H q->gz E ops rest ts H q
 |[],ts,H,h=>gz.nil h
 |o::rest,ts,H,h=>by
  unfold dW rX at h;by_cases hw:bE ops ts o=true
  ·rw[if_pos hw]at h;unfold IB at h;split at h
   ·rename_i fo args ats h1;obtain⟨d,op,t,p,af,g⟩:=o;simp only at h1;subst h1;split at h
    ·rename_i f first cap al e1 e2
     obtain⟨sV,bs,r,g1,g2,g3⟩:=h;exact gz.V0 hw e1 e2 g1 g2 (dW.ops g3)
    ·exact h.elim
   ·split at h
    ·rename_i ts1 e dx;exact gz.step (by rw[oP hw];exact dx) (dW.ops h)
    ·exact h.elim
  ·rw[if_neg hw]at h;exact gz.step (qS hw) (dW.ops h)
def Cv.run{E:Env}{id:Nat}{ops:Array Oper}{ts:List AV}{H:Hp}{Q:Ex->List AV->Hp->Prop}(h:dW E ops.toList ops.toList ts H (Q .normal)):Cv E (.region id ops false) ts H Q:=Cv.region h.ops
section
variable{E:Env}{ops rest:List Oper}{ts:List AV}{H:Hp}{q:List AV->Hp->Prop}{d t:Nat}{p:String}{af:Array Edge}
def b8:dW E ops [] ts H q=q ts H:=rfl
def nE{o:Oper}(hg:o.guard=none)(hc:∀c,o.op=.call c->∀f,c.callee≠ .value f):dW E ops (o::rest) ts H q=(match bV E KG vS vS false ops H.length o ts H with
  |some (ts1,e)=>dW E ops rest ts1 (e.app H) q
  |none=>False):=by
 show rX E ops o ts H _=_
 have hw:bE ops ts o=true:=by unfold bE;rw[hg]
 unfold rX;rw[if_pos hw];unfold IB
 split
 ·rename_i fo args ats h1;exact absurd rfl (hc _ h1 fo)
 ·rw[<-oP hw]
def Ld{d:Option Nat}{fo:Operand}{args:Array Operand}{ats:Array Nat}:dW E ops (⟨d,.call {callee:=.value fo,args:=args,argTypes:=ats},t,p,af,none⟩::rest) ts H q=
  (match bU ts fo,kr ts args.toList with
  |some (.func f first cap),some al=>∃sV bs r,bX H (first++al++cap)=some (sV,bs)/\kC E f sV r/\dW E ops rest (bA d r ts) ((if bQ r then cF.looks bs else cF.marks bs).app H) q
  |_,_=>False):=by
 show rX E ops _ ts H _=_
 unfold rX;rw[if_pos (show bE ops ts _=true from rfl)];rfl
def run_move{x:Operand}:dW E ops (⟨some d,.move x,t,p,af,none⟩::rest) ts H q=(match bU ts x with
  |some v=>dW E ops rest (ts.set d v) H q
  |none=>False):=by
 rw[nE rfl (by intro c h;cases h)];cases hx:bU ts x with
 |none=>simp[bV,bE,dH,hx]
 |some v=>rw[cR hx];rfl
def run_assign{x:Operand}:dW E ops (⟨some d,.assign x,t,p,af,none⟩::rest) ts H q=(match bU ts x with
  |some v=>dW E ops rest (ts.set d v) H q
  |none=>False):=by
 rw[nE rfl (by intro c h;cases h)];cases hx:bU ts x with
 |none=>simp[bV,bE,dH,hx]
 |some v=>rw[gE hx];rfl
def ZW{c a b:Operand}:dW E ops (⟨some d,.pick c a b,t,p,af,none⟩::rest) ts H q=(match bU ts c with
  |some (.bool z)=>(match bU ts (if z then a else b)with
   |some v=>dW E ops rest (ts.set d v) H q
   |none=>False)
  |_=>False):=by
 rw[nE rfl (by intro c h;cases h)];cases hc:bU ts c with
 |none=>simp[bV,bE,dH,hc]
 |some u=>
  cases u<;>try (simp[bV,bE,dH,hc];done)
  rename_i z;cases hx:bU ts (if z then a else b)with
  |none=>simp only[bV,bE,dH,hc,hx,if_true,Option.map_none]
  |some v=>rw[HU hc hx];simp only[hx];rfl
def TK{op:BinOp}{t1 t2:Nat}{x y:Operand}:dW E ops (⟨some d,.binOp op t1 x y t2,t,p,af,none⟩::rest) ts H q=(match bU ts x,bU ts y with
  |some u,some v=>(match cp E (bC x||bC y) op t1 u v with
   |some r=>dW E ops rest (ts.set d r) H q
   |none=>False)
  |_,_=>False):=by
 rw[nE rfl (by intro c h;cases h)];cases hx:bU ts x with
 |none=>simp[bV,bE,dH,hx]
 |some u=>
  cases hy:bU ts y with
  |none=>simp[bV,bE,dH,hx,hy]
  |some v=>
   cases hr:cp E (bC x||bC y) op t1 u v with
   |none=>simp[bV,bE,dH,hx,hy,hr]
   |some r=>rw[gZ hx hy hr];simp only[hr];rfl
def EZ{t1:Nat}{x y:Operand}:dW E ops (⟨some d,.indexAddr t1 x y,t,p,af,none⟩::rest) ts H q=(match bU ts x,bU ts y with
  |some u,some v=>(match cd E t1 u v with
   |some r=>dW E ops rest (ts.set d r) H q
   |none=>False)
  |_,_=>False):=by
 rw[nE rfl (by intro c h;cases h)];cases hx:bU ts x with
 |none=>simp[bV,bE,dH,hx]
 |some u=>
  cases hy:bU ts y with
  |none=>simp[bV,bE,dH,hx,hy]
  |some v=>
   cases hr:cd E t1 u v with
   |none=>simp[bV,bE,dH,hx,hy,hr]
   |some r=>rw[iR hx hy hr];simp only[hr];rfl
def run_load{t1:Nat}{x:Operand}:dW E ops (⟨some d,.load t1 x,t,p,af,none⟩::rest) ts H q=(match bU ts x with
  |some u=>(match dU E H t1 u with
   |some r=>dW E ops rest (ts.set d r) H q
   |none=>False)
  |none=>False):=by
 rw[nE rfl (by intro c h;cases h)];cases hx:bU ts x with
 |none=>simp[bV,bE,dH,hx]
 |some u=>
  cases hr:dU E H t1 u with
  |none=>simp[bV,bE,dH,hx,hr]
  |some r=>rw[rR hx hr];simp only[hr];rfl
def run_store{t1:Nat}{x y:Operand}:dW E ops (⟨none,.store t1 x y,t,p,af,none⟩::rest) ts H q=(match bU ts x,bU ts y with
  |some u,some v=>(match fh E H t1 u v with
   |some l=>dW E ops rest ts ((cF.bJ l).app H) q
   |none=>False)
  |_,_=>False):=by
 rw[nE rfl (by intro c h;cases h)];cases hx:bU ts x with
 |none=>simp[bV,bE,dH,hx]
 |some u=>
  cases hy:bU ts y with
  |none=>simp[bV,bE,dH,hx,hy]
  |some v=>
   cases hr:fh E H t1 u v with
   |none=>simp[bV,bE,dH,hx,hy,hr]
   |some l=>rw[yT hx hy hr];simp only[hr]
def TJ{t1:Nat}:dW E ops (⟨some d,.alloc t1,t,p,af,none⟩::rest) ts H q=(match ek E t1 with
  |some z=>dW E ops rest (ts.set d (.bK H.length 0)) ((cF.bJ [(H.length,.cells .live z.cells)]).app H) q
  |none=>False):=by
 rw[nE rfl (by intro c h;cases h)];cases hz:ek E t1 with
 |none=>simp[bV,bE,dH,hz]
 |some z=>rw[Ln hz]
def Lc{bi:Builtin}{args:Array Operand}{ats:Array Nat}:dW E ops (⟨some d,.call {callee:=.builtin bi,args:=args,argTypes:=ats},t,p,af,none⟩::rest) ts H q=(match kr ts args.toList with
  |some al=>(match bM E H H.length bi ats.toList al with
   |some (r,l)=>dW E ops rest (ts.set d r) ((cF.bJ l).app H) q
   |none=>False)
  |none=>False):=by
 rw[nE rfl (by intro c h f hf;cases h;cases hf)];cases ha:kr ts args.toList with
 |none=>simp[bV,bE,dH,ha]
 |some al=>
  cases hr:bM E H H.length bi ats.toList al with
  |none=>simp[bV,bE,dH,ha,hr]
  |some x=>
   obtain⟨r,l⟩:=x;rw[rQ ha hr];simp only[hr]
def TM{t1:Nat}{x:Operand}{lo hi:Option Operand}{ti:sk}(ht:E.ty t1=some ti)(hna:ti.isAgg=(match ti.cD with|.struct _|.array .. =>true|_=>false))(ha:ti.isAgg=false):
  dW E ops (⟨some d,.slice t1 x lo hi none,t,p,af,none⟩::rest) ts H q=(match bU ts x,gq ts lo,gq ts hi with
  |some u,some l,some h=>(match gg E t1 u l h with
   |some r=>dW E ops rest (ts.set d r) H q
   |none=>False)
  |_,_,_=>False):=by
 rw[nE rfl (by intro c h;cases h)];have dx:∀u l h,bU ts x=some u->gq ts lo=some l->gq ts hi=some h->∀r,gg E t1 u l h=r->
   bV E KG vS vS false ops H.length ⟨some d,.slice t1 x lo hi none,t,p,af,none⟩ ts H=(r.map fun r=>(ts.set d r,cF.bJ [])):=by
  intro u l h h1 h2 h3 r hr;subst hr;obtain⟨cD,jA,jS,jB,jZ,dK⟩:=ti;simp only at ha hna;subst ha;cases cD<;>simp at hna<;>(simp only[bV,bE,dH,h1,h2,h3,ht,bA,if_true];cases gg E t1 u l h<;>rfl)
 cases hx:bU ts x with
 |none=>simp[bV,bE,dH,hx]
 |some u=>
  cases hl:gq ts lo with
  |none=>simp[bV,bE,dH,hx,hl]
  |some l=>
   cases hh:gq ts hi with
   |none=>simp[bV,bE,dH,hx,hl,hh]
   |some h=>
    rw[dx u l h hx hl hh _ rfl];cases hs:gg E t1 u l h with
    |none=>simp only[hs];rfl
    |some r=>simp only[hs];rfl
def th(ops:List Oper)(j:Nat):Option Nat:=(ops[j]?).bind (·.dst)
def Fa:AV->Option Bool
 |.bool b=>some b
 |_=>none
def TL{d:Option Nat}{op:Op}{j:Nat}{want:Bool}:dW E ops (⟨d,op,t,p,af,some (j,want)⟩::rest) ts H q=
  (if(th ops j).bind (fun dj=>Fa (gt ts dj))=some want then dW E ops (⟨d,op,t,p,af,none⟩::rest) ts H q
   else dW E ops rest (bA d bT ts) H q):=by
 have hw:bE ops ts ⟨d,op,t,p,af,some (j,want)⟩=true↔(th ops j).bind (fun dj=>Fa (gt ts dj))=some want:=by
  unfold bE th;cases hj:(ops[j]?).bind (·.dst)with
  |none=>simp[hj]
  |some dj=>
   simp only[hj,aP4];unfold gt;cases hv:ts[dj]? with
   |none=>simp[Fa,bT]
   |some v=>cases v<;>simp[Fa]
 show rX E ops _ ts H _=_
 unfold rX;by_cases h:bE ops ts ⟨d,op,t,p,af,some (j,want)⟩=true
 ·rw[if_pos h,if_pos (hw.1 h)];show _=rX E ops _ ts H _
  unfold rX;rw[if_pos (show bE ops ts ⟨d,op,t,p,af,none⟩=true from rfl)];rfl
 ·rw[if_neg h,if_neg (fun q=>h (hw.2 q))]
end
def b9(r:Option AV)(k:AV->Prop):Prop:=match r with
 |some v=>k v
 |none=>False
def aT{v:AV}{k:AV->Prop}:b9 (some v) k=k v:=rfl
@[congr] theorem ahG {a b:Option AV} {k:AV->Prop} (h:a=b):b9 a k=b9 b k:=by rw[h]
def qZ(r:Option (AV×List (Nat×cE)))(k:AV×List (Nat×cE)->Prop):Prop:=match r with
 |some v=>k v
 |none=>False
def cM{v:AV×List (Nat×cE)}{k:AV×List (Nat×cE)->Prop}:qZ (some v) k=k v:=rfl
@[congr] theorem ahH {a b:Option (AV×List (Nat×cE))} {k:AV×List (Nat×cE)->Prop} (h:a=b):qZ a k=qZ b k:=by rw[h]
def A6(r:Option (List (Nat×cE)))(k:List (Nat×cE)->Prop):Prop:=match r with
 |some v=>k v
 |none=>False
def de{v:List (Nat×cE)}{k:List (Nat×cE)->Prop}:A6 (some v) k=k v:=rfl
@[congr] theorem ahF {a b:Option (List (Nat×cE))} {k:List (Nat×cE)->Prop} (h:a=b):A6 a k=A6 b k:=by rw[h]
def om(c:Bool)(a b:Prop):Prop:=if c=true then a else b
def gD{a b:Prop}:om true a b=a:=by simp[om]
def eI{a b:Prop}:om false a b=b:=by simp[om]
@[congr] theorem ahz {c d:Bool} {a b:Prop} (h:c=d):om c a b=om d a b:=by rw[h]
@[congr] theorem amH {E:Env} {ops rest:List Oper} {ts ts':List AV} {H H':Hp} {q:List AV->Hp->Prop} (h1:ts=ts') (h2:H=H'):dW E ops rest ts H q=dW E ops rest ts' H' q:=by rw[h1,h2]
def MF(ts:List AV):Operand->AV
 |.tmp i=>gt ts i
 |.const (.int k n)=>.int k n
 |.const (.bool b)=>.bool b
 |.const (.slice none 0 0)=>.aH
 |.const (.string s)=>.str s.data.toList
 |.func f=>.func f [] []
 |.global g=>.ie g 0
 |_=>bT
def nJ:Operand->Bool
 |.tmp _|.const (.int ..)|.const (.bool _)|.const (.slice none 0 0)|.const (.string _)|.func _|.global _=>true
 |_=>false
def qA{ts:List AV}{x:Operand}(h:nJ x=true):bU ts x=some (MF ts x):=by
 unfold nJ at h;split at h<;>first|rfl|cases h
def ajA(ts:List AV)(l:List Operand):List AV:=l.map (MF ts)
def af8{ts:List AV}:∀{l:List Operand},l.all nJ=true->kr ts l=some (ajA ts l)
 |[],_=>rfl
 |x::l,h=>by
  simp only[aPZ,aM6]at h;simp only[kr,qA h.1,af8 h.2,ajA,List.map_cons]
def Gg(c a b:AV):Option AV:=match c with
 |.bool z=>some (if z then a else b)
 |_=>none
def DI{a b:AV}:Gg (.bool true) a b=some a:=rfl
def AP{a b:AV}:Gg (.bool false) a b=some b:=rfl
def pM(ops:List Oper)(ts:List AV)(j:Nat)(want:Bool):Bool:=match th ops j with
 |some dj=>Fa (gt ts dj)==some want
 |none=>false
section
variable{E:Env}{ops rest:List Oper}{ts:List AV}{H:Hp}{q:List AV->Hp->Prop}{d t:Nat}{p:String}{af:Array Edge}
def aez{x:Operand}(h:nJ x=true):dW E ops (⟨some d,.move x,t,p,af,none⟩::rest) ts H q=dW E ops rest (ts.set d (MF ts x)) H q:=by rw[run_move,qA h]
def Ad{x:Operand}(h:nJ x=true):dW E ops (⟨some d,.assign x,t,p,af,none⟩::rest) ts H q=dW E ops rest (ts.set d (MF ts x)) H q:=by rw[run_assign,qA h]
def aeA{c a b:Operand}(hc:nJ c=true)(ha:nJ a=true)(hb:nJ b=true):dW E ops (⟨some d,.pick c a b,t,p,af,none⟩::rest) ts H q=
  b9 (Gg (MF ts c) (MF ts a) (MF ts b)) fun v=>dW E ops rest (ts.set d v) H q:=by
 rw[ZW,qA hc];cases hq:MF ts c<;>try rfl
 rename_i z;cases z
 ·simp only[aLT,if_false,qA hb,Gg];rfl
 ·simp only[if_true,qA ha,Gg];rfl
def K9{op:BinOp}{t1 t2:Nat}{x y:Operand}(hx:nJ x=true)(hy:nJ y=true):dW E ops (⟨some d,.binOp op t1 x y t2,t,p,af,none⟩::rest) ts H q=
  b9 (cp E (bC x||bC y) op t1 (MF ts x) (MF ts y)) fun r=>dW E ops rest (ts.set d r) H q:=by
 rw[TK,qA hx,qA hy];rfl
def HJ{t1:Nat}{x y:Operand}(hx:nJ x=true)(hy:nJ y=true):dW E ops (⟨some d,.indexAddr t1 x y,t,p,af,none⟩::rest) ts H q=
  b9 (cd E t1 (MF ts x) (MF ts y)) fun r=>dW E ops rest (ts.set d r) H q:=by
 rw[EZ,qA hx,qA hy];rfl
def aey{t1:Nat}{x:Operand}(hx:nJ x=true):dW E ops (⟨some d,.load t1 x,t,p,af,none⟩::rest) ts H q=
  b9 (dU E H t1 (MF ts x)) fun r=>dW E ops rest (ts.set d r) H q:=by
 rw[run_load,qA hx];rfl
def ZN{t1:Nat}{x y:Operand}(hx:nJ x=true)(hy:nJ y=true):dW E ops (⟨none,.store t1 x y,t,p,af,none⟩::rest) ts H q=
  A6 (fh E H t1 (MF ts x) (MF ts y)) fun l=>dW E ops rest ts ((cF.bJ l).app H) q:=by
 rw[run_store,qA hx,qA hy];rfl
def ZM{t1:Nat}:dW E ops (⟨some d,.alloc t1,t,p,af,none⟩::rest) ts H q=
  b9 (ek E t1) fun z=>dW E ops rest (ts.set d (.bK H.length 0)) ((cF.bJ [(H.length,.cells .live z.cells)]).app H) q:=by
 rw[TJ];rfl
def OG{bi:Builtin}{args:Array Operand}{ats:Array Nat}(h:args.toList.all nJ=true):dW E ops (⟨some d,.call {callee:=.builtin bi,args:=args,argTypes:=ats},t,p,af,none⟩::rest) ts H q=
  qZ (bM E H H.length bi ats.toList (ajA ts args.toList)) fun x=>dW E ops rest (ts.set d x.1) ((cF.bJ x.2).app H) q:=by
 rw[Lc,af8 h];simp only;unfold qZ
 split<;>simp_all
def qO{d:Option Nat}{op:Op}{j:Nat}{want:Bool}:dW E ops (⟨d,op,t,p,af,some (j,want)⟩::rest) ts H q=
  om (pM ops ts j want) (dW E ops (⟨d,op,t,p,af,none⟩::rest) ts H q) (dW E ops rest (bA d bT ts) H q):=by
 rw[TL];unfold om pM;cases th ops j with
 |none=>simp
 |some dj=>simp only[aP4,beq_iff_eq]
end
section
variable{E:Env}{ops rest:List Oper}{ts:List AV}{H:Hp}{q:List AV->Hp->Prop}{d t:Nat}{p:String}{af:Array Edge}
def gr{i0:Nat}:dW E ops (⟨some d,.move (.tmp i0),t,p,af,none⟩::rest) ts H q=dW E ops rest (ts.set d (gt ts i0)) H q:=aez rfl
def mu{i0:Nat}:dW E ops (⟨some d,.assign (.tmp i0),t,p,af,none⟩::rest) ts H q=dW E ops rest (ts.set d (gt ts i0)) H q:=Ad rfl
def mj{k0:IntKind}{z0:Int}:dW E ops (⟨some d,.assign (.const (.int k0 z0)),t,p,af,none⟩::rest) ts H q=dW E ops rest (ts.set d (.int k0 z0)) H q:=Ad rfl
def OB:dW E ops (⟨some d,.assign (.const (.slice none 0 0)),t,p,af,none⟩::rest) ts H q=dW E ops rest (ts.set d (.aH)) H q:=Ad rfl
def yN{i0:Nat}{i1:Nat}{op:BinOp}{t1 t2:Nat}:dW E ops (⟨some d,.binOp op t1 (.tmp i0) (.tmp i1) t2,t,p,af,none⟩::rest) ts H q=b9 (cp E false op t1 (gt ts i0) (gt ts i1)) fun r=>dW E ops rest (ts.set d r) H q:=K9 rfl rfl
def mZ{i0:Nat}{k1:IntKind}{z1:Int}{op:BinOp}{t1 t2:Nat}:dW E ops (⟨some d,.binOp op t1 (.tmp i0) (.const (.int k1 z1)) t2,t,p,af,none⟩::rest) ts H q=b9 (cp E true op t1 (gt ts i0) (.int k1 z1)) fun r=>dW E ops rest (ts.set d r) H q:=K9 rfl rfl
def BP{i0:Nat}{i1:Nat}{t1:Nat}:dW E ops (⟨some d,.indexAddr t1 (.tmp i0) (.tmp i1),t,p,af,none⟩::rest) ts H q=b9 (cd E t1 (gt ts i0) (gt ts i1)) fun r=>dW E ops rest (ts.set d r) H q:=HJ rfl rfl
def Rh{i0:Nat}{i1:Nat}{t1:Nat}:dW E ops (⟨none,.store t1 (.tmp i0) (.tmp i1),t,p,af,none⟩::rest) ts H q=A6 (fh E H t1 (gt ts i0) (gt ts i1)) fun l=>dW E ops rest ts ((cF.bJ l).app H) q:=ZN rfl rfl
def aep{i0:Nat}{t1:Nat}:dW E ops (⟨some d,.load t1 (.tmp i0),t,p,af,none⟩::rest) ts H q=b9 (dU E H t1 (gt ts i0)) fun r=>dW E ops rest (ts.set d r) H q:=aey rfl
def vj{i0:Nat}{i1:Nat}{b2:Bool}:dW E ops (⟨some d,.pick (.tmp i0) (.tmp i1) (.const (.bool b2)),t,p,af,none⟩::rest) ts H q=b9 (Gg (gt ts i0) (gt ts i1) (.bool b2)) fun v=>dW E ops rest (ts.set d v) H q:=aeA rfl rfl rfl
def AT{i0 t1:Nat}:dW E ops (⟨some d,.call {callee:=.builtin .len,args:=#[.tmp i0],argTypes:=#[t1]},t,p,af,none⟩::rest) ts H q=qZ (bM E H H.length .len [t1] [gt ts i0]) fun x=>dW E ops rest (ts.set d x.1) ((cF.bJ x.2).app H) q:=OG rfl
end
section
variable{E:Env}{c:Bool}{t:Nat}{k:IntKind}{a b:Int}
def kL:cp E c .add t (.int k a) (.int k b)=some (.int k (aW k (a+b))):=by simp[cp,k8]
def l8:cp E c .sub t (.int k a) (.int k b)=some (.int k (aW k (a-b))):=by simp[cp,k8]
def Mc:cp E c .mul t (.int k a) (.int k b)=some (.int k (aW k (a*b))):=by simp[cp,k8]
def Mb:cp E c .eql t (.int k a) (.int k b)=some (.bool (a==b)):=by simp[cp,k8]
def Md:cp E c .neq t (.int k a) (.int k b)=some (.bool (a !=b)):=by simp[cp,k8]
def fZ:cp E c .lss t (.int k a) (.int k b)=some (.bool (decide (a<b))):=by simp[cp,k8]
def ah4:cp E c .leq t (.int k a) (.int k b)=some (.bool (decide (a<=b))):=by simp[cp,k8]
def zx:cp E c .gtr t (.int k a) (.int k b)=some (.bool (decide (a>b))):=by simp[cp,k8]
def zw:cp E c .geq t (.int k a) (.int k b)=some (.bool (decide (a≥b))):=by simp[cp,k8]
def ah5(h:b≠0):cp E c .quo t (.int k a) (.int k b)=some (.int k (aW k (a.tdiv b))):=by simp[cp,k8,h]
def ah6(h:b≠0):cp E c .rem t (.int k a) (.int k b)=some (.int k (a.tmod b)):=by simp[cp,k8,h]
def OZ{x:Bool}:T1 .not (.bool x)=some (.bool (!x)):=rfl
end
def Zg{E:Env}{pc:Pc}{ic yc:Ic}{dr dr':Bool}{ts:List AV}{H:Hp}{aR:Nat}{o:Oper}(hc:lG o=false):dH E pc ic yc dr ts H aR o=dH E pc ic yc dr' ts H aR o:=by
 obtain⟨d,op,t,p,af,g⟩:=o;cases op<;>try rfl
 case makeFunc fn a b=>cases fn<;>rfl
 case next it s=>cases s<;>rfl
 case call c=>
  obtain⟨callee,args,ats⟩:=c;cases callee<;>first|rfl|(simp[lG]at hc;done)
def Gr{E:Env}{pc:Pc}{ic yc:Ic}{dr dr':Bool}{ops:List Oper}{ts:List AV}{H:Hp}{aR nid':Nat}{o:Oper}(hl:bW E o=false)(hc:lG o=false):
  bV E pc ic yc dr ops aR o ts H=bV E pc ic yc dr' ops nid' o ts H:=by
 unfold bV;rw[Zg (dr':=dr') hc,BN (nid':=nid') hl]
def dD.V0{E:Env}{ops rest:List Oper}{aR:Nat}{ts:List AV}{H:Hp}{Q:List AV->Hp->Prop}{d:Option Nat}{t:Nat}{p:String}{af:Array Edge}{g:Option (Nat×Bool)}{fo:Operand}{args:Array Operand}{ats:Array Nat}{f:Nat}{first cap al sV:List AV}{bs:List Nat}{r:AV}
  (hw:bE ops ts ⟨d,.call {callee:=.value fo,args:=args,argTypes:=ats},t,p,af,g⟩=true)
  (hf:bU ts fo=some (.func f first cap)) (ha:kr ts args.toList=some al) (hz:bX H (first++al++cap)=some (sV,bs)) (hc:kC E f sV r)
  (h:dD E ops rest aR (bA d r ts) ((if bQ r then cF.looks bs else cF.marks bs).app H) fun ts' H' _=>Q ts' H'):
  dD E ops (⟨d,.call {callee:=.value fo,args:=args,argTypes:=ats},t,p,af,g⟩::rest) aR ts H fun ts' H' _=>Q ts' H':=by
 obtain⟨n,ts',H',l,k1,k2⟩:=h;obtain⟨hp,m,hm⟩:=hc;have l1:=cY (E:=E) (aOt n m);refine⟨max n m,ts',H',bH E ts ⟨d,.call {callee:=.value fo,args:=args,argTypes:=ats},t,p,af,g⟩ (if bQ r then cF.looks bs else cF.marks bs)::l,?_,k2⟩;unfold pz;have h1:jF E (bS E (max n m)) f sV=some r:=ll (aOs n m) _ _ _ hm;rw[show bW E ⟨d,.call {callee:=.value fo,args:=args,argTypes:=ats},t,p,af,g⟩=false from rfl];simp only[Bool.false_and,aLT,if_false];have dx:bV E (jF E (bS E (max n m))) (kQ E (bS E (max n m))) (lL (bS E (max n m))) true ops aR ⟨d,.call {callee:=.value fo,args:=args,argTypes:=ats},t,p,af,g⟩ ts H=some (bA d r ts,if bQ r then cF.looks bs else cF.marks bs):=by
  rw[oP hw];cases fC:E.fn f with
  |none=>simp only[bV,bE,dH,hf,ha,ke,fC,hz,h1,if_true,aMi]
  |some fi=>
   obtain⟨code,ntmps,results,pu,du⟩:=fi
   have:=hp _ fC
   simp only at this;subst this;simp only[bV,bE,dH,hf,ha,ke,fC,hz,h1,if_true,aMi]
 rw[dx];simp only[uO (lK l1) (jW l1) (jX l1) k1]
def dW.pz{E:Env}{ops:List Oper}{q:List AV->Hp->Prop}{aR:Nat}:∀{rest:List Oper} {ts:List AV} {H:Hp},rest.all (fun o=>!bW E o)=true->dW E ops rest ts H q->dD E ops rest aR ts H fun ts' H' _=>q ts' H'
 |[],ts,H,_,h=>dD.nil h
 |o::rest,ts,H,hl,h=>by
  simp only[aPZ,aM6,aMb]at hl;have tM:rest.all (fun o=>!bW E o)=true:=by simpa using hl.2
  unfold dW rX at h;by_cases hw:bE ops ts o=true
  ·rw[if_pos hw]at h;unfold IB at h;split at h
   ·rename_i fo args ats h1;obtain⟨d,op,t,p,af,g⟩:=o;simp only at h1;subst h1;split at h
    ·rename_i f first cap al e1 e2
     obtain⟨sV,bs,r,g1,g2,g3⟩:=h;exact dD.V0 hw e1 e2 g1 g2 (dW.pz tM g3)
    ·exact h.elim
   ·rename_i hnc;have hc:lG o=false:=by
     unfold lG
     split
     ·rename_i c SB
      split
      ·rename_i f mQ;obtain⟨callee,args,ats⟩:=c;simp only at mQ;subst mQ;exact absurd SB (hnc f args ats)
      ·rfl
     ·rfl
    split at h
    ·rename_i ts1 e dx;refine dD.step hl.1 ?_ (dW.pz tM h);rw[<-oP hw]at dx;rw[Gr (dr':=false) (nid':=H.length) hl.1 hc];exact dx
    ·exact h.elim
  ·rw[if_neg hw]at h;exact dD.step hl.1 (qS hw) (dW.pz tM h)
def Cv.Af{E:Env}{id:Nat}{ops:Array Oper}{ts:List AV}{H:Hp}{Q:Ex->List AV->Hp->Prop}(hl:ops.toList.all (fun o=>!bW E o)=true)(hp:E.pairs id ops.toList.length=[])
  (h:dW E ops.toList ops.toList ts H (Q .normal)):Cv E (.region id ops true) ts H Q:=by
 refine Cv.BQ ?_ ?_
 ·rw[aP0];intro o ho
  have:=aMf.1 hl o ho
  simpa using this
 ·obtain⟨n,ts',H',l,h1,h2⟩:=dW.pz (aR:=H.length) hl h;exact⟨n,ts',H',l,h1,by rw[hp];rfl,h2⟩
section
variable{E:Env}{ops rest:List Oper}{ts:List AV}{H:Hp}{q:List AV->Hp->Prop}{d t:Nat}{p:String}{af:Array Edge}
def alW{f:Nat}{args:Array Operand}{ats:Array Nat}{al:List AV}{r:AV}(ha:kr ts args.toList=some al)(hz:aV al=true)(hc:kC E f al r)(h:dW E ops rest (ts.set d r) H q):
  dW E ops (⟨some d,.call {callee:=.value (.func f),args:=args,argTypes:=ats},t,p,af,none⟩::rest) ts H q:=by
 rw[Ld];simp only[lA,ha];refine⟨al,[],r,?_,hc,?_⟩
 ·unfold bX;simp[hz]
 ·have:∀(e:cF),e=(if bQ r=true then cF.looks []else cF.marks [])->e.app H=H:=by
   intro e he;subst he;split<;>rfl
  rw[this _ rfl];exact h
def Rg{t1:Nat}{ps:Array (Nat×Operand)}{pl:Nat->Option (Nat×Nat)}{z cs:List AV}{vs:List (Nat×AV)}(hp:fB E t1=some pl)(hz:(E.ty t1).bind (·.zero)=some z)(he:sJ ts ps.toList=some vs)(hf:fP pl z vs=some cs):
  dW E ops (⟨some d,.build t1 ps,t,p,af,none⟩::rest) ts H q=dW E ops rest (ts.set d (.agg cs)) H q:=by
 rw[nE rfl (by intro c h;cases h)];simp only[bV,bE,dH,hp,hz,he,hf,if_true,aMi,bA];rfl
end
def Ch{E:Env}{f:Nat}{fi:FnI}{args:List AV}{G:AV->Prop}(kh:E.ov f args=none)(fC:E.fn f=some fi)(hp:fi.pure=true)
  (h:Cv E fi.code (args++aLu (fi.ntmps-args.length) bT) [] fun ex ts H=>(∀id,ex≠ .exit id)/\∃rs r bs,fL H E ts fi.results=some rs/\bX H [gV rs]=some ([r],bs)/\G r):∃r,kC E f args r/\G r:=by
 obtain⟨n,ex,ts,H,h1,h2,rs,r,bs,h3,h4,h5⟩:=h;refine⟨r,⟨fun fi' h'=>(by rw[fC]at h';cases h';exact hp),n,?_⟩,h5⟩;unfold call jF;simp only[kh,fC,hp,Bool.true_or,Bool.not_true,aLT,if_false,h1];cases ex with
 |exit id=>exact absurd rfl (h2 id)
 |normal=>simp only[h3,h4]
 |ret=>simp only[h3,h4]
def Jg{H:Hp}{v:AV}(h:aU v=true):bX H [v]=some ([v],[]):=by unfold bX;simp[aV,h]
def quiet(o:Oper):Bool:=match o.op with
 |.move _|.assign _|.pick .. |.load .. |.binOp .. |.unOp .. |.fieldAddr .. |.field .. |.indexAddr .. |.extract .. |.build .. =>true
 |.call c=>(match c.callee with|.value _=>true|_=>false)
 |_=>false
def calm:cF->Bool
 |.bJ []|.looks _|.marks _|.Ep _=>true
 |_=>false
def xe{E:Env}{ts:List AV}{o:Oper}{e:cF}(h:calm e=true):(bH E ts o e).2=[]:=by
 unfold bH
 split
 ·rfl
 ·cases e with
  |bJ l=>cases l with
   |nil=>rfl
   |cons a l=>cases h
  |_=>rfl
def KA{x:Option AV}{v:AV}{e:cF}(h:(x.map fun x=>(x,cF.bJ []))=some (v,e)):calm e=true:=by
 cases x with
 |none=>cases h
 |some x=>simp only[aMi,aLS.injEq,Prod.mk.injEq]at h;rw[<-h.2];rfl
def OA{E:Env}{ops:List Oper}{aR:Nat}{o:Oper}{ts ts1:List AV}{H:Hp}{e:cF}(hq:quiet o=true)(hc:lG o=false)(h:bV E KG vS vS false ops aR o ts H=some (ts1,e)):calm e=true:=by
 unfold bV at h;split at h
 ·split at h
  ·rename_i v e' ho;simp only[aLS.injEq,Prod.mk.injEq]at h;obtain⟨_,rfl⟩:=h;obtain⟨d,op,t,p,af,g⟩:=o;cases op<;>simp only[quiet,aLT]at hq<;>simp only[dH]at ho
   all_goals first
    |exact KA ho
    |(repeat' split at ho)<;>first|exact KA ho|(cases ho;done)|skip
   all_goals (simp[lG]at hc)
   all_goals (split at hq<;>simp_all)
  ·cases h
 ·simp only[aLS.injEq,Prod.mk.injEq]at h;rw[<-h.2];rfl
def dD.aqp{E:Env}{ops rest:List Oper}{aR:Nat}{ts:List AV}{H:Hp}{Q:List AV->Hp->List (List Nat×List Nat)->Prop}{d:Option Nat}{t:Nat}{p:String}{af:Array Edge}{g:Option (Nat×Bool)}{fo:Operand}{args:Array Operand}{ats:Array Nat}{f:Nat}{first cap al sV:List AV}{bs:List Nat}{r:AV}
  (hw:bE ops ts ⟨d,.call {callee:=.value fo,args:=args,argTypes:=ats},t,p,af,g⟩=true)
  (hf:bU ts fo=some (.func f first cap)) (ha:kr ts args.toList=some al) (hz:bX H (first++al++cap)=some (sV,bs)) (hc:kC E f sV r)
  (h:dD E ops rest aR (bA d r ts) ((if bQ r then cF.looks bs else cF.marks bs).app H) fun ts' H' l=>∀x,x.2=[]->Q ts' H' (x::l)):
  dD E ops (⟨d,.call {callee:=.value fo,args:=args,argTypes:=ats},t,p,af,g⟩::rest) aR ts H Q:=by
 obtain⟨n,ts',H',l,k1,k2⟩:=h;obtain⟨hp,m,hm⟩:=hc;have l1:=cY (E:=E) (aOt n m);refine⟨max n m,ts',H',bH E ts ⟨d,.call {callee:=.value fo,args:=args,argTypes:=ats},t,p,af,g⟩ (if bQ r then cF.looks bs else cF.marks bs)::l,?_,k2 _ (xe (by split<;>rfl))⟩;unfold pz;have h1:jF E (bS E (max n m)) f sV=some r:=ll (aOs n m) _ _ _ hm;rw[show bW E ⟨d,.call {callee:=.value fo,args:=args,argTypes:=ats},t,p,af,g⟩=false from rfl];simp only[Bool.false_and,aLT,if_false];have dx:bV E (jF E (bS E (max n m))) (kQ E (bS E (max n m))) (lL (bS E (max n m))) true ops aR ⟨d,.call {callee:=.value fo,args:=args,argTypes:=ats},t,p,af,g⟩ ts H=some (bA d r ts,if bQ r then cF.looks bs else cF.marks bs):=by
  rw[oP hw];cases fC:E.fn f with
  |none=>simp only[bV,bE,dH,hf,ha,ke,fC,hz,h1,if_true,aMi]
  |some fi=>
   obtain⟨code,ntmps,results,pu,du⟩:=fi
   have:=hp _ fC
   simp only at this;subst this;simp only[bV,bE,dH,hf,ha,ke,fC,hz,h1,if_true,aMi]
 rw[dx];simp only[uO (lK l1) (jW l1) (jX l1) k1]
def QL(rest:List Oper)(l:List (List Nat×List Nat)):Prop:=∀(j:Nat) (o:Oper) (t:List Nat×List Nat),rest[j]?=some o->l[j]?=some t->quiet o=true->t.2=[]
def QL.cons{o:Oper}{rest:List Oper}{x:List Nat×List Nat}{l:List (List Nat×List Nat)}(h:QL rest l)(hx:quiet o=true->x.2=[]):QL (o::rest) (x::l):=by
 intro j o' t h1 h2 hq;cases j with
 |zero=>
  simp only[List.getElem?_cons_zero,aLS.injEq]at h1 h2;subst h1;subst h2
  exact hx hq
 |succ j=>exact h j o' t (by simpa using h1) (by simpa using h2) hq
def dW.aeg{E:Env}{ops:List Oper}{q:List AV->Hp->Prop}{aR:Nat}:∀{rest:List Oper} {ts:List AV} {H:Hp},rest.all (fun o=>!bW E o)=true->dW E ops rest ts H q->dD E ops rest aR ts H fun ts' H' l=>q ts' H'/\QL rest l
 |[],ts,H,_,h=>dD.nil ⟨h,by intro j o t h1;simp at h1⟩
 |o::rest,ts,H,hl,h=>by
  simp only[aPZ,aM6,aMb]at hl;have tM:rest.all (fun o=>!bW E o)=true:=by simpa using hl.2
  unfold dW rX at h;by_cases hw:bE ops ts o=true
  ·rw[if_pos hw]at h;unfold IB at h;split at h
   ·rename_i fo args ats h1;obtain⟨d,op,t,p,af,g⟩:=o;simp only at h1;subst h1;split at h
    ·rename_i f first cap al e1 e2
     obtain⟨sV,bs,r,g1,g2,g3⟩:=h;refine dD.aqp hw e1 e2 g1 g2 ?_;obtain⟨n,ts',H',l,k1,k2,k3⟩:=dW.aeg (aR:=aR) tM g3;exact⟨n,ts',H',l,k1,fun x hx=>⟨k2,k3.cons fun _=>hx⟩⟩
    ·exact h.elim
   ·rename_i hnc;have hc:lG o=false:=by
     unfold lG
     split
     ·rename_i c SB
      split
      ·rename_i f mQ;obtain⟨callee,args,ats⟩:=c;simp only at mQ;subst mQ;exact absurd SB (hnc f args ats)
      ·rfl
     ·rfl
    split at h
    ·rename_i ts1 e dx;rw[<-oP hw]at dx;have atL:=dx;rw[Gr (dr':=true) (nid':=aR) hl.1 hc]at atL;refine dD.step hl.1 atL ?_;obtain⟨n,ts',H',l,k1,k2,k3⟩:=dW.aeg (aR:=aR) tM h;exact⟨n,ts',H',l,k1,k2,k3.cons fun hq=>xe (OA hq hc dx)⟩
    ·exact h.elim
  ·rw[if_neg hw]at h;refine dD.step hl.1 (qS hw) ?_;obtain⟨n,ts',H',l,k1,k2,k3⟩:=dW.aeg (aR:=aR) tM h;exact⟨n,ts',H',l,k1,k2,k3.cons fun _=>xe rfl⟩
def quietAt(ops:List Oper)(i:Nat):Bool:=match ops[i]? with
 |some o=>quiet o
 |none=>false
def Cv.al1{E:Env}{id:Nat}{ops:Array Oper}{ts:List AV}{H:Hp}{Q:Ex->List AV->Hp->Prop}(hl:ops.toList.all (fun o=>!bW E o)=true)(hp:(E.pairs id ops.toList.length).all (fun p=>quietAt ops.toList p.1&&quietAt ops.toList p.2)=true)
  (h:dW E ops.toList ops.toList ts H (Q .normal)):Cv E (.region id ops true) ts H Q:=by
 refine Cv.BQ ?_ ?_
 ·rw[aP0];intro o ho
  have:=aMf.1 hl o ho
  simpa using this
 ·obtain⟨n,ts',H',l,h1,h2,h3⟩:=dW.aeg (aR:=H.length) hl h;refine⟨n,ts',H',l,h1,?_,h2⟩;rw[aMf]at hp⊢;intro p hpm
  have:=hp p hpm
  simp only[aM6]at this;unfold rJ;have q:∀i x,quietAt ops.toList i=true->l[i]?=some x->x.2=[]:=by
   intro i x hq hx;unfold quietAt at hq;cases ho:ops.toList[i]? with
   |none=>rw[ho]at hq;cases hq
   |some o=>rw[ho]at hq;exact h3 i o x ho hx hq
  cases e1:l[p.1]? with
  |none=>rfl
  |some x=>
   cases e2:l[p.2]? with
   |none=>rfl
   |some y=>
    obtain⟨r1,w1⟩:=x;obtain⟨r2,w2⟩:=y;have a:=q _ _ this.1 e1;have b:=q _ _ this.2 e2;simp only at a b;subst a;subst b
    simp[wC]
end Dv
namespace Dv
open Classical in
def aP(E:Env)(f:Nat)(al:List AV):Option AV:=if h:∃r,kC E f al r then some h.choose else none
open Go Go.RowKit
def kC.uniq{E:Env}{f:Nat}{al:List AV}{r s:AV}(h:kC E f al r)(k:kC E f al s):r=s:=by obtain⟨_,m,hm⟩:=h;obtain⟨_,n,hn⟩:=k;have a:=ll (E:=E) (aOt m n) _ _ _ hm;have b:=ll (E:=E) (aOs m n) _ _ _ hn;rw[a]at b;exact aLS.inj b
def dB{E:Env}{f:Nat}{al:List AV}{r:AV}(h:kC E f al r):aP E f al=some r:=by have hx:∃r,kC E f al r:=⟨r,h⟩;unfold aP;rw[dif_pos hx,hx.choose_spec.uniq h]
def wF{E:Env}{f:Nat}{al:List AV}{r:AV}(h:aP E f al=some r):kC E f al r:=by
 unfold aP at h;split at h
 ·rename_i hx
  have:=aLS.inj h
  exact this▸hx.choose_spec
 ·cases h
def Ek(x:Option (AV×cF))(k:AV->cF->Prop):Prop:=match x with
 |some (v,e)=>k v e
 |none=>False
def zp{v:AV}{e:cF}{k:AV->cF->Prop}:Ek (some (v,e)) k=k v e:=rfl
@[congr] theorem ahB {a b:Option (AV×cF)} {k:AV->cF->Prop} (h:a=b):Ek a k=Ek b k:=by rw[h]
def nM(x:Option (List AV))(k:List AV->Prop):Prop:=match x with
 |some l=>k l
 |none=>False
def bR{l:List AV}{k:List AV->Prop}:nM (some l) k=k l:=rfl
@[congr] theorem ahy {a b:Option (List AV)} {k:List AV->Prop} (h:a=b):nM a k=nM b k:=by rw[h]
def zq(x:Option (List (Nat×AV)))(k:List (Nat×AV)->Prop):Prop:=match x with
 |some l=>k l
 |none=>False
def fM{l:List (Nat×AV)}{k:List (Nat×AV)->Prop}:zq (some l) k=k l:=rfl
@[congr] theorem ahJ {a b:Option (List (Nat×AV))} {k:List (Nat×AV)->Prop} (h:a=b):zq a k=zq b k:=by rw[h]
def xH(x:Option (List AV×List Nat))(k:List AV->List Nat->Prop):Prop:=match x with
 |some (v,e)=>k v e
 |none=>False
def dd{v:List AV}{e:List Nat}{k:List AV->List Nat->Prop}:xH (some (v,e)) k=k v e:=rfl
@[congr] theorem ahC {a b:Option (List AV×List Nat)} {k:List AV->List Nat->Prop} (h:a=b):xH a k=xH b k:=by rw[h]
def RF(fv:AV)(al:List AV)(k:Nat->List AV->Prop):Prop:=match fv with
 |.func f first cap=>k f (first++al++cap)
 |_=>False
def k9{f:Nat}{al:List AV}{k:Nat->List AV->Prop}:RF (.func f [] []) al k=k f al:=by simp[RF]
def RG{f:Nat}{a c al:List AV}{k:Nat->List AV->Prop}:RF (.func f a c) al k=k f (a++al++c):=rfl
@[congr] theorem ahA {a b:AV} {al bl:List AV} {k:Nat->List AV->Prop} (h:a=b) (h2:al=bl):RF a al k=RF b bl k:=by rw[h,h2]
def PN(x:Option AV)(l:Option (List AV)):Option (List AV):=match x,l with
 |some v,some vs=>some (v::vs)
 |_,_=>none
def cG{v:AV}{l:List AV}:PN (some v) (some l)=some (v::l):=rfl
def gA{ts:List AV}{x:Operand}{xs:List Operand}:kr ts (x::xs)=PN (bU ts x) (kr ts xs):=by
 rw[kr];cases bU ts x<;>cases kr ts xs<;>rfl
def af2(i:Nat)(x:Option AV)(l:Option (List (Nat×AV))):Option (List (Nat×AV)):=match x,l with
 |some v,some vs=>some ((i,v)::vs)
 |_,_=>none
def kM{i:Nat}{v:AV}{l:List (Nat×AV)}:af2 i (some v) (some l)=some ((i,v)::l):=rfl
def CB{ts:List AV}:sJ ts []=some []:=rfl
def CA{ts:List AV}{i:Nat}{x:Operand}{xs:List (Nat×Operand)}:sJ ts ((i,x)::xs)=af2 i (bU ts x) (sJ ts xs):=by
 rw[sJ];cases bU ts x<;>cases sJ ts xs<;>rfl
def wc(c a b:Option AV):Option AV:=match c with
 |some (.bool t)=>if t then a else b
 |_=>none
def Rd{a b:Option AV}:wc (some (.bool true)) a b=a:=rfl
def Rc{a b:Option AV}:wc (some (.bool false)) a b=b:=rfl
def eN(E:Env)(t:Nat)(vs:List (Nat×AV)):Option AV:=match fB E t,(E.ty t).bind (·.zero)with
 |some pl,some z=>(fP pl z vs).map .agg
 |_,_=>none
def sI(b:Bool)(H:Hp)(al:List AV):Option (List AV×List Nat):=if b then some (al,[])else bX H al
def fF{H:Hp}{al:List AV}:bX H al=sI (aV al) H al:=by
 unfold sI;cases h:aV al
 ·rfl
 ·rw[bX,h];rfl
def mH{H:Hp}{al:List AV}:sI true H al=some (al,[]):=rfl
section
variable{E:Env}{ops rest:List Oper}{ts:List AV}{H:Hp}{q:List AV->Hp->Prop}{d:Option Nat}{t:Nat}{p:String}{af:Array Edge}
def nK{o:Oper}(hg:o.guard=none)(hc:∀c,o.op=.call c->∀f,c.callee≠ .value f):dW E ops (o::rest) ts H q=Ek (dH E KG vS vS false ts H H.length o) fun v e=>dW E ops rest (bA o.dst v ts) (e.app H) q:=by
 rw[nE hg hc];unfold bV;rw[if_pos (show bE ops ts o=true by unfold bE;rw[hg])];cases dH E KG vS vS false ts H H.length o with
 |none=>rfl
 |some x=>rfl
def nO{H:Hp}:(cF.bJ []).app H=H:=rfl
def uA{H:Hp}{l:List Nat}:(cF.looks l).app H=H:=rfl
def sY{H:Hp}{b:Bool}:(if b=true then cF.looks []else cF.marks []).app H=H:=by cases b<;>rfl
def Vc{H:Hp}{x:cE}:(cF.bJ [(H.length,x)]).app H=H++[x]:=by
 show cO H H.length x=_
 unfold cO;rw[if_neg (by omega)]
def eO{x:Operand}:dW E ops (⟨d,.move x,t,p,af,none⟩::rest) ts H q=b9 (bU ts x) fun v=>dW E ops rest (bA d v ts) H q:=by
 rw[nK rfl (by intro c h;cases h)];show Ek ((bU ts x).map _) _=_
 cases bU ts x<;>rfl
def cU{x:Operand}:dW E ops (⟨d,.assign x,t,p,af,none⟩::rest) ts H q=b9 (bU ts x) fun v=>dW E ops rest (bA d v ts) H q:=by
 rw[nK rfl (by intro c h;cases h)];show Ek ((bU ts x).map _) _=_
 cases bU ts x<;>rfl
def W9{c a b:Operand}:dW E ops (⟨d,.pick c a b,t,p,af,none⟩::rest) ts H q=b9 (wc (bU ts c) (bU ts a) (bU ts b)) fun v=>dW E ops rest (bA d v ts) H q:=by
 rw[nK rfl (by intro c h;cases h)];simp only[dH,wc];cases hc:bU ts c with
 |none=>rfl
 |some v=>
  cases v<;>try rfl
  rename_i z;cases z
  ·simp only[aLT,if_false];cases bU ts b<;>rfl
  ·simp only[if_true];cases bU ts a<;>rfl
def mD{t1:Nat}:dW E ops (⟨d,.alloc t1,t,p,af,none⟩::rest) ts H q=b9 (ek E t1) fun z=>dW E ops rest (bA d (.bK H.length 0) ts) (H++[.cells .live z.cells]) q:=by
 rw[nK rfl (by intro c h;cases h)];simp only[dH];cases ek E t1 with
 |none=>rfl
 |some z=>simp only[aMi,zp,aT,Vc]
def Az{t1:Nat}{x:Operand}:dW E ops (⟨d,.box t1 x,t,p,af,none⟩::rest) ts H q=b9 (bU ts x) fun z=>dW E ops rest (bA d (.bK H.length 0) ts) (H++[.cells .live z.cells]) q:=by
 rw[nK rfl (by intro c h;cases h)];simp only[dH];cases bU ts x with
 |none=>rfl
 |some z=>simp only[aMi,zp,aT,Vc]
def fU{t1:Nat}{x:Operand}:dW E ops (⟨d,.load t1 x,t,p,af,none⟩::rest) ts H q=b9 (bU ts x) fun a=>b9 (dU E H t1 a) fun v=>dW E ops rest (bA d v ts) H q:=by
 rw[nK rfl (by intro c h;cases h)];simp only[dH];cases bU ts x with
 |none=>rfl
 |some a=>simp only[aT];cases dU E H t1 a<;>rfl
def eQ{t1:Nat}{x y:Operand}:dW E ops (⟨none,.store t1 x y,t,p,af,none⟩::rest) ts H q=b9 (bU ts x) fun a=>b9 (bU ts y) fun v=>A6 (fh E H t1 a v) fun l=>dW E ops rest ts ((cF.bJ l).app H) q:=by
 rw[nK rfl (by intro c h;cases h)];simp only[dH];cases bU ts x with
 |none=>rfl
 |some a=>
  cases bU ts y with
  |none=>rfl
  |some v=>simp only[aT];cases fh E H t1 a v<;>rfl
def fQ{op:BinOp}{t1 t2:Nat}{x y:Operand}:dW E ops (⟨d,.binOp op t1 x y t2,t,p,af,none⟩::rest) ts H q=b9 (bU ts x) fun a=>b9 (bU ts y) fun b=>b9 (cp E (bC x||bC y) op t1 a b) fun v=>dW E ops rest (bA d v ts) H q:=by
 rw[nK rfl (by intro c h;cases h)];simp only[dH];cases bU ts x with
 |none=>rfl
 |some a=>
  cases bU ts y with
  |none=>rfl
  |some b=>simp only[aT];cases cp E (bC x||bC y) op t1 a b<;>rfl
def Sj{op:UnOp}{t1:Nat}{x:Operand}:dW E ops (⟨d,.unOp op t1 x,t,p,af,none⟩::rest) ts H q=b9 (bU ts x) fun a=>b9 (T1 op a) fun v=>dW E ops rest (bA d v ts) H q:=by
 rw[nK rfl (by intro c h;cases h)];simp only[dH];cases bU ts x with
 |none=>rfl
 |some a=>simp only[aT];cases T1 op a<;>rfl
def CS{t1 f:Nat}{x:Operand}:dW E ops (⟨d,.fieldAddr t1 x f,t,p,af,none⟩::rest) ts H q=b9 (bU ts x) fun a=>b9 (cQ E t1 a f) fun v=>dW E ops rest (bA d v ts) H q:=by
 rw[nK rfl (by intro c h;cases h)];simp only[dH];cases bU ts x with
 |none=>rfl
 |some a=>simp only[aT];cases cQ E t1 a f<;>rfl
def tG{t1:Nat}{x y:Operand}:dW E ops (⟨d,.indexAddr t1 x y,t,p,af,none⟩::rest) ts H q=b9 (bU ts x) fun a=>b9 (bU ts y) fun b=>b9 (cd E t1 a b) fun v=>dW E ops rest (bA d v ts) H q:=by
 rw[nK rfl (by intro c h;cases h)];simp only[dH];cases bU ts x with
 |none=>rfl
 |some a=>
  cases bU ts y with
  |none=>rfl
  |some b=>simp only[aT];cases cd E t1 a b<;>rfl
def nth(v:AV)(i:Nat):Option AV:=match v with
 |.tuple vs=>vs[i]?
 |_=>none
def Tg{vs:List AV}{i:Nat}:nth (.tuple vs) i=vs[i]?:=rfl
def Qf{t1:Nat}{ps:Array (Nat×Operand)}:dW E ops (⟨d,.build t1 ps,t,p,af,none⟩::rest) ts H q=zq (sJ ts ps.toList) fun vs=>b9 (eN E t1 vs) fun v=>dW E ops rest (bA d v ts) H q:=by
 rw[nK rfl (by intro c h;cases h)];simp only[dH,eN];cases sJ ts ps.toList with
 |none=>cases fB E t1<;>cases (E.ty t1).bind (·.zero)<;>rfl
 |some vs=>
  cases fB E t1 with
  |none=>rfl
  |some pl=>
   cases (E.ty t1).bind (·.zero)with
   |none=>rfl
   |some z=>simp only[fM];cases fP pl z vs<;>rfl
def mO{t1:Nat}{x y:Operand}:dW E ops (⟨d,.makeSlice t1 x y,t,p,af,none⟩::rest) ts H q=b9 (bU ts x) fun a=>b9 (bU ts y) fun b=>qZ (fp E H.length t1 a b) fun r=>dW E ops rest (bA d r.1 ts) ((cF.bJ r.2).app H) q:=by
 rw[nK rfl (by intro c h;cases h)];simp only[dH];cases bU ts x with
 |none=>rfl
 |some a=>
  cases bU ts y with
  |none=>rfl
  |some b=>simp only[aT];cases fp E H.length t1 a b<;>rfl
def dP{bi:Builtin}{args:Array Operand}{ats:Array Nat}:dW E ops (⟨d,.call {callee:=.builtin bi,args:=args,argTypes:=ats},t,p,af,none⟩::rest) ts H q=
  nM (kr ts args.toList) fun al=>qZ (bM E H H.length bi ats.toList al) fun r=>dW E ops rest (bA d r.1 ts) ((cF.bJ r.2).app H) q:=by
 rw[nK rfl (by intro c h f hf;cases h;cases hf)];simp only[dH];cases kr ts args.toList with
 |none=>rfl
 |some al=>simp only[bR];cases bM E H H.length bi ats.toList al<;>rfl
def oz{x:Operand}{args:Array Operand}{ats:Array Nat}:dW E ops (⟨d,.call {callee:=.value x,args:=args,argTypes:=ats},t,p,af,none⟩::rest) ts H q=
  b9 (bU ts x) fun fv=>nM (kr ts args.toList) fun al=>RF fv al fun f bl=>xH (bX H bl) fun cl bs=>b9 (aP E f cl) fun r=>dW E ops rest (bA d r ts) ((if bQ r=true then cF.looks bs else cF.marks bs).app H) q:=by
 rw[Ld];cases bU ts x with
 |none=>rfl
 |some fv=>
  cases kr ts args.toList with
  |none=>cases fv<;>rfl
  |some al=>
   cases fv<;>try rfl
   rename_i f a c;simp only[aT,bR,RG];apply propext;constructor
   ·rintro⟨sV,bs,r,h1,h2,h3⟩;rw[h1,dd,dB h2,aT];exact h3
   ·intro h;cases hz:bX H (a++al++c)with
    |none=>rw[hz]at h;exact h.elim
    |some y=>
     obtain⟨cl,bs⟩:=y;rw[hz,dd]at h;cases hr:aP E f cl with
     |none=>rw[hr]at h;exact h.elim
     |some r=>rw[hr,aT]at h;exact⟨cl,bs,r,rfl,wF hr,h⟩
end
def sS(k:List AV->Hp->Prop)(Q:Ex->List AV->Hp->Prop)(ex:Ex)(ts:List AV)(H:Hp):Prop:=match ex with
 |.normal=>k ts H
 |e=>Q e ts H
def lX(id:Nat)(Q:Ex->List AV->Hp->Prop)(ex:Ex)(ts:List AV)(H:Hp):Prop:=match ex with
 |.exit j=>if j=id then Q .normal ts H else Q (.exit j) ts H
 |e=>Q e ts H
def xD(v:AV)(a b:Prop):Prop:=match v with
 |.bool t=>if t=true then a else b
 |_=>False
def dE{t:Bool}{a b:Prop}:xD (.bool t) a b=if t=true then a else b:=rfl
@[congr] theorem afA {u v:AV} {a b:Prop} (h:u=v):xD u a b=xD v a b:=by rw[h]
def Bx(E:Env)(id:Nat)(ops:List Oper):Prop:=ops.all (fun o=>!bW E o)=true/\(E.pairs id ops.length).all (fun p=>quietAt ops p.1&&quietAt ops p.2)=true
@[congr] theorem aaH {E:Env} {id:Nat} {ops:List Oper}:Bx E id ops=Bx E id ops:=rfl
def W(E:Env):Code->List AV->Hp->(Ex->List AV->Hp->Prop)->Prop
 |.skip,ts,H,Q=>Q .normal ts H
 |.exit id,ts,H,Q=>Q (.exit id) ts H
 |.ret,ts,H,Q=>Q .ret ts H
 |.seq a b,ts,H,Q=>W E a ts H (sS (fun ts H=>W E b ts H Q) Q)
 |.block id a,ts,H,Q=>W E a ts H (lX id Q)
 |.cond c a b,ts,H,Q=>b9 (bU ts c) fun v=>xD v (W E a ts H Q) (W E b ts H Q)
 |.region id ops false,ts,H,Q=>dW E ops.toList ops.toList ts H (Q .normal)
 |.region id ops true,ts,H,Q=>Bx E id ops.toList/\dW E ops.toList ops.toList ts H (Q .normal)
 |c,ts,H,Q=>Cv E c ts H Q
def W.cv{E:Env}:∀{c:Code} {ts:List AV} {H:Hp} {Q:Ex->List AV->Hp->Prop},W E c ts H Q->Cv E c ts H Q
 |.skip,_,_,_,h=>Cv.skip h
 |.exit _,_,_,_,h=>Cv.exit h
 |.ret,_,_,_,h=>Cv.ret h
 |.seq a b,ts,H,Q,h=>by
  refine Cv.seq ?_
  have:=W.cv (c:=a) h
  refine this.mono ?_;intro ex ts' H' k;cases ex with
  |normal=>exact W.cv (c:=b) k
  |ret=>exact k
  |exit id=>exact k
 |.block id a,ts,H,Q,h=>by
  refine Cv.block ?_;refine(W.cv (c:=a) h).mono ?_;intro ex ts' H' k;cases ex<;>exact k
 |.cond c a b,ts,H,Q,h=>by
  unfold W at h;cases hc:bU ts c with
  |none=>rw[hc]at h;exact h.elim
  |some v=>
   rw[hc,aT]at h;cases v<;>try exact h.elim
   rename_i z;refine Cv.cond hc ?_;rw[dE]at h;cases z
   ·simp only[aLT,if_false]at h⊢;exact W.cv h
   ·simp only[if_true]at h⊢;exact W.cv h
 |.region id ops false,_,_,_,h=>Cv.run h
 |.region id ops true,_,_,_,h=>Cv.al1 h.1.1 h.1.2 h.2
 |.loop _,_,_,_,h=>h
 |.label _,_,_,_,h=>h
 |.scope _,_,_,_,h=>h
 |.rangeFunc ..,_,_,_,h=>h
 |.goto _,_,_,_,h=>h
 |.refuse _,_,_,_,h=>h
section
variable{E:Env}{ts:List AV}{H:Hp}{Q:Ex->List AV->Hp->Prop}
def eZ:W E .skip ts H Q=Q .normal ts H:=rfl
def jI{id:Nat}:W E (.exit id) ts H Q=Q (.exit id) ts H:=rfl
def nH:W E .ret ts H Q=Q .ret ts H:=rfl
def fu{a b:Code}:W E (.seq a b) ts H Q=W E a ts H (sS (fun ts H=>W E b ts H Q) Q):=rfl
def eo{id:Nat}{a:Code}:W E (.block id a) ts H Q=W E a ts H (lX id Q):=rfl
def eY{c:Operand}{a b:Code}:W E (.cond c a b) ts H Q=b9 (bU ts c) fun v=>xD v (W E a ts H Q) (W E b ts H Q):=rfl
def cP{id:Nat}{ops:Array Oper}:W E (.region id ops false) ts H Q=dW E ops.toList ops.toList ts H (Q .normal):=rfl
def zt{id:Nat}{ops:Array Oper}:W E (.region id ops true) ts H Q=(Bx E id ops.toList/\dW E ops.toList ops.toList ts H (Q .normal)):=rfl
def sT{b:Code}:W E (.loop b) ts H Q=Cv E (.loop b) ts H Q:=rfl
@[congr] theorem awj {c:Code} {ts ts':List AV} {H H':Hp} (h1:ts=ts') (h2:H=H'):W E c ts H Q=W E c ts' H' Q:=by rw[h1,h2]
@[congr] theorem ahK {k:List AV->Hp->Prop} {ex ex':Ex} {ts ts':List AV} {H H':Hp} (h:ex=ex') (h1:ts=ts') (h2:H=H'):sS k Q ex ts H=sS k Q ex' ts' H':=by rw[h,h1,h2]
@[congr] theorem aa4 {id:Nat} {ex ex':Ex} {ts ts':List AV} {H H':Hp} (h:ex=ex') (h1:ts=ts') (h2:H=H'):lX id Q ex ts H=lX id Q ex' ts' H':=by rw[h,h1,h2]
def dX{k:List AV->Hp->Prop}:sS k Q .normal ts H=k ts H:=rfl
def BZ{k:List AV->Hp->Prop}:sS k Q .ret ts H=Q .ret ts H:=rfl
def jG{k:List AV->Hp->Prop}{id:Nat}:sS k Q (.exit id) ts H=Q (.exit id) ts H:=rfl
def fj{id:Nat}:lX id Q .normal ts H=Q .normal ts H:=rfl
def sO{id:Nat}:lX id Q .ret ts H=Q .ret ts H:=rfl
def fD{id j:Nat}:lX id Q (.exit j) ts H=if j=id then Q .normal ts H else Q (.exit j) ts H:=rfl
end
def lZ(E:Env)(results:List ResultVar)(G:AV->Prop)(ex:Ex)(ts:List AV)(H:Hp):Prop:=match ex with
 |.exit _=>False
 |_=>nM (fL H E ts results) fun rs=>xH (bX H [gV rs]) fun rl bs=>∃r,rl=[r]/\G r
def jf{E:Env}{results:List ResultVar}{G:AV->Prop}{ts:List AV}{H:Hp}:lZ E results G .ret ts H=nM (fL H E ts results) fun rs=>xH (bX H [gV rs]) fun rl bs=>∃r,rl=[r]/\G r:=rfl
def UU{E:Env}{results:List ResultVar}{G:AV->Prop}{ts:List AV}{H:Hp}:lZ E results G .normal ts H=nM (fL H E ts results) fun rs=>xH (bX H [gV rs]) fun rl bs=>∃r,rl=[r]/\G r:=rfl
def jx{G:AV->Prop}{v:AV}:(∃r,[v]=[r]/\G r)=G v:=by
 apply propext;constructor
 ·rintro⟨r,h,g⟩;cases h;exact g
 ·intro g;exact⟨v,rfl,g⟩
@[congr] theorem ahw {E:Env} {results:List ResultVar} {G:AV->Prop} {ex:Ex} {ts ts':List AV} {H H':Hp} (h1:ts=ts') (h2:H=H'):lZ E results G ex ts H=lZ E results G ex ts' H':=by rw[h1,h2]
def gK{E:Env}{ts:List AV}{H:Hp}:fL H E ts []=some []:=rfl
def rO{E:Env}{ts:List AV}{H:Hp}{i:Nat}{rs:List ResultVar}:fL H E ts (.tmp i::rs)=PN (some (gt ts i)) (fL H E ts rs):=by
 rw[fL];cases fL H E ts rs<;>rfl
def jN{E:Env}{ts:List AV}{H:Hp}{a t:Nat}{rs:List ResultVar}:fL H E ts (.cell a t::rs)=PN (dU E H t (gt ts a)) (fL H E ts rs):=by
 rw[fL];show(match dU E H t (gt ts a),fL H E ts rs with|some v,some vs=>some (v::vs)|_,_=>none)=_
 cases dU E H t (gt ts a)<;>cases fL H E ts rs<;>rfl
def tY{v:AV}:gV [v]=v:=rfl
def auX{u v:AV}:gV [u,v]=.tuple [u,v]:=rfl
def auY{u v w:AV}:gV [u,v,w]=.tuple [u,v,w]:=rfl
def WV{E:Env}{f:Nat}{code:Code}{nt:Nat}{results:List ResultVar}{pu du:Bool}{args:List AV}{G:AV->Prop}(kh:E.ov f args=none)(fC:E.fn f=some {code:=code,ntmps:=nt,results:=results,pure:=pu,eD:=du})(hp:pu=true)
  (h:W E code (args++aLu (nt-args.length) bT) [] (lZ E results G)):∃r,aP E f args=some r/\G r:=by
 have:∃r,kC E f args r/\G r:=by
  refine Ch kh fC hp ((W.cv h).mono ?_);intro ex ts H k;cases ex with
  |exit id=>exact k.elim
  |normal=>
   rw[UU]at k;refine⟨fun id h=>(by cases h),?_⟩;show∃rs r bs,fL H E ts results=some rs/\_
   cases h1:fL H E ts results with
   |none=>rw[h1]at k;exact k.elim
   |some rs=>
    rw[h1,bR]at k;cases h2:bX H [gV rs]with
    |none=>rw[h2]at k;exact k.elim
    |some y=>
     obtain⟨rl,bs⟩:=y;rw[h2,dd]at k;obtain⟨r,rfl,g⟩:=k;exact⟨rs,r,bs,rfl,h2,g⟩
  |ret=>
   rw[jf]at k;refine⟨fun id h=>(by cases h),?_⟩;show∃rs r bs,fL H E ts results=some rs/\_
   cases h1:fL H E ts results with
   |none=>rw[h1]at k;exact k.elim
   |some rs=>
    rw[h1,bR]at k;cases h2:bX H [gV rs]with
    |none=>rw[h2]at k;exact k.elim
    |some y=>
     obtain⟨rl,bs⟩:=y;rw[h2,dd]at k;obtain⟨r,rfl,g⟩:=k;exact⟨rs,r,bs,rfl,h2,g⟩
 obtain⟨r,h1,h2⟩:=this;exact⟨r,dB h1,h2⟩
def fn1{E:Env}{f:Nat}{code:Code}{nt:Nat}{results:List ResultVar}{pu du:Bool}{a:AV}{G:AV->Prop}(kh:E.ov f [a]=none)(fC:E.fn f=some {code:=code,ntmps:=nt,results:=results,pure:=pu,eD:=du})(hp:pu=true)(hn:1<=nt)
  (h:∀ts:List AV,ts.length=nt->gt ts 0=a->W E code ts [] (lZ E results G)):∃r,aP E f [a]=some r/\G r:=
 WV kh fC hp (h _ (by simp;omega) rfl)
def fn2{E:Env}{f:Nat}{code:Code}{nt:Nat}{results:List ResultVar}{pu du:Bool}{a b:AV}{G:AV->Prop}(kh:E.ov f [a,b]=none)(fC:E.fn f=some {code:=code,ntmps:=nt,results:=results,pure:=pu,eD:=du})(hp:pu=true)(hn:2<=nt)
  (h:∀ts:List AV,ts.length=nt->gt ts 0=a->gt ts 1=b->W E code ts [] (lZ E results G)):∃r,aP E f [a,b]=some r/\G r:=
 WV kh fC hp (h _ (by simp;omega) rfl rfl)
def fn3{E:Env}{f:Nat}{code:Code}{nt:Nat}{results:List ResultVar}{pu du:Bool}{a b c:AV}{G:AV->Prop}(kh:E.ov f [a,b,c]=none)(fC:E.fn f=some {code:=code,ntmps:=nt,results:=results,pure:=pu,eD:=du})(hp:pu=true)(hn:3<=nt)
  (h:∀ts:List AV,ts.length=nt->gt ts 0=a->gt ts 1=b->gt ts 2=c->W E code ts [] (lZ E results G)):∃r,aP E f [a,b,c]=some r/\G r:=
 WV kh fC hp (h _ (by simp;omega) rfl rfl rfl)
end Dv
namespace Dv
open Go Go.RowKit
def An(E:Env)(f:Nat)(al:List AV)(H:Hp)(r:AV)(H':Hp):Prop:=∃n,kQ E (bS E n) f al H=some (r,H')
def An.uniq{E:Env}{f:Nat}{al:List AV}{H:Hp}{r s:AV}{H1 H2:Hp}(h:An E f al H r H1)(k:An E f al H s H2):r=s/\H1=H2:=by
 obtain⟨m,hm⟩:=h;obtain⟨n,hn⟩:=k;have a:=jW (cY (E:=E) (aOt m n)) _ _ _ _ hm;have b:=jW (cY (E:=E) (aOs m n)) _ _ _ _ hn;rw[a]at b;simpa using b
open Classical in
def cV(E:Env)(f:Nat)(al:List AV)(H:Hp):Option (AV×Hp):=if h:∃x:AV×Hp,An E f al H x.1 x.2 then some h.choose else none
def zB{E:Env}{f:Nat}{al:List AV}{H H':Hp}{r:AV}(h:An E f al H r H'):cV E f al H=some (r,H'):=by
 have hx:∃x:AV×Hp,An E f al H x.1 x.2:=⟨(r,H'),h⟩;unfold cV;rw[dif_pos hx]
 have:=hx.choose_spec.uniq h
 rw[<-this.1,<-this.2]
def Mi{E:Env}{f:Nat}{al:List AV}{H H':Hp}{r:AV}(h:cV E f al H=some (r,H')):An E f al H r H':=by
 unfold cV at h;split at h
 ·rename_i hx
  have:=aLS.inj h
  have hs:=hx.choose_spec;rw[this]at hs;exact hs
 ·cases h
def xy(E:Env)(f:Nat)(al:List AV)(r:AV):Prop:=∃m,call E m f al=some r
def xy.uniq{E:Env}{f:Nat}{al:List AV}{r s:AV}(h:xy E f al r)(k:xy E f al s):r=s:=by obtain⟨m,hm⟩:=h;obtain⟨n,hn⟩:=k;have a:=ll (E:=E) (aOt m n) _ _ _ hm;have b:=ll (E:=E) (aOs m n) _ _ _ hn;rw[a]at b;exact aLS.inj b
open Classical in
def zC(E:Env)(f:Nat)(al:List AV):Option AV:=if h:∃r,xy E f al r then some h.choose else none
def R4{E:Env}{f:Nat}{al:List AV}{r:AV}(h:xy E f al r):zC E f al=some r:=by have hx:∃r,xy E f al r:=⟨r,h⟩;unfold zC;rw[dif_pos hx,hx.choose_spec.uniq h]
def Mj{E:Env}{f:Nat}{al:List AV}{r:AV}(h:zC E f al=some r):xy E f al r:=by
 unfold zC at h;split at h
 ·rename_i hx
  have:=aLS.inj h
  exact this▸hx.choose_spec
 ·cases h
def bF(E:Env)(f:Nat):Bool:=match E.fn f with
 |some {pure:=false,..}=>true
 |_=>false
def Fq(E:Env)(f:Nat):Bool:=match E.fn f with
 |some {eD:=d,..}=>d
 |_=>false
def xz(E:Env)(l:Nat)(al:List AV)(H:Hp)(r:AV)(H':Hp):Prop:=∃n,lL (bS E n) l al H=some (r,H')
def xz.uniq{E:Env}{l:Nat}{al:List AV}{H:Hp}{r s:AV}{H1 H2:Hp}(h:xz E l al H r H1)(k:xz E l al H s H2):r=s/\H1=H2:=by
 obtain⟨m,hm⟩:=h;obtain⟨n,hn⟩:=k;have a:=jX (cY (E:=E) (aOt m n)) _ _ _ _ hm;have b:=jX (cY (E:=E) (aOs m n)) _ _ _ _ hn;rw[a]at b;simpa using b
open Classical in
def nG(E:Env)(l:Nat)(al:List AV)(H:Hp):Option (AV×Hp):=if h:∃x:AV×Hp,xz E l al H x.1 x.2 then some h.choose else none
def vH{E:Env}{l:Nat}{al:List AV}{H H':Hp}{r:AV}(h:xz E l al H r H'):nG E l al H=some (r,H'):=by
 have hx:∃x:AV×Hp,xz E l al H x.1 x.2:=⟨(r,H'),h⟩;unfold nG;rw[dif_pos hx]
 have:=hx.choose_spec.uniq h
 rw[<-this.1,<-this.2]
def Mk{E:Env}{l:Nat}{al:List AV}{H H':Hp}{r:AV}(h:nG E l al H=some (r,H')):xz E l al H r H':=by
 unfold nG at h;split at h
 ·rename_i hx
  have:=aLS.inj h
  have hs:=hx.choose_spec;rw[this]at hs;exact hs
 ·cases h
abbrev UZ:=List Nat×List Nat
def Iz(E:Env)(dr st:Bool)(f:Nat)(bl:List AV)(H:Hp)(k:AV->cF->Prop):Prop:=
 if bF E f=true then
  (if(Fq E f&&(dr&&st))=true then∃sV bs r,bX H bl=some (sV,bs)/\xy E f sV r/\k r (if bQ r then cF.looks bs else cF.marks bs)
   else∃r H',An E f bl H r H'/\((dr&&st)=true->sf H H'=true)/\k r (.Ep H'))
 else∃sV bs r,bX H bl=some (sV,bs)/\kC E f sV r/\k r (if bQ r then cF.looks bs else cF.marks bs)
def cW(E:Env)(dr:Bool)(o:Oper)(aR:Nat)(ts:List AV)(H:Hp)(k:AV->cF->Prop):Prop:=
 match o.op with
 |.call {callee:=.value fo,args:=args,..}=>match bU ts fo,kr ts args.toList with
  |some (.func f first cap),some al=>Iz E dr (mS fo) f (first++al++cap) H k
  |some (.yield l),some al=>∃r H',xz E l al H r H'/\k r (.Ep H')
  |_,_=>False
 |_=>Ek (dH E KG vS vS false ts H aR o) k
def abW{E:Env}{dr st:Bool}{f:Nat}{first cap args:List AV}{H:Hp}{k:AV->cF->Prop}(h:Iz E dr st f (first++args++cap) H k):
  ∃n v e,(∀m,n<=m->ke E (jF E (bS E m)) (kQ E (bS E m)) (lL (bS E m)) (dr&&st) H (.func f first cap) args=some (v,e))/\k v e:=by
 unfold Iz at h;by_cases hi:bF E f=true
 ·rw[if_pos hi]at h;unfold bF at hi;have lT:∃fi,E.fn f=some fi/\fi.pure=false:=by
   split at hi
   ·rename_i heq;exact⟨_,heq,rfl⟩
   ·cases hi
  obtain⟨fi,lT,SC⟩:=lT;obtain⟨code,ntmps,results,pu,du⟩:=fi;simp only at SC;subst SC;have asW:Fq E f=du:=by unfold Fq;rw[lT]
  rw[asW]at h;by_cases hd:(du&&(dr&&st))=true
  ·rw[if_pos hd]at h;obtain⟨sV,bs,r,h1,⟨n,h2⟩,h3⟩:=h;refine⟨n,r,_,fun m hm=>?_,h3⟩;have h2':jF E (bS E m) f sV=some r:=ll hm _ _ _ h2;unfold ke;simp only[lT,hd,if_true,h1,h2',aMi]
  ·rw[if_neg hd]at h;obtain⟨r,H',⟨n,h1⟩,hk,h2⟩:=h;refine⟨n,r,_,fun m hm=>?_,h2⟩;have h1':=jW (cY (E:=E) hm) _ _ _ _ h1;unfold ke
   have:(du&&(dr&&st))=false:=by simpa using hd
   have Xq:((dr&&st)&&!sf H H')=false:=by
    cases hds:(dr&&st)with
    |false=>rfl
    |true=>rw[hk hds];rfl
   simp only[lT,this,aLT,if_false,h1',Xq]
 ·rw[if_neg hi]at h;obtain⟨sV,bs,r,h1,⟨hp,n,h2⟩,h3⟩:=h;refine⟨n,r,_,fun m hm=>?_,h3⟩;have h2':jF E (bS E m) f sV=some r:=ll hm _ _ _ h2;unfold ke;cases fC:E.fn f with
  |none=>simp only[fC,if_true,h1,h2',aMi]
  |some fi=>
   obtain⟨code,ntmps,results,pu,du⟩:=fi
   have:=hp _ fC
   simp only at this;subst this;simp only[fC,if_true,h1,h2',aMi]
def Lp{E:Env}{dr:Bool}{ops:List Oper}{o:Oper}{aR:Nat}{ts:List AV}{H:Hp}{k:AV->cF->Prop}(hw:bE ops ts o=true)(h:cW E dr o aR ts H k):
  ∃n v e,(∀m,n<=m->bV E (jF E (bS E m)) (kQ E (bS E m)) (lL (bS E m)) dr ops aR o ts H=some (bA o.dst v ts,e))/\k v e:=by
 unfold cW at h;split at h
 ·rename_i fo args ats h1;obtain⟨d,op,t,p,af,g⟩:=o;simp only at h1;subst h1;split at h
  ·rename_i f first cap al e1 e2
   obtain⟨n,v,e,h2,h3⟩:=abW h;refine⟨n,v,e,fun m hm=>?_,h3⟩;unfold bV;rw[if_pos hw];simp only[dH,e1,e2,h2 m hm]
  ·rename_i l al e1 e2;obtain⟨r,H',⟨n,h2⟩,h3⟩:=h;refine⟨n,r,_,fun m hm=>?_,h3⟩;have h2':=jX (cY (E:=E) hm) _ _ _ _ h2;unfold bV;rw[if_pos hw];simp only[dH,e1,e2,ke,h2',aMi]
  ·exact h.elim
 ·rename_i hnc;have hc:lG o=false:=by
   unfold lG
   split
   ·rename_i c SB
    split
    ·rename_i f mQ;obtain⟨callee,args,ats⟩:=c;simp only at mQ;subst mQ;exact absurd SB (hnc f args ats)
    ·rfl
   ·rfl
  cases ho:dH E KG vS vS false ts H aR o with
  |none=>rw[ho]at h;exact h.elim
  |some x=>
   obtain⟨v,e⟩:=x;rw[ho,zp]at h;refine⟨0,v,e,fun m _=>?_,h⟩;rw[Zg (dr':=dr) hc]at ho
   have:=Zi (Q4 (jF E (bS E m))) (pR (kQ E (bS E m))) (pR (lL (bS E m))) ho
   unfold bV;rw[if_pos hw,this]
def sq:List Oper->List (Option Nat)
 |[]=>[]
 |o::l=>o.dst::sq l
def I6:∀(l:List Oper) (j:Nat),((sq l)[j]?).bind id=(l[j]?).bind (·.dst)
 |[],j=>by simp[sq]
 |o::l,0=>rfl
 |o::l,j+1=>by simpa[sq]using I6 l j
def My(ds:List (Option Nat))(j:Nat):Option Nat:=(ds[j]?).bind id
def eM(ds:List (Option Nat))(ts:List AV)(o:Oper):Bool:=
 match o.guard with
 |none=>true
 |some (j,want)=>match My ds j with
  |none=>false
  |some d=>match ts[d]? with
   |some (.bool b)=>b==want
   |_=>false
def LF{ops:List Oper}{ts:List AV}{o:Oper}:eM (sq ops) ts o=bE ops ts o:=by
 unfold eM bE My;cases o.guard with
 |none=>rfl
 |some g=>
  obtain⟨j,want⟩:=g;simp only[I6];rfl
def bP(E:Env)(dr tr:Bool)(ds:List (Option Nat)):List Oper->Nat->List AV->Hp->List UZ->(List AV->Hp->List UZ->Prop)->Prop
 |[],_,ts,H,l,q=>q ts H l
 |o::rest,aR,ts,H,l,q=>
  if eM ds ts o=true then
   (dr=true->bW E o=true->kE H[aR]?=true)/\
   cW E dr o (if dr=true then aR else H.length) ts H fun v e=>bP E dr tr ds rest (if dr=true/\bW E o=true then aR+1 else aR) (bA o.dst v ts) (e.app H) (if tr=true then bH E ts o e::l else l) q
  else(dr=true->bW E o=true->kE H[aR]?=true)/\
   bP E dr tr ds rest (if dr=true/\bW E o=true then aR+1 else aR) (bA o.dst bT ts) H (if tr=true then bH E ts o (.bJ [])::l else l) q
def bP.aae{E:Env}{ops:List Oper}{q:List AV->Hp->Prop}:∀{rest:List Oper} {aR:Nat} {ts:List AV} {H:Hp} {l:List UZ},bP E false false (sq ops) rest aR ts H l (fun ts H _=>q ts H)->gz E ops rest ts H q
 |[],_,ts,H,l,h=>gz.nil h
 |o::rest,aR,ts,H,l,h=>by
  unfold bP at h;simp only[aLT,if_false,false_and,LF]at h;by_cases hw:bE ops ts o=true
  ·rw[if_pos hw]at h;obtain⟨n,v,e,h1,h2⟩:=Lp (ops:=ops) hw h.2;obtain⟨m,ts',H',k1,k2⟩:=bP.aae h2;refine⟨max n m,ts',H',?_,k2⟩;unfold qi;rw[h1 _ (aOt n m)];have l2:=cY (E:=E) (aOs n m);exact rF (lK l2) (jW l2) (jX l2) k1
  ·rw[if_neg hw]at h;exact gz.step (qS hw) (bP.aae h.2)
def bP.H9{E:Env}{ops:List Oper}{tr:Bool}{q:List AV->Hp->List UZ->Prop}:∀{rest:List Oper} {aR:Nat} {ts:List AV} {H:Hp} {l:List UZ},bP E true tr (sq ops) rest aR ts H l q->dD E ops rest aR ts H (fun ts H l'=>q ts H (if tr=true then l'.reverse++l else l))
 |[],_,ts,H,l,h=>dD.nil (by cases tr<;>exact h)
 |o::rest,aR,ts,H,l,h=>by
  unfold bP at h;simp only[if_true,true_and,forall_const,LF]at h;have il:(bW E o=true->kE H[aR]?=true)->(bW E o&&!kE H[aR]?)=false:=by
   intro hr;cases hl:bW E o with
   |false=>rfl
   |true=>simp[hr hl]
  by_cases hw:bE ops ts o=true
  ·rw[if_pos hw]at h;obtain⟨hr,h⟩:=h;obtain⟨n,v,e,h1,h2⟩:=Lp (ops:=ops) hw h;obtain⟨m,ts',H',l',k1,k2⟩:=bP.H9 h2;refine⟨max n m,ts',H',bH E ts o e::l',?_,?_⟩
   ·unfold pz;rw[il hr];simp only[aLT,if_false];rw[h1 _ (aOt n m)];have l2:=cY (E:=E) (aOs n m);simp only[uO (lK l2) (jW l2) (jX l2) k1]
   ·cases tr<;>simpa using k2
  ·rw[if_neg hw]at h;obtain⟨hr,h⟩:=h;obtain⟨m,ts',H',l',k1,k2⟩:=bP.H9 h;refine⟨m,ts',H',bH E ts o (.bJ [])::l',?_,?_⟩
   ·unfold pz;rw[il hr];simp only[aLT,if_false];rw[qS hw]
    have:(cF.bJ []).app H=H:=rfl
    simp only[this,k1]
   ·cases tr<;>simpa using k2
def Cv.aBw{E:Env}{id:Nat}{ops:Array Oper}{ts:List AV}{H:Hp}{Q:Ex->List AV->Hp->Prop}(h:bP E false false (sq ops.toList) ops.toList 0 ts H [] (fun ts H _=>Q .normal ts H)):Cv E (.region id ops false) ts H Q:=Cv.region (bP.aae h)
def uk:Nat->Hp
 |0=>[]
 |n+1=>dp::uk n
def DN:∀n,uk n=aLu n dp
 |0=>rfl
 |n+1=>by rw[List.replicate_succ,<-DN n];rfl
def U7(b:Bool)(n:Nat):Nat:=if b=true then n+1 else n
def ahT{n:Nat}:U7 true n=n+1:=rfl
def ahS{n:Nat}:U7 false n=n:=rfl
def nv(E:Env):List Oper->Nat
 |[]=>0
 |o::l=>U7 (bW E o) (nv E l)
def zD(E:Env):∀l,nv E l=l.countP (bW E)
 |[]=>rfl
 |o::l=>by
  rw[List.countP_cons,<-zD E l,nv,U7]
  split<;>rfl
def Cv.avy{E:Env}{id:Nat}{ops:Array Oper}{ts:List AV}{H:Hp}{Q:Ex->List AV->Hp->Prop}
  (h:bP E true true (sq ops.toList) ops.toList H.length ts (H++uk (nv E ops.toList)) [] (fun ts H l=>(E.pairs id ops.toList.length).all (rJ l.reverse)=true/\Q .normal ts H)):Cv E (.region id ops true) ts H Q:=by
 rw[DN,zD]at h;obtain⟨n,ts',H',l,h1,h2,h3⟩:=bP.H9 h;refine⟨n+1,.normal,ts',H',?_,h3⟩;show cL E (bS E n) (.region id ops true) ts H=_
 unfold cL x6;simp only[List.append_nil,List.reverse_reverse,if_true]at h2;simp only[if_true,h1,h2,aMi]
def Cv.avz{E:Env}{id:Nat}{ops:Array Oper}{ts:List AV}{H:Hp}{Q:Ex->List AV->Hp->Prop}(hp:E.pairs id ops.toList.length=[])
  (h:bP E true false (sq ops.toList) ops.toList H.length ts (H++uk (nv E ops.toList)) [] (fun ts H _=>Q .normal ts H)):Cv E (.region id ops true) ts H Q:=by
 rw[DN,zD]at h;obtain⟨n,ts',H',l,h1,h3⟩:=bP.H9 h;refine⟨n+1,.normal,ts',H',?_,h3⟩;show cL E (bS E n) (.region id ops true) ts H=_
 unfold cL x6;simp only[if_true,h1,hp,List.all_nil,aMi]
end Dv
