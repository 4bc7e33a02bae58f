/- A part of the proof that PairRefuses returns true for every input; no condition of its own. -/
import Derived.Test.YtblnjkjjedanaaaGreatDoorTad
import Derived.TacticsIn
import Derived.RangeFuncRecord
import Derived.RangeFuncIn
import Derived.LoopNIn
set_option linter.all false
set_option maxHeartbeats 100000000
set_option maxRecDepth 100000
open Option renaming map_eq_some_iff->aLp,some->aLv
open Array renaming toList_append->aNQ,length_toList->aNo,getElem?_push->aLw,toList_setIfInBounds->aNS,toList_replicate->aNT,getElem?_toList->aLC
open Bool renaming and_eq_true->aMq,false_eq_true->aLs
open Nat renaming le_trans->aNR,le_refl->aLr,lt_of_lt_of_le->aNU
open List renaming replicate->aK6
namespace Dv
open Go Go.RowKit
structure J8(w:World)(L:Nat->Prop)(w':World)(L':Nat->Prop):Prop where
 WQ:∀{c:Nat} {cs:Array Value} {e:TypeId} {f:Nat×Nat},w.heap[c]?=some (.cells cs e f)->¬L c->w'.heap[c]?=some (.cells cs e f)/\¬L' c
 ap6:∀{c:Nat} {es:Array MapEntry} {k:Nat},w.heap[c]?=some (.map es k)->¬L c->w'.heap[c]?=some (.map es k)/\¬L' c
 shape:∀(c:Nat) (cs:Array Value) (e:TypeId) (f:Nat×Nat),w.heap[c]?=some (Obj.cells cs e f)->∃(tL:Array Value) (f':Nat×Nat),w'.heap[c]?=some (Obj.cells tL e f')/\tL.size=cs.size
theorem Ext.k{w w':World}{L L':Nat->Prop}(h:Ext w L w' L'):J8 w L w' L':=⟨fun h1 h2=>h.keep h1 h2,fun h1 h2=>h.keep h1 h2,h.shape⟩
mutual
theorem R.rV{w w':World}{L L':Nat->Prop}(he:J8 w L w' L'):∀(av:AV) (ι ι':dZ) (v:Value),ι.le ι'->R ι w L av v->R ι' w' L' av v
 |.bool _,_,_,_,_,h=>by simpa[R]using h
 |.int _ _,_,_,_,_,h=>by simpa[R]using h
 |.str _,_,_,_,_,h=>by simpa[R]using h
 |.jH,_,_,_,_,h=>by simpa[R]using h
 |.b6 _ _,_,_,_,hi,h=>by
  simp only[R]at h⊢;obtain⟨cb,co,h1,h2⟩:=h;exact⟨cb,co,hi _ _ h1,h2⟩
 |.eU cs _,_,_,_,_,h=>by
  simp only[R]at h⊢;obtain⟨cb,o,c,e,f,h1,h2,h3,h4⟩:=h
  have:=he.WQ h2 h3
  exact⟨cb,o,c,e,f,h1,this.1,this.2,j6.rV he cs cE cE c o (dZ.le_refl _) h4⟩
 |.rX _ _,_,_,_,_,h=>by simpa[R]using h
 |.aH,_,_,_,_,h=>by simpa[R]using h
 |.ef,_,_,_,_,h=>by simpa[R]using h
 |.aI _ _ _ _ _,_,_,_,hi,h=>by
  simp only[R]at h⊢;obtain⟨cb,co,cap,c,e,f,h1,h2,h3,h4,h5,h6⟩:=h;obtain⟨c',f',g1,g2⟩:=he.shape cb c e f h5;exact⟨cb,co,cap,c',e,f',hi _ _ h1,h2,h3,h4,g1,by omega⟩
 |.aJ cs _,_,_,_,_,h=>by
  simp only[R]at h⊢;obtain⟨cb,o,cap,c,e,f,h1,h2,h3,h4,h5⟩:=h
  have:=he.WQ h3 h4
  exact⟨cb,o,cap,c,e,f,h1,h2,this.1,this.2,j6.rV he cs cE cE c o (dZ.le_refl _) h5⟩
 |.jW,_,_,_,_,h=>by simpa[R]using h
 |.iL _,_,_,_,hi,h=>by
  simp only[R]at h⊢;obtain⟨cb,co,h1,h2⟩:=h;exact⟨cb,co,hi _ _ h1,h2⟩
 |.xk ks vs,_,_,_,_,h=>by
  simp only[R]at h⊢;obtain⟨cb,es,clock,h1,h2,h3,h4,h5⟩:=h
  have:=he.ap6 h2 h3
  exact⟨cb,es,clock,h1,this.1,this.2,Rs.rV he ks cE cE _ (dZ.le_refl _) h4,Rs.rV he vs cE cE _ (dZ.le_refl _) h5⟩
 |.jl,_,_,_,_,h=>by simpa[R]using h
 |.func _ a b,ι,ι',_,hi,h=>by
  simp only[R]at h⊢;obtain⟨x,y,h1,h2,h3⟩:=h;exact⟨x,y,h1,Rs.rV he a ι ι' _ hi h2,Rs.rV he b ι ι' _ hi h3⟩
 |.nilIface,_,_,_,_,h=>by simpa[R]using h
 |.iface _ x,ι,ι',_,hi,h=>by
  simp only[R]at h⊢;obtain⟨y,h1,h2⟩:=h;exact⟨y,h1,R.rV he x ι ι' y hi h2⟩
 |.agg cs,ι,ι',_,hi,h=>by
  simp only[R]at h⊢;obtain⟨y,h1,h2⟩:=h;exact⟨y,h1,Rs.rV he cs ι ι' _ hi h2⟩
 |.tuple cs,ι,ι',_,hi,h=>by
  simp only[R]at h⊢;obtain⟨y,h1,h2⟩:=h;exact⟨y,h1,Rs.rV he cs ι ι' _ hi h2⟩
 |.yield _,_,_,_,hi,h=>by
  simp only[R]at h⊢;obtain⟨cb,co,h1,h2⟩:=h;exact⟨cb,co,hi _ _ h1,h2⟩
theorem Rs.rV{w w':World}{L L':Nat->Prop}(he:J8 w L w' L'):∀(xs:List AV) (ι ι':dZ) (vs:List Value),ι.le ι'->Rs ι w L xs vs->Rs ι' w' L' xs vs
 |[],_,_,_,_,h=>by simpa[Rs]using h
 |x::xs,ι,ι',_,hi,h=>by
  simp only[Rs]at h⊢;obtain⟨y,ys,h1,h2,h3⟩:=h;exact⟨y,ys,h1,R.rV he x ι ι' y hi h2,Rs.rV he xs ι ι' ys hi h3⟩
theorem j6.rV{w w':World}{L L':Nat->Prop}(he:J8 w L w' L'):∀(xs:List AV) (ι ι':dZ) (c:Array Value) (o:Nat),ι.le ι'->j6 ι w L c o xs->j6 ι' w' L' c o xs
 |[],_,_,_,_,_,_=>by simp[j6]
 |x::xs,ι,ι',c,o,hi,h=>by
  simp only[j6]at h⊢;obtain⟨⟨y,h1,h2⟩,h3⟩:=h;exact⟨⟨y,h1,R.rV he x ι ι' y hi h2⟩,j6.rV he xs ι ι' c (o+1) hi h3⟩
end
section
variable{E:Env}{P:Program}{ι:dZ}{w:World}{L L':Nat->Prop}{Lo:Nat->Prop}{w0:World}{H:Hp}
theorem Pa{k:Nat}{o o':Obj}(h:w.heap[k]?=some o)(h1:∀cs e f,o≠ .cells cs e f)(h2:∀es c,o≠ .map es c):J8 w L (sV w k o') L:=by
 have key:∀(c:Nat) (ob:Obj),w.heap[c]?=some ob->c≠k->(sV w k o').heap[c]?=some ob:=fun c ob hc hn=>by
  simp only[sV];rw[Array.getElem?_setIfInBounds_ne (fun e=>hn e.symm)];exact hc
 refine⟨fun{c cs e f} hc hl=>⟨key c _ hc fun q=>?_,hl⟩,fun{c es n} hc hl=>⟨key c _ hc fun q=>?_,hl⟩,fun c cs e f hc=>⟨cs,f,key c _ hc fun q=>?_,rfl⟩⟩
 ·subst q;rw[h]at hc;cases hc;exact h1 _ _ _ rfl
 ·subst q;rw[h]at hc;cases hc;exact h2 _ _ rfl
 ·subst q;rw[h]at hc;cases hc;exact h1 _ _ _ rfl
theorem jF.rV{w':World}(he:J8 w L w' L'){ι':dZ}(hi:ι.le ι'){co:Nat}{eP:cG}{o:Obj}(h:jF ι w L co eP o):jF ι' w' L' co eP o:=by
 cases eP<;>simp only[jF]at h⊢
 case cells=>obtain⟨c,e,f,h1,h2,h3⟩:=h;exact⟨c,e,f,h1,j6.rV he _ _ _ _ _ hi h2,h3⟩
 case map=>obtain⟨es,k,h1,h2,h3,h4⟩:=h;exact⟨es,k,h1,Rs.rV he _ _ _ _ hi h2,Rs.rV he _ _ _ _ hi h3,h4⟩
 case kF=>exact h
 case loop=>obtain⟨l,h1,h2,h3,h4,h5⟩:=h;exact⟨l,h1,h2,h3,Rs.rV he _ _ _ _ hi h4,h5⟩
theorem iW.other(S:iW E Lo w0 ι H w){k:Nat}{ds:Option (List Deferred)}{o':Obj}(h:w.heap[k]?=some (.deferred ds))(hk:w0.heap.size<=k):
  iW E Lo w0 ι H (sV w k o')/\J8 w (Live Lo ι H) (sV w k o') (Live Lo ι H):=by
 have X:J8 w (Live Lo ι H) (sV w k o') (Live Lo ι H):=Pa h (by simp) (by simp);have O:=o4 (o:=o') (w1:=w) rfl rfl rfl rfl h;have ne:∀(c:Nat) (ob:Obj),w.heap[c]?=some ob->(∀ds,ob≠ .deferred ds)->(sV w k o').heap[c]?=some ob:=fun c ob hc hd=>by
  rw[O.there c (fun q=>by subst q;rw[h]at hc;cases hc;exact hd _ rfl)];exact hc
 refine⟨⟨S.below.trans (O.below hk),S.lo,?_,?_,S.inj,?_,S.tP,S.res⟩,X⟩
 ·intro b p hp
  have:=S.NW b p hp
  exact⟨this.1,by rw[O.size];exact this.2⟩
 ·intro b eP hb hd;obtain⟨cb,co,ob,g1,g2,g3,g4,g5⟩:=S.obj b eP hb hd;refine⟨cb,co,ob,g1,ne cb ob g2 ?_,g3.rV X (dZ.le_refl _),g4,g5⟩;intro ds' q;subst q;cases eP<;>simp only[jF]at g3
  case cells=>obtain⟨_,_,_,q,_⟩:=g3;cases q
  case map=>obtain⟨_,_,q,_⟩:=g3;cases q
  case kF=>cases g3.2
  case loop=>obtain⟨_,q,_⟩:=g3;cases q
 ·intro g cs hg;obtain⟨c,e,f,h1,h2,h3,hz⟩:=S.glob g cs hg;exact⟨c,e,f,(X.WQ h1 h2).1,h2,j6.rV X _ _ _ _ _ (dZ.le_refl _) h3,hz⟩
end
def MT(Rr:Value->World->Prop):Ending->World->Prop
 |.returned v,w=>Rr v w
 |_,_=>False
def pM(P:Program)(r:Result Next)(Rr:Value->World->Prop):Prop:=
 (∃v w',r=.ok (.value v) w'/\Rr v w')∨
 (∃f args w1,r=.ok (.enter f args) w1/\CallsIn Fence.wide 0 P f args w1 (MT Rr))∨
 (∃l f tmps assign body w1,r=.ok (.round l f tmps assign body) w1/\RoundIn Fence.wide 0 P l f tmps assign body w1 (MT Rr))
def mD(F:Fence):Prop:=F=Fence.wide∨∃l,F=Fence.wide.inRound l
theorem mD.ZW{F:Fence}(hF:mD F){P:Program}{f:FuncId}{args:Array Value}{w:World}{R:Ending->World->Prop}(h:CallsIn Fence.wide 0 P f args w R):CallsIn F 0 P f args w R:=by
 rcases hF with rfl|⟨l,rfl⟩
 ·exact h
 ·exact h
theorem mD.acU{F:Fence}(hF:mD F){P:Program}{l:Nat}{f:FuncId}{tmps:Array Value}{assign body:Code}{w:World}{R:Ending->World->Prop}(h:RoundIn Fence.wide 0 P l f tmps assign body w R):
  RoundIn F 0 P l f tmps assign body w R:=by
 rcases hF with rfl|⟨l',rfl⟩
 ·exact h
 ·exact h
theorem mD.fn{F:Fence}(hF:mD F)(f:FuncId):F.fn f:=by
 rcases hF with rfl|⟨l,rfl⟩<;>exact trivial
theorem mD.deep{F:Fence}(hF:mD F):F.depth=none:=by
 rcases hF with rfl|⟨l,rfl⟩<;>rfl
theorem pM.wpIn{P:Program}{F:Fence}(hF:mD F){o:Oper}{a:Act}{w:World}{Rr:Value->World->Prop}(hd:∀c,o.op≠ .defer c)
  (h:pM P ((execOp a.eval o).run P w) Rr) {next:Act->World->Prop} {Q:Exit->Act->World->Prop} (hn:∀cv w',Rr cv w'->next (a.put o.dst cv) w'):
  o.wpIn F 0 P a w next Q:=by
 unfold Oper.wpIn;refine⟨fun f _=>hF.fn f,?_⟩;rw[Oper.semAt_eq _ _ _ hd];have QH:F.depth.isSome=true->1<=0:=by rw[hF.deep];simp
 rcases h with⟨v,w',h1,h2⟩|⟨f,args,w1,h1,h2⟩|⟨l,f,tmps,assign,body,w1,h1,h2⟩
 ·rw[h1,Oper.uponIn_value];exact hn _ _ h2
 ·rw[h1,Oper.uponIn_enter];refine⟨QH,hF.ZW (CallsIn.mono h2 fun e w' he=>?_)⟩;cases e with
  |returned v=>exact hn _ _ he
  |panicked _=>exact he.elim
  |outgrown=>exact he.elim
 ·rw[h1,Oper.uponIn_round];refine⟨QH,hF.acU (RoundIn.mono h2 fun e w' he=>?_)⟩;cases e with
  |returned v=>exact hn _ _ he
  |panicked _=>exact he.elim
  |outgrown=>exact he.elim
section
variable{E:Env}{P:Program}{ι:dZ}{w:World}{L L':Nat->Prop}{Lo:Nat->Prop}{w0:World}{H:Hp}
def zb(E:Env)(Lo:Nat->Prop)(w0:World)(ι:dZ)(H:Hp)(w:World)(v:AV)(H2:Hp)(cv:Value)(w':World):Prop:=
 ∃ι':dZ,ι.le ι'/\iW E Lo w0 ι' H2 w'/\Ext w (Live Lo ι H) w' (Live Lo ι' H2)/\R ι' w' (Live Lo ι' H2) v cv
def tF(E:Env)(L:Nat->Prop)(w:World):Prop:=∀g cs,E.glob g=some cs->∃c e f,w.heap[g]?=some (.cells c e f)/\¬L g/\j6 cE w L c 0 cs/\c.size=cs.length
def qh(E:Env)(P:Program)(pc:Pc):Prop:=∀f a_ r,pc f a_=some r->∀(L:Nat->Prop) (w:World) (vs:Array Value),(∀c,L c->c<w.heap.size)->tF E L w->
 Rs cE w L a_ vs.toList->pM P ((callFunc f vs).run P w) (fun v w'=>Below w.heap.size w w'/\R cE w' L r v)
def vP(E:Env)(P:Program)(ic:Ic):Prop:=∀f a_ H v H2,ic f a_ H=some (v,H2)->∀(Lo:Nat->Prop) (w0:World) (ι:dZ) (w:World) (vs:Array Value),iW E Lo w0 ι H w->
 Rs ι w (Live Lo ι H) a_ vs.toList->pM P ((callFunc f vs).run P w) (zb E Lo w0 ι H w v H2)
def uC(E:Env)(P:Program)(yc:Ic):Prop:=∀l a_ H v H2,yc l a_ H=some (v,H2)->∀(Lo:Nat->Prop) (w0:World) (ι:dZ) (w:World) (vs:Array Value) (cb co:Nat),iW E Lo w0 ι H w->
 Rs ι w (Live Lo ι H) a_ vs.toList->ι l=some (cb,co)->pM P ((Instr.yield cb vs).run P w) (zb E Lo w0 ι H w v H2)
theorem pM.mono{r:Result Next}{R1 R2:Value->World->Prop}(h:pM P r R1)(hm:∀v w,R1 v w->R2 v w):pM P r R2:=by
 have hr:∀e w,MT R1 e w->MT R2 e w:=fun e w he=>by
  cases e with
  |returned v=>exact hm _ _ he
  |panicked _=>exact he.elim
  |outgrown=>exact he.elim
 rcases h with⟨v,w',h1,h2⟩|⟨f,args,w1,h1,h2⟩|⟨l,f,tmps,assign,body,w1,h1,h2⟩
 ·exact .inl ⟨v,w',h1,hm _ _ h2⟩
 ·exact .inr (.inl ⟨f,args,w1,h1,CallsIn.mono h2 hr⟩)
 ·exact .inr (.inr ⟨l,f,tmps,assign,body,w1,h1,RoundIn.mono h2 hr⟩)
theorem QR(S:iW E Lo w0 ι H w):∀c,Live Lo ι H c->c<w.heap.size:=by
 rintro c (hc|⟨b,bk,co,h1,h2,h3⟩)
 ·exact aNU (S.lo c hc) S.below.size
 ·exact(S.NW b _ h3).2
theorem iW.later(S:iW E Lo w0 ι H w){w':World}(hb:Below w.heap.size w w'):iW E Lo w0 ι H w'/\Ext w (Live Lo ι H) w' (Live Lo ι H):=by
 have hx:Ext w (Live Lo ι H) w' (Live Lo ι H):=by refine⟨hb.size,fun c hc hn=>⟨hb.block c hc,hn⟩,fun c cs e f hc=>⟨cs,f,?_,rfl⟩⟩;rw[hb.block c (eh hc)];exact hc
 refine⟨⟨S.below.trans (hb.mono S.below.size),S.lo,?_,?_,S.inj,?_,S.tP,S.res⟩,hx⟩
 ·intro b p hp
  have:=S.NW b p hp
  exact⟨this.1,aNU this.2 hb.size⟩
 ·intro b bk I1 hd;obtain⟨c1,k1,ob,h1,h2,h3,h4,h5⟩:=S.obj b bk I1 hd;exact⟨c1,k1,ob,h1,by rw[hb.block c1 (eh h2)];exact h2,h3.ext hx (dZ.le_refl _),h4,h5⟩
 ·intro g cs hg;obtain⟨c,e,f,h1,h2,h3,hz⟩:=S.glob g cs hg
  have:=hx.keep h1 h2
  exact⟨c,e,f,this.1,this.2,j6.ext hx _ _ _ _ _ (dZ.le_refl _) h3,hz⟩
mutual
theorem Gu{ι':dZ}{w':World}:∀(av:AV) (v:Value),bJ av=true->R ι w L av v->R ι' w' L' av v
 |.bool _,_,_,h=>by simpa[R]using h
 |.int _ _,_,_,h=>by simpa[R]using h
 |.str _,_,_,h=>by simpa[R]using h
 |.jH,_,_,h=>by simpa[R]using h
 |.b6 _ _,_,p,_=>by simp[bJ]at p
 |.eU _ _,_,p,_=>by simp[bJ]at p
 |.rX _ _,_,p,_=>by simp[bJ]at p
 |.aH,_,_,h=>by simpa[R]using h
 |.ef,_,_,h=>by simpa[R]using h
 |.aI _ _ _ _ _,_,p,_=>by simp[bJ]at p
 |.aJ _ _,_,p,_=>by simp[bJ]at p
 |.jW,_,_,h=>by simpa[R]using h
 |.iL _,_,p,_=>by simp[bJ]at p
 |.xk _ _,_,p,_=>by simp[bJ]at p
 |.jl,_,_,h=>by simpa[R]using h
 |.func _ _ _,_,p,_=>by simp[bJ]at p
 |.nilIface,_,_,h=>by simpa[R]using h
 |.iface _ _,_,p,_=>by simp[bJ]at p
 |.agg cs,_,p,h=>by
  simp only[bJ]at p;simp only[R]at h⊢;obtain⟨y,h1,h2⟩:=h;exact⟨y,h1,yD _ _ p h2⟩
 |.tuple cs,_,p,h=>by
  simp only[bJ]at p;simp only[R]at h⊢;obtain⟨y,h1,h2⟩:=h;exact⟨y,h1,yD _ _ p h2⟩
 |.yield _,_,p,_=>by simp[bJ]at p
theorem yD{ι':dZ}{w':World}:∀(xs:List AV) (vs:List Value),bJ.wX xs=true->Rs ι w L xs vs->Rs ι' w' L' xs vs
 |[],_,_,h=>by simpa[Rs]using h
 |x::xs,_,p,h=>by
  simp only[bJ.wX,aMq]at p;simp only[Rs]at h⊢;obtain⟨y,ys,h1,h2,h3⟩:=h;exact⟨y,ys,h1,Gu _ _ p.1 h2,yD _ _ p.2 h3⟩
end
theorem agp{x:Option (AV×Hp)}{dr:Bool}{v:AV}{e:cJ}(h:(match x with
  |some (v,h)=>if(dr&&!oO H h)=true then none else some (v,cJ.vK h)
  |none=>none)=some (v,e)):(x.map fun(v,h)=>(v,cJ.vK h))=some (v,e):=by
 cases x with
 |none=>cases h
 |some p=>
  obtain⟨u,k⟩:=p;simp only at h;split at h
  ·cases h
  ·exact h
theorem RJ{pc:Pc}{ic yc:Ic}(hp:qh E P pc)(hi:vP E P ic)(hy:uC E P yc)(S:iW E Lo w0 ι H w){dr:Bool}{fv v:AV}{e:cJ}{cfv:Value}{args:List AV}{DL:Array Value}
  (hf:R ι w (Live Lo ι H) fv cfv) (ha:Rs ι w (Live Lo ι H) args DL.toList) (h:oM E pc ic yc dr H fv args=some (v,e)):
  pM P ((do let d<-Deferred.ofValue cfv DL;invoke d.target d.args:Sem Next).run P w) (zb E Lo w0 ι H w v (e.app H)):=by
 unfold oM at h;split at h
 ·
  rename_i l;rw[aLp]at h;obtain⟨⟨v',H2⟩,h1,h2⟩:=h;cases h2;simp only[R]at hf;obtain⟨cb,co,g1,rfl⟩:=hf
  have:=hy l args H v H2 h1 Lo w0 ι w DL cb co S ha g1
  simpa[Deferred.ofValue,invoke,cJ.app]using this
 ·rename_i f first cap
  simp only[R]at hf;obtain⟨cf,cc,rfl,r1,r2⟩:=hf;have tf:Rs ι w (Live Lo ι H) (first++args++cap) (cf++DL++cc).toList:=by rw[aNQ,aNQ];exact(r1.append ha).append r2
  have hinv:(do let d<-Deferred.ofValue (.func (.func f) cf cc) DL;invoke d.target d.args:Sem Next).run P w=(callFunc f (cf++DL++cc)).run P w:=by simp[Deferred.ofValue,invoke]
  rw[hinv];have h':(match bW H (first++args++cap)with
    |some (a_,bs)=>(pc f a_).map fun v=>(v,if bJ v then cJ.looks bs else cJ.marks bs)
    |none=>none)=some (v,e)∨((ic f (first++args++cap) H).map fun(v,h)=>(v,cJ.vK h))=some (v,e):=by
   simp only at h;split at h<;>(try simp only at h)<;>split at h
   all_goals first|exact .inl h|exact .inr (agp h)
  clear h;rcases h' with h|h
  ·
   split at h
   case h_2=>cases h
   rename_i a_ bs hfr;rw[aLp]at h;obtain⟨r,h1,h2⟩:=h;cases h2;have M:=S.mark bs;have G:=s8 S tf hfr;have C:=hp f a_ v h1 (Live Lo ι (mark H bs)) w (cf++DL++cc) (QR M.1) M.1.glob G;refine C.mono fun cv w' hc=>?_
   by_cases zO:bJ v=true
   ·simp only[zO,if_true,cJ.app];have T:=S.later hc.1;exact⟨ι,dZ.le_refl _,T.1,T.2,Gu _ _ zO hc.2⟩
   ·simp only[zO,aLs,if_false,cJ.app];have T:=M.1.later hc.1;exact⟨ι,dZ.le_refl _,T.1,M.2.trans T.2,R.ext (Ext.refl _ _) _ _ _ _ (uc ι) hc.2⟩
  ·rw[aLp]at h;obtain⟨⟨v',H2⟩,h1,h2⟩:=h;cases h2;simp only[cJ.app];exact hi f _ H v H2 h1 Lo w0 ι w _ S tf
 ·cases h
theorem Xk(V:Valid E P){pc:Pc}{ic yc:Ic}(hp:qh E P pc)(hi:vP E P ic)(hy:uC E P yc)(S:iW E Lo w0 ι H w){dr:Bool}{aM:Nat}(hf:pI ι H aM)
  {ts:List AV} {a:Act} (ht:Rs ι w (Live Lo ι H) ts a.tmps.toList) {o:Oper} {v:AV} {e:cJ} (h:eN E pc ic yc dr ts H aM o=some (v,e)):
  ∀{F:Fence},mD F->∀{next:Act->World->Prop} {Q:Exit->Act->World->Prop},(∀cv w',zb E Lo w0 ι H w v (e.app H) cv w'->next (a.put o.dst cv) w')->o.wpIn F 0 P a w next Q:=by
 intro F hF next Q hn;have hd:∀c,o.op≠ .defer c:=by intro c q;unfold eN at h;rw[q]at h;cases h
 by_cases hc:uE o=true
 ·refine pM.wpIn (Rr:=zb E Lo w0 ι H w v (e.app H)) hF hd ?_ hn;unfold uE at hc;unfold eN at h;unfold execOp;cases ho:o.op<;>simp only[ho]at h hc⊢<;>try (cases hc;done)
  rename_i c;cases pT:c.callee<;>simp only[pT]at h hc⊢<;>try (cases hc;done)
  rename_i f;split at h
  case h_2=>cases h
  rename_i fv a_ hfv has;have hr:Rs ι w (Live Lo ι H) a_ (c.args.map a.eval).toList:=by
   have:=KH ht has
   simpa using this
  have:=RJ hp hi hy S (fH ht hfv) hr h
  simpa[resolve,pT]using this
 ·obtain⟨nx,cv,w',h1,h2,h3⟩:=ab5 V S hf ht (by simpa using hc) h;unfold Oper.wpIn;refine⟨fun f _=>hF.fn f,?_⟩;rw[Oper.semAt_eq _ _ _ hd,h1];rcases h2 with rfl|⟨rfl,rfl⟩
  ·rw[Oper.uponIn_value];exact hn _ _ h3
  ·rw[Oper.uponIn_skip];exact hn _ _ h3
end
def Dp(B:Nat)(a:Act)(w:World)(L:Nat->Prop):Prop:=
 ∃ks:List Nat,ks.Nodup/\a.defers=ks.map (fun k=>{target:=.collected k,args:=#[]})/\∀k,k∈ks->w.heap[k]?=some (.deferred (some []))/\¬L k/\B<=k
structure St(E:Env)(B:Nat)(Lo:Nat->Prop)(w0:World)(ι:dZ)(H:Hp)(ts:List AV)(a:Act)(w:World):Prop where
 Py:iW E Lo w0 ι H w
 tm:Rs ι w (Live Lo ι H) ts a.tmps.toList
 mks:Dp B a w (Live Lo ι H)
theorem Dp.ext{B:Nat}{a a':Act}{w w':World}{L L':Nat->Prop}(h:Dp B a w L)(hx:Ext w L w' L')(hd:a'.defers=a.defers):Dp B a' w' L':=by
 obtain⟨ks,h1,h2,h3⟩:=h;refine⟨ks,h1,by rw[hd,h2],fun k hk=>?_⟩;obtain⟨g1,g2,g3⟩:=h3 k hk
 have:=hx.keep g1 g2
 exact⟨this.1,this.2,g3⟩
def CC(E:Env)(B:Nat)(Lo:Nat->Prop)(w0:World)(ι:dZ)(H:Hp)(w:World)(df:List AV)(H':Hp)(K:Act->World->Prop):Prop:=
 ∀(a':Act) (w':World) (ι':dZ),ι.le ι'->Ext w (Live Lo ι H) w' (Live Lo ι' H')->St E B Lo w0 ι' H' df a' w'->K a' w'
theorem CC.chain{E:Env}{B:Nat}{Lo:Nat->Prop}{w0:World}{ι ι':dZ}{H H' H2:Hp}{w w':World}{JO:List AV}{K:Act->World->Prop}(h:CC E B Lo w0 ι H w JO H2 K)
  (hle:ι.le ι') (hx:Ext w (Live Lo ι H) w' (Live Lo ι' H')):CC E B Lo w0 ι' H' w' JO H2 K:=
 fun a2 w2 ι2 h1 h2 h3=>h a2 w2 ι2 (dZ.le_trans hle h1) (hx.trans h2) h3
def Ex.up:Ex->Exit
 |.normal=>.normal
 |.exit id=>.exit id
 |.ret=>.ret
def rL(E:Env)(P:Program)(rec:Cd):Prop:=∀c ts H ex df H',rec c ts H=some (ex,df,H')->codeOk E c=true->∀(F:Fence),mD F->(F=Fence.wide∨flat c=true)->∀(B:Nat) (Lo:Nat->Prop) (w0:World) (ι:dZ) (w:World) (a:Act),
 w0.heap.size<=B->B<=w.heap.size->St E B Lo w0 ι H ts a w->∀Q:Exit->Act->World->Prop,CC E B Lo w0 ι H w df H' (Q ex.up)->c.wpIn F 0 P Q a w
section
variable{E:Env}{P:Program}{ι:dZ}{w:World}{L L':Nat->Prop}{Lo:Nat->Prop}{w0:World}{H:Hp}{ts:List AV}{a:Act}{B:Nat}
theorem afQ{x:AV}{b:Bool}(h:R ι w L x (.bool b)):x=.bool b:=by
 cases x<;>simp[R]at h⊢
 exact h.symm
theorem TG{ops:Array Oper}(ht:Rs ι w L ts a.tmps.toList)(o:Oper):Region.wanted o (yielded ops a.tmps)=bU ops.toList ts o:=by
 unfold Region.wanted bU yielded;cases o.guard with
 |none=>rfl
 |some p=>
  obtain⟨j,want⟩:=p;simp only[aLC];cases (ops[j]?).bind (·.dst)with
  |none=>rfl
  |some d=>
   simp only[Option.bind_some];have hl:=ht.length;simp only[aNo]at hl;cases hd:ts[d]? with
   |none=>
    have:a.tmps[d]?=none:=by rw[Array.getElem?_eq_none_iff,hl];exact List.getElem?_eq_none_iff.1 hd
    simp[this]
   |some x=>
    obtain⟨v,h1,h2⟩:=ht.get d x hd;rw[aLC]at h1;rw[h1];by_cases hb:∃b,v=.bool b
    ·obtain⟨b,rfl⟩:=hb;rw[afQ h2];cases b<;>cases want<;>rfl
    ·have h3:∀b,v≠ .bool b:=fun b q=>hb ⟨b,q⟩
     have h4:∀b,x≠ .bool b:=fun b q=>by subst q;simp only[R]at h2;exact h3 b h2
     cases v<;>first|exact absurd rfl (h3 _)|skip
     all_goals (cases x<;>first|exact absurd rfl (h4 _)|rfl)
theorem afo(ht:Rs ι w L ts a.tmps.toList){v:AV}{cv:Value}(hv:R ι w L v cv)(dst:Option Nat):Rs ι w L (bQ dst v ts) (a.put dst cv).tmps.toList:=by
 cases dst with
 |none=>exact ht
 |some d=>
  simp only[bQ,Act.put,aNS];exact ht.set d hv
theorem put_defers(a:Act)(dst:Option Nat)(v:Value):(a.put dst v).defers=a.defers:=by
 cases dst<;>rfl
theorem Mu(V:Valid E P){pc:Pc}{ic yc:Ic}(hp:qh E P pc)(hi:vP E P ic)(hy:uC E P yc){dr:Bool}{aM:Nat}{ops:Array Oper}{o:Oper}{df:List AV}{e:cJ}
  (S:St E B Lo w0 ι H ts a w) (hf:pI ι H aM) (h:cO E pc ic yc dr ops.toList aM o ts H=some (df,e)) {F:Fence} (hF:mD F) {K:Act->World->Prop} {Q:Exit->Act->World->Prop}
  (hk:CC E B Lo w0 ι H w df (e.app H) K):
  if Region.wanted o (yielded ops a.tmps)then o.wpIn F 0 P a w K Q else(∀f,o.about P w a.eval=some f->F.fn f)/\K (a.put o.dst undef) w:=by
 unfold cO at h;rw[TG S.tm o];split at h
 ·rename_i hw;rw[if_pos hw];split at h
  ·rename_i v e' T9;cases h;refine Xk V hp hi hy S.Py hf S.tm T9 hF fun cv w' ao8=>?_
   obtain⟨ι',h1,h2,h3,h4⟩:=ao8;refine hk _ _ ι' h1 h3 ⟨h2,?_,S.mks.ext h3 (put_defers _ _ _)⟩;exact afo (Rs.ext h3 _ _ _ _ h1 S.tm) h4 _
  ·cases h
 ·rename_i hw;rw[if_neg hw];cases h;refine⟨fun f _=>hF.fn f,?_⟩;refine hk _ _ ι (dZ.le_refl _) (Ext.refl _ _) ⟨S.Py,afo S.tm Qb _,S.mks.ext (Ext.refl _ _) (put_defers _ _ _)⟩
theorem Q2(V:Valid E P){pc:Pc}{ic yc:Ic}(hp:qh E P pc)(hi:vP E P ic)(hy:uC E P yc){ops:Array Oper}{F:Fence}(hF:mD F){Q:Exit->Act->World->Prop}:
  ∀(l:List Oper) (ts:List AV) (H:Hp) (df:List AV) (H':Hp) (ι:dZ) (w:World) (a:Act),Bo E pc ic yc ops.toList l ts H=some (df,H')->St E B Lo w0 ι H ts a w->
   CC E B Lo w0 ι H w df H' (Q .normal)->wpListIn F 0 P ops Q l a w
 |[],ts,H,df,H',ι,w,a,h,S,hk=>by
  simp only[Bo,aLv.injEq,Prod.mk.injEq]at h;obtain⟨rfl,rfl⟩:=h;exact hk _ _ ι (dZ.le_refl _) (Ext.refl _ _) S
 |o::rest,ts,H,df,H',ι,w,a,h,S,hk=>by
  unfold Bo at h;split at h
  ·rename_i yV e h1;unfold wpListIn;exact Mu V hp hi hy S (Eh S.Py) h1 hF fun a1 w1 ι1 k1 k2 k3=>Q2 V hp hi hy hF rest yV (e.app H) df H' ι1 w1 a1 h k3 (hk.chain k1 k2)
  ·cases h
theorem Tb(V:Valid E P){pc:Pc}{ic yc:Ic}(hp:qh E P pc)(hi:vP E P ic)(hy:uC E P yc){id:Nat}{ops:Array Oper}{F:Fence}(hF:mD F){Q:Exit->Act->World->Prop}
  {df:List AV} {H':Hp} (h:Bo E pc ic yc ops.toList ops.toList ts H=some (df,H')) (S:St E B Lo w0 ι H ts a w) (hk:CC E B Lo w0 ι H w df H' (Q .normal)):
  (Code.region id ops false).wpIn F 0 P Q a w:=
 wpIn_region_list (Q2 V hp hi hy hF _ _ _ _ _ _ _ _ h S hk)
end
section
variable{E:Env}{P:Program}{ι:dZ}{w:World}{L L':Nat->Prop}{Lo:Nat->Prop}{w0:World}{H:Hp}{ts:List AV}{a:Act}{B:Nat}
theorem SA(V:Valid E P)(S:iW E Lo w0 ι H w){t:Nat}{p av:AV}{v:Value}(hp:R ι w (Live Lo ι H) p v)(h:gl E H t p=some av):
  ∃cv,((do loadVar t (<-asAddr v):Sem Value)).run P w=.ok cv w/\R ι w (Live Lo ι H) av cv:=by
 unfold gl at h;split at h
 case h_2=>cases h
 rename_i cs off hpt;obtain⟨cb,o,c,e,f,rfl,h2,h3⟩:=Xy S hp hpt;obtain⟨cv,g1,g2⟩:=LC V h2 h3 h;exact⟨cv,by simpa[asAddr]using g1,g2⟩
def Po(tmps:Array Value):ResultVar->Sem Value
 |.tmp t=>pure (tmps.getD t undef)
 |.cell a t=>do loadVar t (<-asAddr (tmps.getD a undef))
theorem Fl(V:Valid E P)(S:iW E Lo w0 ι H w){tmps:Array Value}(ht:Rs ι w (Live Lo ι H) ts tmps.toList):∀(rs:List ResultVar) (vs:List AV),iU H E ts rs=some vs->
  ∃Qm,(rs.mapM (Po tmps)).run P w=.ok Qm w/\Rs ι w (Live Lo ι H) vs Qm
 |[],vs,h=>by
  simp only[iU,aLv.injEq]at h;subst h
  exact⟨[],by simp,by simp[Rs]⟩
 |.tmp t::rs,vs,h=>by
  simp only[iU,aLp]at h;obtain⟨FL,h1,rfl⟩:=h;obtain⟨Qm,g1,g2⟩:=Fl V S ht rs FL h1;have hg:=ht.getD t;refine⟨tmps.getD t undef::Qm,?_,?_⟩
  ·simp only[List.mapM_cons,Po,Sem.run_bind,Sem.run_pure,Result.andThen_ok,g1]
  ·simp only[Rs];exact⟨_,_,rfl,by simpa using hg,g2⟩
 |.cell x t::rs,vs,h=>by
  simp only[iU]at h;split at h
  ·rename_i v FL h1 h2;cases h;obtain⟨Qm,g1,g2⟩:=Fl V S ht rs FL h2;have hg:=ht.getD x;have hx:R ι w (Live Lo ι H) (ts[x]?.getD aX) (tmps.getD x undef):=by simpa using hg
   obtain⟨cv,k1,k2⟩:=SA V S hx h1;refine⟨cv::Qm,?_,?_⟩
   ·rw[List.mapM_cons,Sem.run_bind];unfold Po;rw[k1];simp only[Result.andThen_ok,Sem.run_bind]
    have:(rs.mapM (Po tmps)).run P w=.ok Qm w:=g1
    unfold Po at this;rw[this];simp only[Result.andThen_ok,Sem.run_pure]
   ·simp only[Rs];exact⟨_,_,rfl,k2,g2⟩
  ·cases h
theorem Md(V:Valid E P)(S:iW E Lo w0 ι H w){tmps:Array Value}(ht:Rs ι w (Live Lo ι H) ts tmps.toList){fn:Func}{vs:List AV}(h:iU H E ts fn.results.toList=some vs):
  ∃cv,(results fn tmps).run P w=.ok cv w/\R ι w (Live Lo ι H) (kE vs) cv:=by
 obtain⟨Qm,g1,g2⟩:=Fl V S ht _ _ h;have hm:(fn.results.mapM (Po tmps)).run P w=.ok Qm.toArray w:=by rw[Array.mapM_eq_mapM_toList,map_eq_pure_bind];simp only[Sem.run_bind,g1,Result.andThen_ok,Sem.run_pure]
 have j7:results fn tmps=(do let vs<-fn.results.mapM (Po tmps);pure (if h:vs.size=1 then vs[0]else .tuple vs)):=by unfold results;congr 2
 rw[j7,Sem.run_bind,hm];simp only[Result.andThen_ok,Sem.run_pure];refine⟨_,rfl,?_⟩;have hl:=g2.length
 match vs,Qm,g2,hl with
 |[],[],_,_=>simp[kE,R,Rs]
 |[v],[c],g,_=>
  simp only[Rs]at g;obtain⟨y,ys,h1,h2,_⟩:=g;cases h1;simpa[kE]using h2
 |v::v'::vs,c::c'::cs,g,_=>
  simp only[kE,R];refine⟨(c::c'::cs).toArray,?_,by simpa using g⟩
  simp
end
section
variable{E:Env}{P:Program}{ι:dZ}{w:World}{L L':Nat->Prop}{Lo:Nat->Prop}{w0:World}{H:Hp}{ts:List AV}{a:Act}{B:Nat}
theorem qQ(V:Valid E P){fn:Func}{tmps:Array Value}{vs:List AV}(j7:iU H E ts fn.results.toList=some vs){K:Value->World->Prop}:
  ∀(ks:List Nat) (w:World),iW E Lo w0 ι H w->Rs ι w (Live Lo ι H) ts tmps.toList->ks.Nodup->(∀k,k∈ks->w.heap[k]?=some (.deferred (some []))/\¬Live Lo ι H k/\B<=k)->w0.heap.size<=B->
   (∀w' cv,Below B w w'->iW E Lo w0 ι H w'->(∀c,w.heap.size<=c->w'.heap[c]?=none)->(∀(c:Nat) (cs:Array Value) (e:TypeId) (f:Nat×Nat),w.heap[c]?=some (.cells cs e f)->w'.heap[c]?=some (.cells cs e f))->
    R ι w' (Live Lo ι H) (kE vs) cv->K cv w')->
   LeavesInM Fence.wide 0 P fn tmps (MT K) (ks.map fun k=>{target:=.collected k,args:=#[]}) .returning w
 |[],w,S,ht,_,_,_,hk=>by
  obtain⟨cv,g1,g2⟩:=Md V S ht j7;exact⟨cv,g1,hk w cv (Below.refl B w) S (fun c hc=>Array.getElem?_eq_none hc) (fun _ _ _ _ h=>h) g2⟩
 |k::ks,w,S,ht,hn,hks,hB,hk=>by
  obtain⟨g1,g2,g3⟩:=hks k (by simp);have X:=S.other (o':=.deferred none) g1 (aNR hB g3);have O:=o4 (o:=(.deferred none:Obj)) (w1:=w) rfl rfl rfl rfl g1;rw[List.nodup_cons]at hn;refine⟨by simp,.inl ⟨k,sV w k (.deferred none),rfl,run_takeDeferred g1,?_⟩⟩;refine qQ V j7 ks _ X.1 (Rs.rV X.2 _ _ _ _ (dZ.le_refl _) ht) hn.2 (fun k' xM=>?_) hB fun w' cv h1 h2 h3 h5 h4=>hk w' cv ((O.below g3).trans h1) h2 ?_ ?_ h4
  ·obtain⟨q1,q2,q3⟩:=hks k' (by simp[xM]);refine⟨?_,q2,q3⟩;rw[O.there k' (fun e=>hn.1 (e▸xM))];exact q1
  ·intro c hc;refine h3 c ?_;rw[O.size];exact hc
  ·intro c cs e f hc;refine h5 c cs e f ?_;rw[O.there c (fun q=>by subst q;rw[g1]at hc;cases hc)];exact hc
theorem uA(n:Nat):Rs ι w L (aK6 n aX) (aK6 n undef):=by
 induction n with
 |zero=>simp[Rs]
 |succ n ih=>
  simp only[List.replicate_succ,Rs];exact⟨_,_,rfl,Qb,ih⟩
theorem Cq(V:Valid E P){rec:Cd}(kT:rL E P rec){f:Nat}{args:List AV}{v:AV}{H':Hp}(h:vn E rec f args H=some (v,H'))(S:iW E Lo w0 ι H w){vs:Array Value}
  (ha:Rs ι w (Live Lo ι H) args vs.toList):CallsIn Fence.wide 0 P f vs w (MT (zb E Lo w0 ι H w v H')):=by
 unfold vn at h;split at h
 case h_2=>cases h
 rename_i fi oJ;obtain⟨fn,f1,f2,f3,f4,f5,f6⟩:=V.fn f fi oJ;have main:∀ex ts H2,rec fi.code (args++aK6 (fi.ntmps-args.length) aX) H=some (ex,ts,H2)->(∀id,ex≠ .exit id)->∀rs,iU H2 E ts fi.results=some rs->v=kE rs->H'=H2->
   CallsIn Fence.wide 0 P f vs w (MT (zb E Lo w0 ι H w v H')):=by
  intro ex ts H2 hr hex rs j7 hv hH;subst hv hH;refine callsIn_of_wp_marks f1 f2 trivial ?_;have hl:=ha.length;simp only[aNo]at hl;refine kT _ _ _ _ _ _ hr f6 Fence.wide (.inl rfl) (.inl rfl) w.heap.size Lo w0 ι w _ S.below.size (aLr _) ⟨S,?_,⟨[],by simp,rfl,by simp⟩⟩ _ fun a' w' ι' k1 k2 k3=>?_
  ·simp only[aNQ,aNT];rw[f3,<-hl];exact ha.append (uA _)
  ·obtain⟨ks,n1,n2,n3⟩:=k3.mks;have oa:LeavesInM Fence.wide 0 P fn a'.tmps (MT (zb E Lo w0 ι H w (kE rs) H')) a'.defers .returning w':=by
    rw[n2];refine qQ V (by rw[f4];exact j7) ks w' k3.Py k3.tm n1 n3 S.below.size fun w2 cv b1 b2 b3 b4 b5=>?_
    refine⟨ι',k1,b2,?_,b5⟩;refine⟨aNR k2.size b1.size,fun c hc J3=>?_,fun c cs e fr hc=>?_⟩
    ·have:=k2.old c hc J3
     exact⟨(b1.block c hc).trans this.1,this.2⟩
    ·obtain⟨tL,f',q1,q2⟩:=k2.shape c cs e fr hc;exact⟨tL,f',b4 c tL e f' q1,q2⟩
   cases ex with
   |normal=>exact oa
   |ret=>exact oa
   |exit id=>exact absurd rfl (hex id)
 split at h
 ·cases h
 ·rename_i ex ts H2 dM hr;rw[aLp]at h;obtain⟨rs,h1,h2⟩:=h;cases h2;exact main ex ts H' hr (fun id q=>dM id q) rs h1 rfl rfl
 ·cases h
theorem Pr(V:Valid E P){rec:Cd}(kT:rL E P rec){f:Nat}{args:List AV}{r:AV}{fi:FnI}(oJ:E.fn f=some fi){ex:Ex}{JO:List AV}{H2:Hp}
  (hr:rec fi.code (args++aK6 (fi.ntmps-args.length) aX) []=some (ex,JO,H2)) (hex:∀id,ex≠ .exit id) {rs:List AV} (j7:iU H2 E JO fi.results=some rs)
  {bs:List Nat} (gf:bW H2 [kE rs]=some ([r],bs)) {vs:Array Value} (jN:∀c,L c->c<w.heap.size) (hg:tF E L w) (ha:Rs cE w L args vs.toList):
  CallsIn Fence.wide 0 P f vs w (MT fun v w'=>Below w.heap.size w w'/\R cE w' L r v):=by
 obtain⟨fn,f1,f2,f3,f4,f5,f6⟩:=V.fn f fi oJ;have hL:Live L cE ([]:Hp)=L:=by
  funext c;refine propext ⟨?_,.inl⟩;rintro(h|⟨b,eP,co,h,_⟩)
  ·exact h
  ·simp at h
 have S:iW E L w cE [] w:=by
  refine⟨Below.refl _ _,jN,?_,?_,?_,?_,?_,?_⟩
  ·intro b p h;cases h
  ·intro b eP h;simp at h
  ·intro b b' eP blk' c co co' h;simp at h
  ·rw[hL];exact hg
  ·intro b eP h;simp at h
  ·intro b p h;cases h
 refine callsIn_of_wp_marks f1 f2 trivial ?_;have hl:=ha.length;simp only[aNo]at hl;refine kT _ _ _ _ _ _ hr f6 Fence.wide (.inl rfl) (.inl rfl) w.heap.size L w cE w _ (aLr _) (aLr _) ⟨S,?_,⟨[],by simp,rfl,by simp⟩⟩ _ fun a' w' ι' k1 k2 k3=>?_
 ·simp only[aNQ,aNT];rw[f3,<-hl,hL];exact ha.append (uA _)
 ·obtain⟨ks,n1,n2,n3⟩:=k3.mks;have oa:LeavesInM Fence.wide 0 P fn a'.tmps (MT fun v w'=>Below w.heap.size w w'/\R cE w' L r v) a'.defers .returning w':=by
   rw[n2];refine qQ V (by rw[f4];exact j7) ks w' k3.Py k3.tm n1 n3 (aLr _) fun w2 cv b1 b2 b3 b4 b5=>?_
   refine⟨b2.below,?_⟩;have sH:Rs ι' w2 (Live L ι' H2) [kE rs] [cv]:=by simp only[Rs];exact⟨_,_,rfl,b5,rfl⟩
   have:=s8 b2 sH gf
   simp only[Rs]at this;obtain⟨y,ys,q1,q2,_⟩:=this;cases q1;exact R.ext (wh fun c hc=>.inl hc) _ _ _ _ (dZ.le_refl _) q2
  cases ex with
  |normal=>exact oa
  |ret=>exact oa
  |exit id=>exact absurd rfl (hex id)
end
section
variable{E:Env}{P:Program}{ι:dZ}{w:World}{L L':Nat->Prop}{Lo:Nat->Prop}{w0:World}{H:Hp}{ts:List AV}{a:Act}{B:Nat}
theorem XW:∀(ps:List Nat) (a_:List AV) (ts df:List AV) (vs:List Value) (tmps:Array Value),Mk ts ps a_=some df->Rs ι w L ts tmps.toList->Rs ι w L a_ vs->
  vs.length=ps.length/\Rs ι w L df ((ps.zip vs).foldl (fun t (p,v)=>t.setIfInBounds p v) tmps).toList
 |[],[],ts,df,vs,tmps,h,ht,ha=>by
  simp only[Rs]at ha;subst ha
  simp only[Mk,aLv.injEq]at h;subst h
  exact⟨rfl,ht⟩
 |[],_::_,_,_,_,_,h,_,_=>by simp[Mk]at h
 |_::_,[],_,_,_,_,h,_,_=>by simp[Mk]at h
 |p::ps,x::a_,ts,df,vs,tmps,h,ht,ha=>by
  simp only[Rs]at ha;obtain⟨y,ys,rfl,h1,h2⟩:=ha;simp only[Mk]at h
  have:=XW ps a_ (ts.set p x) df ys (tmps.setIfInBounds p y) h (by rw[aNS];exact ht.set p h1) h2
  exact⟨by simp[this.1],by simpa using this.2⟩
theorem wQ(S:iW E Lo w0 ι H w){l cb co:Nat}{st st':LoopState}{oq pend':Option Code}{lts:List AV}{ps:List Nat}{a_ bd:Code}{r:Loop}
  (hb:H[l]?=some (.loop st oq lts ps a_ bd)) (hi:ι l=some (cb,co)) (hr:w.heap[cb]?=some (.loop r)) (hp:∀c,pend'=some c->codeOk E c=true):
  iW E Lo w0 ι (H.set l (.loop st' pend' lts ps a_ bd)) (w.putObj cb (.loop {r with state:=st',pending:=pend'}))/\
   Ext w (Live Lo ι H) (w.putObj cb (.loop {r with state:=st',pending:=pend'})) (Live Lo ι (H.set l (.loop st' pend' lts ps a_ bd))):=by
 obtain⟨NK,co',o,g1,g2,g3,g4,g5⟩:=S.obj l _ hb (by simp[cG.st]);rw[hi]at g1;cases g1
 rw[hr]at g2;cases g2
 have F:=S.tP l _ hb rfl;simp only[jF]at g3;obtain⟨r',q0,q1,q2,q3,q4,q5,q6⟩:=g3;cases q0;have O:Is w (w.putObj cb (.loop {r with state:=st',pending:=pend'})) cb (.loop {r with state:=st',pending:=pend'}):=
  o4 (o:=.loop {r with state:=st',pending:=pend'}) (w1:=w) rfl rfl rfl rfl hr
 have Ey:nw (.loop r) (.loop {r with state:=st',pending:=pend'}):=fun cs e f q=>by cases q
 have X:Ext w (Live Lo ι H) (w.putObj cb (.loop {r with state:=st',pending:=pend'})) (Live Lo ι H):=O.ext hr Ey (.inr ⟨l,_,co,hb,rfl,hi⟩) (fun _ h=>h);exact S.update (blk':=.loop st' pend' lts ps a_ bd) hb rfl rfl hi hr Ey O
  (by
   simp only[jF];exact⟨_,rfl,rfl,rfl,Rs.ext X _ _ _ _ (dZ.le_refl _) q3,q4,q5,q6⟩)
  ⟨F.1,F.2.1,F.2.2.1,F.2.2.2.1,hp⟩
theorem zX(S:iW E Lo w0 ι H w){l cb co:Nat}{st:LoopState}{oq:Option Code}{lts:List AV}{ps:List Nat}{a_ bd:Code}
  (hb:H[l]?=some (.loop st oq lts ps a_ bd)) (hi:ι l=some (cb,co)):
  ∃r:Loop,w.heap[cb]?=some (.loop r)/\r.state=st/\r.pending=oq/\Rs ι w (Live Lo ι H) lts r.tmps.toList/\r.params.toList=ps/\r.assign=a_/\r.body=bd:=by
 obtain⟨NK,co',o,g1,g2,g3,g4,g5⟩:=S.obj l _ hb (by simp[cG.st]);rw[hi]at g1;cases g1
 simp only[jF]at g3;obtain⟨r,q0,q1,q2,q3,q4,q5,q6⟩:=g3;exact⟨r,by rw[g2,q0],q1,q2,q3,q4,q5,q6⟩
theorem Fo(V:Valid E P){rec:Cd}(kT:rL E P rec):uC E P (yi rec):=by
 intro l a_ H v H2 h Lo w0 ι w vs cb co S ha hi;unfold yi at h;split at h
 case h_2=>cases h
 rename_i aCW ts ps assign body hb;split at h
 case h_2=>cases h
 rename_i df oK;split at h
 case h_2=>cases h
 rename_i t1 H1 awv;split at h
 case h_2=>cases h
 rename_i oq JO ps2 as2 b2 sG;split at h
 case h_2=>cases h
 rename_i e t2 H2' an6;split at h
 case h_2=>cases h
 rename_i st3 aCX Na M9 MU b3 tz;obtain⟨r,r1,r2,r3,r4,r5,r6,r7⟩:=zX S hb hi;have Fi:=S.tP l _ hb rfl;obtain⟨z1,z2⟩:=XW ps a_ ts df vs.toList r.tmps oK r4 ha;have yf:vs.size=r.params.size:=by rw[<-aNo,<-aNo,z1,r5]
 refine .inr (.inr ⟨cb,r.fn,_,r.assign,r.body,w,run_yield r1 yf,?_⟩);have hW:mD (Fence.wide.inRound cb):=.inr ⟨cb,rfl⟩;refine roundIn_of_wpIn trivial ?_;rw[r6];refine kT assign df H _ t1 H1 awv Fi.1 _ hW (.inr Fi.2.2.1) w.heap.size Lo w0 ι w _ S.below.size (aLr _) ⟨S,?_,⟨[],by simp,rfl,by simp⟩⟩ _ fun a1 w1 ι1 k1 k2 k3=>?_
 ·have:((r.params.zip vs).foldl (fun tmps (x:Tmp×Value)=>tmps.setIfInBounds x.1 x.2) r.tmps)=((ps.zip vs.toList).foldl (fun t (p,v)=>t.setIfInBounds p v) r.tmps):=by rw[<-r5,<-Array.toList_zip,Array.foldl_toList]
  simp only;rw[this];exact z2
 ·
  have hi1:=k1 l _ hi;obtain⟨q,q1,q2,q3,q4,q5,q6,q7⟩:=zX k3.Py sG hi1;have Fp:=k3.Py.tP l _ sG rfl;have U:=wQ (st':=.busy) (pend':=oq) k3.Py sG hi1 q1 Fp.2.2.2.2;have axt:({q with state:=.busy,pending:=oq}:Loop)={q with state:=.busy}:=by rw[<-q3]
  rw[axt]at U;refine⟨_,run_beginRound q1 q2,?_⟩;rw[r7];refine kT body t1 _ _ t2 H2' an6 Fi.2.1 _ hW (.inr Fi.2.2.2.1) w.heap.size Lo w0 ι1 _ a1 S.below.size (by rw[World.putObj_size];exact k2.size) ⟨U.1,Rs.ext U.2 _ _ _ _ (dZ.le_refl _) k3.tm,k3.mks.ext U.2 rfl⟩ _
   fun a2 w2 ι2 l1 l2 l3=>?_
  have hi2:=l1 l _ hi1;obtain⟨p,p1,p2,p3,p4,p5,p6,p7⟩:=zX l3.Py tz hi2;have fin:∀(jump:Option Code) (st':LoopState),st'=(if jump.isNone then .ready else .done)->(∀c,jump=some c->codeOk E c=true)->v=.bool jump.isNone->H2=H2'.set l (.loop st' jump Na M9 MU b3)->
    ∃v' w',(Instr.endRound cb jump).run P w2=.ok v' w'/\MT (zb E Lo w0 ι H w v H2) (.returned v') w':=by
   intro jump st' fK hj hv hH;subst hv hH;have U2:=wQ (st':=st') (pend':=jump) l3.Py tz hi2 p1 hj;rw[fK]at U2⊢;refine⟨_,_,run_endRound jump p1,?_⟩;exact⟨ι2,dZ.le_trans k1 l1,U2.1,k2.trans (U.2.trans (l2.trans U2.2)),by simp only[R]⟩
  cases e with
  |normal=>
   simp only[aLv.injEq,Prod.mk.injEq]at h;exact fin none .ready rfl (fun c q=>by cases q) h.1.symm h.2.symm
  |ret=>
   simp only[aLv.injEq,Prod.mk.injEq]at h;exact fin (some .ret) .done rfl (fun c q=>by cases q;rfl) h.1.symm h.2.symm
  |exit id=>
   simp only[aLv.injEq,Prod.mk.injEq]at h;exact fin (some (.exit id)) .done rfl (fun c q=>by cases q;rfl) h.1.symm h.2.symm
end
structure za(E:Env)(P:Program):Prop where
 ov:qh E P E.ov
 ud:vP E P E.ud
def Nc(E:Env)(P:Program)(rec:Cd):Prop:=∀(id:Nat) (ops:Array Oper) ts H df H',zA E (qc E rec) (um E rec) (yi rec) id ops.toList ts H=some (df,H')->Ae E (E.pairs id ops.size) ops=true->
 ∀(F:Fence),mD F->∀(B:Nat) (Lo:Nat->Prop) (w0:World) (ι:dZ) (w:World) (a:Act),w0.heap.size<=B->B<=w.heap.size->St E B Lo w0 ι H ts a w->
 ∀Q:Exit->Act->World->Prop,CC E B Lo w0 ι H w df H' (Q .normal)->(Code.region id ops true).wpIn F 0 P Q a w
def Iq(E:Env)(P:Program)(rec:Cd)(k:Nat):Prop:=∀c ts H ex df H',rec (.loop c) ts H=some (ex,df,H')->codeOk E c=true->∀(F:Fence),mD F->(F=Fence.wide∨flat c=true)->∀(B:Nat) (Lo:Nat->Prop) (w0:World) (ι:dZ) (w:World) (a:Act),
 w0.heap.size<=B->B<=w.heap.size->St E B Lo w0 ι H ts a w->∀Q:Exit->Act->World->Prop,CC E B Lo w0 ι H w df H' (Q ex.up)->Code.roundsIn F 0 P c Q k a w
section
variable{E:Env}{P:Program}{ι:dZ}{w:World}{L L':Nat->Prop}{Lo:Nat->Prop}{w0:World}{H:Hp}{ts:List AV}{a:Act}{B:Nat}
theorem n7(V:Valid E P){f:Nat}{fi:FnI}(h:E.fn f=some fi)(vs:Array Value)(w:World):(callFunc f vs).run P w=.ok (.enter f vs) w:=by
 obtain⟨fn,f1,f2,f3,f4,f5,f6⟩:=V.fn f fi h;unfold callFunc;simp only[Sem.run_bind,run_program,Result.andThen_ok,f1]
 have:(fn.name== "runtime.NumGoroutine")=false:=by simpa using f5
 simp[this,f2]
theorem JC(V:Valid E P)(O:za E P){rec:Cd}(kT:rL E P rec):qh E P (qc E rec):=by
 intro f a_ r h L w vs jN hg ha;unfold qc at h;split at h
 ·rename_i r' mG;cases h;exact O.ov f a_ r mG L w vs jN hg ha
 ·rename_i mG;split at h
  case h_2=>cases h
  rename_i fi oJ;split at h
  ·cases h
  split at h
  ·cases h
  ·rename_i ex ts H dM hr;split at h
   case h_2=>cases h
   rename_i rs j7;split at h
   case h_2=>cases h
   rename_i v bs gf;cases h;exact .inr (.inl ⟨f,vs,w,n7 V oJ vs w,Pr V kT oJ hr (fun id q=>dM id q) j7 gf jN hg ha⟩)
  ·cases h
theorem Ri(V:Valid E P)(O:za E P){rec:Cd}(kT:rL E P rec):vP E P (um E rec):=by
 intro f a_ H v H2 h Lo w0 ι w vs S ha;unfold um at h;split at h
 ·rename_i r mG;cases h;exact O.ud f a_ H v H2 mG Lo w0 ι w vs S ha
 ·have h0:=h;unfold vn at h0;split at h0
  case h_2=>cases h0
  rename_i fi oJ;exact .inr (.inl ⟨f,vs,w,n7 V oJ vs w,Cq V kT h S ha⟩)
theorem ZG(S:iW E Lo w0 ι H w){c:Nat}(h:Live Lo ι H c):c<w.heap.size:=QR S c h
theorem Jy(V:Valid E P){rec:Cd}(kT:rL E P rec){g:Operand}{ps:Array Nat}{assign body:Code}{fv:AV}{f:Nat}{first cap:List AV}
  (hg:ch ts g=some (.func f first cap)) {v:AV} {H2:Hp} (B5:vn E rec f (first++[.yield H.length]++cap) (H++[.loop .ready none ts ps.toList assign body])=some (v,H2))
  {st:LoopState} {oq:Option Code} {Na:List AV} {M9:List Nat} {MU b3:Code} (fK:st≠ .busy)
  {ex:Ex} {df:List AV} {H':Hp} (KY:(match oq with
   |none=>some (Ex.normal,ts,H2.set H.length (.loop .exhausted oq Na M9 MU b3))
   |some c=>rec c ts (H2.set H.length (.loop .exhausted oq Na M9 MU b3)))=some (ex,df,H')) (hl:H2[H.length]?=some (.loop st oq Na M9 MU b3))
  (c1:codeOk E assign=true) (c2:codeOk E body=true) (c3:flat assign=true) (c4:flat body=true)
  (hB:w0.heap.size<=B) (GY:B<=w.heap.size) (S:St E B Lo w0 ι H ts a w) {Q:Exit->Act->World->Prop} (hk:CC E B Lo w0 ι H w df H' (Q ex.up)):
  (Code.rangeFunc g ps assign body).wpIn Fence.wide 0 P Q a w:=by
 refine wpIn_rangeFunc fun fn jj=>?_
 have oJ:∃fi,E.fn f=some fi:=by
  have h0:=B5;unfold vn at h0;split at h0
  ·rename_i fi oJ;exact⟨fi,oJ⟩
  ·cases h0
 obtain⟨fi,oJ⟩:=oJ;have hgR:=fH S.tm hg;simp only[R]at hgR;obtain⟨cf,cc,hgv,r1,r2⟩:=hgR;have sG:Below w.heap.size w (w.alloc (.deferred (some []))):=
  ⟨rfl,rfl,rfl,by show w.heap.size<=(w.heap.push _).size;simp,fun k hk=>by show(w.heap.push _)[k]?=_;rw[aLw,if_neg (by omega)]⟩
 obtain⟨S1,X1⟩:=S.Py.later sG;have aps:(w.alloc (.deferred (some []))).heap.size=w.heap.size+1:=by show(w.heap.push _).size=_;simp
 have MY:=Eh S1
 let rc:Loop:={state:=.ready,pending:=none,fn,tmps:=a.tmps,params:=ps,assign,body,defers:=w.heap.size}
 let nb:cG:=.loop .ready none ts ps.toList assign body
 have Ot:dP H H.length nb=H++[nb]:=by simp[dP]
 have X2:=xI S1 (eP:=nb) MY rfl (.loop rc) (w1:=w.alloc (.deferred (some []))) rfl;have hle:=dZ.Bj (p:=((w.alloc (.deferred (some []))).heap.size,0)) MY.1;have X12:=X1.trans X2;have S2:=S1.alloc (eP:=nb) MY rfl (o:=.loop rc) (w1:=w.alloc (.deferred (some []))) rfl rfl rfl rfl
  (by
   simp only[jF,nb];exact⟨rc,rfl,rfl,rfl,Rs.ext X12 _ _ _ _ hle S.tm,rfl,rfl,rfl⟩)
  ⟨c1,c2,c3,c4,fun c q=>by cases q⟩
 rw[Ot]at S2 X12;have ahK:=Cq V kT B5 S2 (vs:=cf++#[.func (.yield (w.heap.size+1)) #[] #[]]++cc) (by
  rw[aNQ,aNQ];refine((Rs.ext X12 _ _ _ _ hle r1).append ?_).append (Rs.ext X12 _ _ _ _ hle r2);simp only[Rs];refine⟨_,_,rfl,?_,rfl⟩;simp only[R];exact⟨w.heap.size+1,0,by simp[dZ.put,aps],rfl⟩)
 have j7:(resolve a.eval (rangeCall g (w.heap.size+1)) 0).run P ((w.alloc (.deferred (some []))).alloc (.loop rc))=
   .ok {target:=.fn (.func f) cc,args:=cf++#[.func (.yield (w.heap.size+1)) #[] #[]]} ((w.alloc (.deferred (some []))).alloc (.loop rc)):=by
  have hc:∀v:Value,a.eval (.const v)=v:=fun _=>rfl
  simp[resolve,hgv,Deferred.ofValue,hc]
 have hinv:(invoke (.fn (.func f) cc) (cf++#[.func (.yield (w.heap.size+1)) #[] #[]])).run P ((w.alloc (.deferred (some []))).alloc (.loop rc))=
   .ok (.enter f (cf++#[.func (.yield (w.heap.size+1)) #[] #[]]++cc)) ((w.alloc (.deferred (some []))).alloc (.loop rc)):=by
  simpa[invoke]using n7 V oJ _ _
 have Eo:(Instr.enterLoop fn a.tmps ps assign body none).run P w=.ok (w.heap.size+1,[{target:=.collected w.heap.size,args:=#[]}]) ((w.alloc (.deferred (some []))).alloc (.loop rc)):=
  run_enterLoop_outer _ _ _ _ _
 refine⟨_,_,_,_,_,_,_,_,Eo,j7,fun f' _=>mD.fn (.inl rfl) f',hinv,by rw[mD.deep (.inl rfl)];simp,?_⟩;refine CallsIn.mono ahK fun e w3 he=>?_
 ·cases e with
  |panicked _=>exact he.elim
  |outgrown=>exact he.elim
  |returned v'=>
   obtain⟨ι3,q1,q2,q3,q4⟩:=he;have hi3:ι3 H.length=some (w.heap.size+1,0):=q1 _ _ (by simp[dZ.put,aps]);obtain⟨r,l1,l2,l3,l4,l5,l6,l7⟩:=zX q2 hl hi3;have F3:=q2.tP _ _ hl rfl;have U:=wQ (st':=.exhausted) (pend':=oq) q2 hl hi3 l1 F3.2.2.2.2;have axB:({r with state:=.exhausted,pending:=oq}:Loop)={r with state:=.exhausted}:=by rw[<-l3]
   rw[axB]at U;refine⟨r.pending,_,run_endLoop l1 (by rw[l2];exact fK),?_⟩;have X3:=X12.trans (q3.trans U.2);have ahW:=dZ.le_trans hle q1;have M3:Dp B {a with defers:=[{target:=.collected w.heap.size,args:=#[]}]++a.defers} (w3.putObj (w.heap.size+1) (.loop {r with state:=.exhausted}))
     (Live Lo ι3 (H2.set H.length (.loop .exhausted oq Na M9 MU b3))):=by
    obtain⟨ks,n1,n2,n3⟩:=S.mks;refine⟨w.heap.size::ks,?_,by simp[n2],fun k hk=>?_⟩
    ·rw[List.nodup_cons];refine⟨fun hm=>?_,n1⟩
     have:=eh (n3 _ hm).1
     omega
    ·rcases List.mem_cons.1 hk with rfl|hk
     ·have g1:((w.alloc (.deferred (some []))).alloc (.loop rc)).heap[w.heap.size]?=some (.deferred (some [])):=by simp only[World.alloc];rw[aLw,if_neg (by simp),aLw,if_pos rfl]
      have g2:¬Live Lo (ι.put H.length ((w.alloc (.deferred (some []))).heap.size,0)) (H++[nb]) w.heap.size:=by
       rw[<-Ot,EK MY rfl];rintro(hq|hq)
       ·exact absurd (ZG S.Py hq) (by omega)
       ·omega
      have:=(q3.trans U.2).keep g1 g2
      exact⟨this.1,this.2,GY⟩
     ·obtain⟨g1,g2,g3⟩:=n3 k hk
      have:=X3.keep g1 g2
      exact⟨this.1,this.2,g3⟩
   have S3:St E B Lo w0 ι3 (H2.set H.length (.loop .exhausted oq Na M9 MU b3)) ts {a with defers:=[{target:=.collected w.heap.size,args:=#[]}]++a.defers}
     (w3.putObj (w.heap.size+1) (.loop {r with state:=.exhausted})):=⟨U.1,Rs.ext X3 _ _ _ _ ahW S.tm,M3⟩
   clear U;generalize(w3.putObj (w.heap.size+1) (.loop {r with state:=.exhausted}))=w4 at*;rw[l3];cases oq with
   |none=>
    simp only[aLv.injEq,Prod.mk.injEq]at KY;obtain⟨rfl,rfl,rfl⟩:=KY;exact hk _ _ ι3 ahW X3 S3
   |some c=>
    exact kT c _ _ _ _ _ KY (F3.2.2.2.2 c rfl) Fence.wide (.inl rfl) (.inl rfl) B Lo w0 ι3 _ _ hB (aNR GY X3.size) S3 Q (hk.chain ahW X3)
theorem Vv(V:Valid E P)(O:za E P){rec:Cd}{k:Nat}(kT:rL E P rec)(aoH:Iq E P rec k)(G4:Nc E P rec):rL E P (dI E rec)/\Iq E P (dI E rec) (k+1):=by
 have hl:Iq E P (dI E rec) (k+1):=by
  intro c ts H ex df H' h hc F hF T3 B Lo w0 ι w a hB GY S Q hk;simp only[dI]at h;rw[roundsIn_succ];cases hb:rec c ts H with
  |none=>rw[hb]at h;cases h
  |some r=>
   obtain⟨e1,yV,H1⟩:=r;rw[hb]at h;refine kT c ts H e1 yV H1 hb hc F hF T3 B Lo w0 ι w a hB GY S _ fun a1 w1 ι1 k1 k2 k3=>?_
   cases e1 with
   |normal=>exact aoH c yV H1 ex df H' h hc F hF T3 B Lo w0 ι1 w1 a1 hB (aNR GY k2.size) k3 Q (hk.chain k1 k2)
   |exit id=>cases h;exact hk _ _ _ k1 k2 k3
   |ret=>cases h;exact hk _ _ _ k1 k2 k3
 refine⟨?_,hl⟩;intro c ts H ex df H' h hc F hF T3 B Lo w0 ι w a hB GY S Q hk;cases c with
 |skip=>simp only[dI,aLv.injEq,Prod.mk.injEq]at h;obtain⟨rfl,rfl,rfl⟩:=h;exact wpIn_skip (hk _ _ _ (dZ.le_refl _) (Ext.refl _ _) S)
 |label l=>simp only[dI,aLv.injEq,Prod.mk.injEq]at h;obtain⟨rfl,rfl,rfl⟩:=h;exact wpIn_label (hk _ _ _ (dZ.le_refl _) (Ext.refl _ _) S)
 |exit id=>simp only[dI,aLv.injEq,Prod.mk.injEq]at h;obtain⟨rfl,rfl,rfl⟩:=h;exact wpIn_exit (hk _ _ _ (dZ.le_refl _) (Ext.refl _ _) S)
 |ret=>simp only[dI,aLv.injEq,Prod.mk.injEq]at h;obtain⟨rfl,rfl,rfl⟩:=h;exact wpIn_ret (hk _ _ _ (dZ.le_refl _) (Ext.refl _ _) S)
 |scope body=>simp[dI]at h
 |goto l=>simp[dI]at h
 |refuse why=>simp[dI]at h
 |region id ops draw=>
  simp only[dI,aLp]at h;obtain⟨⟨t1,h1⟩,hr,he⟩:=h;simp only[Prod.mk.injEq]at he;obtain⟨rfl,rfl,rfl⟩:=he;cases draw with
  |false=>
   simp only[aLs,if_false]at hr;exact Tb V (JC V O kT) (Ri V O kT) (Fo V kT) hF hr S hk
  |true=>
   simp only[if_true]at hr;simp only[codeOk,Bool.not_true,Bool.false_or]at hc;exact G4 id ops ts H _ _ hr hc F hF B Lo w0 ι w a hB GY S Q hk
 |seq x y=>
  simp only[codeOk,aMq]at hc;have I2:(F=Fence.wide∨flat x=true)/\(F=Fence.wide∨flat y=true):=by
   rcases T3 with q|q
   ·exact⟨.inl q,.inl q⟩
   ·simp only[flat,aMq]at q;exact⟨.inr q.1,.inr q.2⟩
  simp only[dI]at h;cases hb:rec x ts H with
  |none=>rw[hb]at h;cases h
  |some r=>
   obtain⟨e1,yV,H1⟩:=r;rw[hb]at h;refine wpIn_seq (kT x ts H e1 yV H1 hb hc.1 F hF I2.1 B Lo w0 ι w a hB GY S _ fun a1 w1 ι1 k1 k2 k3=>?_);cases e1 with
   |normal=>exact kT y yV H1 ex df H' h hc.2 F hF I2.2 B Lo w0 ι1 w1 a1 hB (aNR GY k2.size) k3 Q (hk.chain k1 k2)
   |exit id=>cases h;exact hk _ _ _ k1 k2 k3
   |ret=>cases h;exact hk _ _ _ k1 k2 k3
 |cond c x y=>
  simp only[codeOk,aMq]at hc;have I2:(F=Fence.wide∨flat x=true)/\(F=Fence.wide∨flat y=true):=by
   rcases T3 with q|q
   ·exact⟨.inl q,.inl q⟩
   ·simp only[flat,aMq]at q;exact⟨.inr q.1,.inr q.2⟩
  simp only[dI]at h;split at h
  case h_2=>cases h
  rename_i t ht;have hev:=fH S.tm ht;simp only[R]at hev;refine wpIn_cond hev ?_;cases t with
  |true=>exact kT x ts H ex df H' h hc.1 F hF I2.1 B Lo w0 ι w a hB GY S Q hk
  |false=>exact kT y ts H ex df H' h hc.2 F hF I2.2 B Lo w0 ι w a hB GY S Q hk
 |block id body=>
  simp only[codeOk]at hc;have I2:F=Fence.wide∨flat body=true:=by
   rcases T3 with q|q
   ·exact .inl q
   ·simp only[flat]at q;exact .inr q
  simp only[dI]at h;cases hb:rec body ts H with
  |none=>rw[hb]at h;cases h
  |some r=>
   obtain⟨e1,yV,H1⟩:=r;rw[hb]at h;refine wpIn_block (kT body ts H e1 yV H1 hb hc F hF I2 B Lo w0 ι w a hB GY S _ fun a1 w1 ι1 k1 k2 k3=>?_);cases e1 with
   |normal=>cases h;exact hk _ _ _ k1 k2 k3
   |ret=>cases h;exact hk _ _ _ k1 k2 k3
   |exit CN=>
    simp only[Ex.up,Exit.inBlock];simp only at h;split at h
    ·rename_i q;rw[if_pos q];cases h;exact hk _ _ _ k1 k2 k3
    ·rename_i q;rw[if_neg q];cases h;exact hk _ _ _ k1 k2 k3
 |loop body=>
  simp only[codeOk]at hc;have I2:F=Fence.wide∨flat body=true:=by
   rcases T3 with q|q
   ·exact .inl q
   ·simp only[flat]at q;exact .inr q
  exact wpIn_loop_rounds (k+1) (hl body ts H ex df H' h hc F hF I2 B Lo w0 ι w a hB GY S Q hk)
 |rangeFunc g ps assign body=>
  simp only[codeOk,aMq]at hc;have hFw:F=Fence.wide:=by
   rcases T3 with q|q
   ·exact q
   ·simp[flat]at q
  subst hFw;simp only[dI]at h;split at h
  case h_2=>cases h
  rename_i f first cap hg
  split at h
  case h_2=>cases h
  rename_i v H2 B5;split at h
  case h_2=>cases h
  rename_i st oq Na M9 MU b3 T6;split at h
  ·cases h
  rename_i fK;exact Jy V kT (fv:=.jH) hg B5 fK h T6 hc.1.1.1 hc.1.1.2 hc.1.2 hc.2 hB GY S hk
theorem zE(V:Valid E P)(O:za E P)(G4:∀rec,rL E P rec->Nc E P rec):∀n,rL E P (dJ E n)/\Iq E P (dJ E n) n
 |0=>⟨fun _ _ _ _ _ _ h=>by simp[dJ]at h,fun _ _ _ _ _ _ h=>by simp[dJ]at h⟩
 |n+1=>Vv V O (zE V O G4 n).1 (zE V O G4 n).2 (G4 _ (zE V O G4 n).1)
end
section
variable{E:Env}{pc:Pc}{ic yc:Ic}{dr:Bool}{ts df:List AV}{H H':Hp}{aM nid':Nat}{o:Oper}
theorem xF:∀(xs:List Operand),(∀x,x∈xs->ch ts x=ch df x)->nL ts xs=nL df xs
 |[],_=>rfl
 |x::xs,h=>by
  simp only[nL,h x (by simp),xF xs fun y hy=>h y (by simp[hy])]
theorem AY:∀(ps:List (Nat×Operand)),(∀x,x∈ps.map (·.2)->ch ts x=ch df x)->xH ts ps=xH df ps
 |[],_=>rfl
 |(i,x)::ps,h=>by
  simp only[xH,h x (by simp),AY ps fun y hy=>h y (by simp only[List.map_cons,List.mem_cons];exact .inr hy)]
theorem wg(x:Option Operand)(h:∀y,y∈x.toList->ch ts y=ch df y):jc ts x=jc df x:=by
 cases x with
 |none=>rfl
 |some x=>simp only[jc,h x (by simp)]
theorem SW(h:∀x,x∈o.op.operands.toList->ch ts x=ch df x):eN E pc ic yc dr ts H aM o=eN E pc ic yc dr df H aM o:=by
 unfold eN;cases ho:o.op<;>simp only[ho,Op.operands]at h⊢
 case move x=>rw[h x (by simp)]
 case assign x=>rw[h x (by simp)]
 case pick c a b=>
  rw[h c (by simp)]
  split
  ·split<;>rw[h _ (by simp)]
  ·rfl
 case box t x=>rw[h x (by simp)]
 case build t ps=>rw[AY ps.toList (fun x hx=>h x (by simpa using hx))]
 case buildSlice t len ps=>rw[AY ps.toList (fun x hx=>h x (by simpa using hx))]
 case load t x=>rw[h x (by simp)]
 case store t x y=>rw[h x (by simp),h y (by simp)]
 case nilCheck x=>rw[h x (by simp)]
 case binOp op t x y _=>rw[h x (by simp),h y (by simp)]
 case unOp op t x=>rw[h x (by simp)]
 case convert s d x=>rw[h x (by simp)]
 case makeInterface t x=>rw[h x (by simp)]
 case makeFunc fn first cap=>
  cases fn<;>try rfl
  simp only;rw[xF first.toList (fun x hx=>h x (by simp at hx⊢;exact .inl hx)),xF cap.toList (fun x hx=>h x (by simp at hx⊢;exact .inr hx))]
 case makeMap t r=>rw[wg r (fun x hx=>h x (by simpa using hx))]
 case makeSlice t x y=>rw[h x (by simp),h y (by simp)]
 case slice t x lo hi mx=>
  rw[h x (by simp),wg lo (fun x hx=>h x (by simp at hx⊢;simp[hx])),wg hi (fun x hx=>h x (by simp at hx⊢;simp[hx]))]
 case fieldAddr t x f=>rw[h x (by simp)]
 case field t x f=>rw[h x (by simp)]
 case indexAddr t x i=>rw[h x (by simp),h i (by simp)]
 case index t x i=>rw[h x (by simp),h i (by simp)]
 case lookup t x i ok=>rw[h x (by simp),h i (by simp)]
 case mapUpdate t m k x=>rw[h m (by simp),h k (by simp),h x (by simp)]
 case insert t m k x=>rw[h m (by simp),h k (by simp),h x (by simp)]
 case sliceToArrayPointer t x=>rw[h x (by simp)]
 case range t x=>rw[h x (by simp)]
 case next it s=>
  cases s<;>try rfl
  simp only;rw[h it (by simp)]
 case extract t i=>rw[h t (by simp)]
 case call c=>
  rw[xF c.args.toList (fun x hx=>h x (by simp only[Call.operands,aNQ,List.mem_append];exact .inr hx))];cases hc:c.callee with
  |builtin b=>rfl
  |invoke r m=>rfl
  |value f=>simp only;rw[h f (by simp[Call.operands,hc])]
theorem IC{b:Builtin}(h:b≠ .append)(eg:List Nat)(a_:List AV):aZ E H aM b eg a_=aZ E H nid' b eg a_:=by
 unfold aZ;cases b<;>first|exact absurd rfl h|skip
 all_goals rcases eg with _|⟨t,_|⟨u,r⟩⟩<;>rcases a_ with _|⟨x,_|⟨y,s⟩⟩<;>first|rfl|(cases x<;>rfl)
theorem Dg(h:ck E o=false):eN E pc ic yc dr ts H aM o=eN E pc ic yc dr ts H nid' o:=by
 unfold eN;unfold ck at h;cases ho:o.op<;>simp only[ho]at h⊢<;>try (cases h;done)
 case convert s d x=>
  split<;>rename_i h1<;>try rfl
  all_goals (simp[*]at h)
 case call c=>
  cases hc:c.callee with
  |invoke r m=>rfl
  |value f=>rfl
  |builtin b=>
   simp only[hc]at h;have hb:b≠ .append:=fun q=>by subst q;simp at h
   simp only
   split
   ·rw[IC (aM:=aM) (nid':=nid') hb]
   ·rfl
 case makeFunc fn first cap=>cases fn<;>rfl
 case next it s=>cases s<;>rfl
theorem NF{b:Builtin}(hb:b=.cap∨b=.max∨b=.min){eg:List Nat}{a_:List AV}{y:AV}{l:List (Nat×cG)}(h:aZ E H aM b eg a_=some (y,l)):
  l=[]/\∀H' nid',aZ E H' nid' b eg a_=some (y,l):=by
 have key:∀{r:Option AV},(r.map fun v=>(v,([]:List (Nat×cG))))=some (y,l)->l=[]:=fun{r} h=>by
  rw[aLp]at h;obtain⟨_,_,q⟩:=h;cases q;rfl
 rcases hb with rfl|rfl|rfl
 ·rcases eg with _|⟨t,eg⟩
  ·cases h
  rcases a_ with _|⟨x,a_⟩
  ·cases h
  cases x<;>try (cases h;done)
  have h':(match E.ty t with
   |some {cS:=.slice _,..}=>some (AV.int .i64 0,([]:List (Nat×cG)))
   |_=>none)=some (y,l):=h
  refine⟨?_,fun _ _=>h⟩;split at h'
  ·cases h';rfl
  ·cases h'
 ·rcases a_ with _|⟨x,a_⟩
  ·rcases eg with _|⟨t,_|⟨u,r⟩⟩<;>cases h
  ·have e1:∀H aM,aZ E H aM .max eg (x::a_)=((B0 QU x a_).map fun v=>(v,[])):=fun H aM=>by
    rcases eg with _|⟨t,_|⟨u,r⟩⟩<;>rcases a_ with _|⟨y,s⟩<;>cases x<;>rfl
   rw[e1]at h;exact⟨key h,fun _ _=>by rw[e1];exact h⟩
 ·rcases a_ with _|⟨x,a_⟩
  ·rcases eg with _|⟨t,_|⟨u,r⟩⟩<;>cases h
  ·have e1:∀H aM,aZ E H aM .min eg (x::a_)=((B0 QV x a_).map fun v=>(v,[])):=fun H aM=>by
    rcases eg with _|⟨t,_|⟨u,r⟩⟩<;>rcases a_ with _|⟨y,s⟩<;>cases x<;>rfl
   rw[e1]at h;exact⟨key h,fun _ _=>by rw[e1];exact h⟩
theorem aqz(hc:jG E o=.n){v:AV}{e:cJ}(h:eN E pc ic yc dr ts H aM o=some (v,e)):e=.bM []/\∀H' nid',eN E pc ic yc dr ts H' nid' o=some (v,e):=by
 have key:∀{r:Option AV},(r.map fun x=>(x,cJ.bM []))=some (v,e)->e=.bM []:=fun{r} h=>by
  rw[aLp]at h;obtain⟨_,_,q⟩:=h;cases q;rfl
 unfold eN at h;unfold jG at hc;unfold eN;cases ho:o.op<;>simp only[ho]at hc h⊢<;>try (cases hc;done)
 case move x=>exact⟨key h,fun _ _=>h⟩
 case assign x=>exact⟨key h,fun _ _=>h⟩
 case pick c a b=>
  split at h
  ·exact⟨key h,fun _ _=>h⟩
  ·cases h
 case build t ps=>
  split at h
  ·exact⟨key h,fun _ _=>h⟩
  ·cases h
 case nilCheck x=>
  split at h<;>first|exact⟨key h,fun _ _=>h⟩|(cases h;done)
 case binOp op t x y _=>
  split at h
  ·exact⟨key h,fun _ _=>h⟩
  ·cases h
 case unOp op t x=>
  split at h
  ·exact⟨key h,fun _ _=>h⟩
  ·cases h
 case makeInterface t x=>
  split at h
  ·split at h
   ·cases h
   ·exact⟨key h,fun _ _=>h⟩
  ·cases h
 case makeFunc fn first cap=>
  cases fn<;>simp only at h⊢<;>try (cases h;done)
  split at h
  ·exact⟨key h,fun _ _=>h⟩
  ·cases h
 case fieldAddr t x f=>
  split at h
  ·exact⟨key h,fun _ _=>h⟩
  ·cases h
 case field t x f=>
  split at h
  ·exact⟨key h,fun _ _=>h⟩
  ·cases h
 case indexAddr t x i=>
  split at h
  ·exact⟨key h,fun _ _=>h⟩
  ·cases h
 case index t x i=>
  split at h
  ·exact⟨key h,fun _ _=>h⟩
  ·cases h
 case sliceToArrayPointer t x=>
  split at h
  ·split at h
   ·cases h
   ·rename_i gO;rw[if_neg gO];exact⟨key h,fun _ _=>h⟩
  ·split at h
   ·cases h
   ·rename_i gO;rw[if_neg gO];exact⟨key h,fun _ _=>h⟩
  ·cases h
 case extract t i=>
  split at h
  ·exact⟨key h,fun _ _=>h⟩
  ·cases h
 case slice t x lo hi mx=>
  split at h
  ·split at h
   ·simp[*]at hc
   ·rename_i dM;refine⟨key h,fun _ _=>?_⟩;exact h
  ·cases h
 case convert s d x=>
  split at hc<;>cases hc
 case call c=>
  cases pT:c.callee with
  |invoke r m=>simp only[pT]at h;cases h
  |value f=>
   simp only[pT]at hc;cases f<;>simp only at hc<;>try (cases hc;done)
   split at hc<;>cases hc
  |builtin b=>
   simp only[pT]at h⊢;split at h
   case h_2=>cases h
   rename_i a_ has;rw[aLp]at h;obtain⟨⟨y,l⟩,h1,h2⟩:=h;cases h2;have hb:b=.cap∨b=.max∨b=.min:=by
    simp only[pT]at hc;cases b<;>simp at hc⊢
   obtain⟨g1,g2⟩:=NF hb h1;subst g1;exact⟨rfl,fun H' nid'=>by rw[g2 H' nid'];rfl⟩
end
end Dv
