/- Lemmas for AssemblyChecks; no condition. -/
import Derived.Test.YtmkjgfnicfpjpaaGreatDoorTac
import Derived.TacticsIn
import Derived.RangeFuncRecord
import Derived.RangeFuncIn
import Derived.LoopNIn
set_option linter.all false
set_option maxHeartbeats 100000000
set_option maxRecDepth 100000
noncomputable section
open Option renaming map_eq_some_iff->aKD,some->aK3,map_some->aLt
open Array renaming toList_append->aM6,length_toList->aMq,getElem?_push->aKC,toList_setIfInBounds->aM8,toList_replicate->aM9,getElem?_toList->aK2
open Bool renaming and_eq_true->aMh,false_eq_true->aK4
open Nat renaming le_trans->aM7,le_refl->aKE,lt_of_lt_of_le->aNb
open List renaming replicate->aKF,mem_append_right->aNa,mem_cons->aMp
namespace Dv
open Go Go.RowKit
def LI(Rr:Value->World->Prop):Ending->World->Prop
 |.returned v,w=>Rr v w
 |_,_=>False
def lL(P:Program)(r:Result Next)(Rr:Value->World->Prop):Prop:=
 (∃v w',r=.ok (.value v) w'/\Rr v w')∨
 (∃f args w1,r=.ok (.enter f args) w1/\CallsIn Fence.wide 0 P f args w1 (LI Rr))∨
 (∃l f tmps assign body w1,r=.ok (.round l f tmps assign body) w1/\RoundIn Fence.wide 0 P l f tmps assign body w1 (LI Rr))
def j9(F:Fence):Prop:=F=Fence.wide∨∃l,F=Fence.wide.inRound l
def j9.abV{F:Fence}(hF:j9 F){P:Program}{f:FuncId}{args:Array Value}{w:World}{R:Ending->World->Prop}(h:CallsIn Fence.wide 0 P f args w R):CallsIn F 0 P f args w R:=by
 rcases hF with rfl|⟨l,rfl⟩
 ·exact h
 ·exact h
def j9.aeD{F:Fence}(hF:j9 F){P:Program}{l:Nat}{f:FuncId}{tmps:Array Value}{assign body:Code}{w:World}{R:Ending->World->Prop}(h:RoundIn Fence.wide 0 P l f tmps assign body w R):
  RoundIn F 0 P l f tmps assign body w R:=by
 rcases hF with rfl|⟨l',rfl⟩
 ·exact h
 ·exact h
def j9.fn{F:Fence}(hF:j9 F)(f:FuncId):F.fn f:=by
 rcases hF with rfl|⟨l,rfl⟩<;>exact trivial
def j9.deep{F:Fence}(hF:j9 F):F.depth=none:=by
 rcases hF with rfl|⟨l,rfl⟩<;>rfl
def lL.wpIn{P:Program}{F:Fence}(hF:j9 F){o:Oper}{a:Act}{w:World}{Rr:Value->World->Prop}(hd:∀c,o.op≠ .defer c)
  (h:lL P ((execOp a.eval o).run P w) Rr) {next:Act->World->Prop} {Q:Exit->Act->World->Prop} (hn:∀cv w',Rr cv w'->next (a.put o.dst cv) w'):
  o.wpIn F 0 P a w next Q:=by
 unfold Oper.wpIn;refine⟨fun f _=>hF.fn f,?_⟩;rw[Oper.semAt_eq _ _ _ hd];have hdp:F.depth.isSome=true->1<=0:=by rw[hF.deep];simp
 rcases h with⟨v,w',h1,h2⟩|⟨f,args,w1,h1,h2⟩|⟨l,f,tmps,assign,body,w1,h1,h2⟩
 ·rw[h1,Oper.uponIn_value];exact hn _ _ h2
 ·rw[h1,Oper.uponIn_enter];refine⟨hdp,hF.abV (CallsIn.mono h2 fun e w' he=>?_)⟩;cases e with
  |returned v=>exact hn _ _ he
  |panicked _=>exact he.elim
  |outgrown=>exact he.elim
 ·rw[h1,Oper.uponIn_round];refine⟨hdp,hF.aeD (RoundIn.mono h2 fun e w' he=>?_)⟩;cases e with
  |returned v=>exact hn _ _ he
  |panicked _=>exact he.elim
  |outgrown=>exact he.elim
section
variable{E:Env}{P:Program}{ι:cS}{w:World}{L L':Nat->Prop}{Lo:Nat->Prop}{w0:World}{H:Hp}
def sM(E:Env)(Lo:Nat->Prop)(w0:World)(ι:cS)(H:Hp)(w:World)(v:AV)(H2:Hp)(cv:Value)(w':World):Prop:=
 ∃ι':cS,ι.le ι'/\fR E Lo w0 ι' H2 w'/\Ext w (Live Lo ι H) w' (Live Lo ι' H2)/\R ι' w' (Live Lo ι' H2) v cv
def xD(E:Env)(L:Nat->Prop)(w:World):Prop:=∀g cs,E.glob g=some cs->∃c e f,w.heap[g]?=some (.cells c e f)/\¬L g/\iI cg w L c 0 cs/\c.size=cs.length
def lT(E:Env)(P:Program)(pc:Pc):Prop:=∀f a_ r,pc f a_=some r->∀(L:Nat->Prop) (w:World) (vs:Array Value),(∀c,L c->c<w.heap.size)->xD E L w->
 Rs cg w L a_ vs.toList->lL P ((callFunc f vs).run P w) (fun v w'=>Below w.heap.size w w'/\R cg w' L r v)
def qn(E:Env)(P:Program)(ic:Ic):Prop:=∀f a_ H v H2,ic f a_ H=some (v,H2)->∀(Lo:Nat->Prop) (w0:World) (ι:cS) (w:World) (vs:Array Value),fR E Lo w0 ι H w->
 Rs ι w (Live Lo ι H) a_ vs.toList->lL P ((callFunc f vs).run P w) (sM E Lo w0 ι H w v H2)
def qW(E:Env)(P:Program)(yc:Ic):Prop:=∀l a_ H v H2,yc l a_ H=some (v,H2)->∀(Lo:Nat->Prop) (w0:World) (ι:cS) (w:World) (vs:Array Value) (cb co:Nat),fR E Lo w0 ι H w->
 Rs ι w (Live Lo ι H) a_ vs.toList->ι l=some (cb,co)->lL P ((Instr.yield cb vs).run P w) (sM E Lo w0 ι H w v H2)
def lL.mono{r:Result Next}{R1 R2:Value->World->Prop}(h:lL P r R1)(hm:∀v w,R1 v w->R2 v w):lL P r R2:=by
 have hr:∀e w,LI R1 e w->LI R2 e w:=fun e w he=>by
  cases e with
  |returned v=>exact hm _ _ he
  |panicked _=>exact he.elim
  |outgrown=>exact he.elim
 rcases h with⟨v,w',h1,h2⟩|⟨f,args,w1,h1,h2⟩|⟨l,f,tmps,assign,body,w1,h1,h2⟩
 ·exact .inl ⟨v,w',h1,hm _ _ h2⟩
 ·exact .inr (.inl ⟨f,args,w1,h1,CallsIn.mono h2 hr⟩)
 ·exact .inr (.inr ⟨l,f,tmps,assign,body,w1,h1,RoundIn.mono h2 hr⟩)
def QW(S:fR E Lo w0 ι H w):∀c,Live Lo ι H c->c<w.heap.size:=by
 rintro c (hc|⟨b,bk,co,h1,h2,h3⟩)
 ·exact aNb (S.lo c hc) S.below.size
 ·exact(S.Ih b _ h3).2
def fR.later(S:fR E Lo w0 ι H w){w':World}(hb:Below w.heap.size w w'):fR E Lo w0 ι H w'/\Ext w (Live Lo ι H) w' (Live Lo ι H):=by
 have hx:Ext w (Live Lo ι H) w' (Live Lo ι H):=by refine⟨hb.size,fun c hc hn=>⟨hb.block c hc,hn⟩,fun c cs e f hc=>⟨cs,f,?_,rfl⟩⟩;rw[hb.block c (eG hc)];exact hc
 refine⟨⟨S.below.trans (hb.mono S.below.size),S.lo,?_,?_,S.inj,?_,S.pT,S.res⟩,hx⟩
 ·intro b p hp
  have:=S.Ih b p hp
  exact⟨this.1,aNb this.2 hb.size⟩
 ·intro b bk GW hd;obtain⟨c1,k1,ob,h1,h2,h3,h4,h5⟩:=S.obj b bk GW hd;exact⟨c1,k1,ob,h1,by rw[hb.block c1 (eG h2)];exact h2,h3.ext hx (cS.le_refl _),h4,h5⟩
 ·intro g cs hg;obtain⟨c,e,f,h1,h2,h3,hz⟩:=S.glob g cs hg
  have:=hx.keep h1 h2
  exact⟨c,e,f,this.1,this.2,iI.ext hx _ _ _ _ _ (cS.le_refl _) h3,hz⟩
mutual
def E8{ι':cS}{w':World}:∀(av:AV) (v:Value),bY av=true->R ι w L av v->R ι' w' L' av v
 |.bool _,_,_,h=>by simpa[R]using h
 |.int _ _,_,_,h=>by simpa[R]using h
 |.str _,_,_,h=>by simpa[R]using h
 |.gQ,_,_,h=>by simpa[R]using h
 |.bI _ _,_,p,_=>by simp[bY]at p
 |.cU _ _,_,p,_=>by simp[bY]at p
 |.ie _ _,_,p,_=>by simp[bY]at p
 |.aH,_,_,h=>by simpa[R]using h
 |.dx,_,_,h=>by simpa[R]using h
 |.aI _ _ _ _ _,_,p,_=>by simp[bY]at p
 |.aK _ _,_,p,_=>by simp[bY]at p
 |.gd,_,_,h=>by simpa[R]using h
 |.eS _,_,p,_=>by simp[bY]at p
 |.vM _ _,_,p,_=>by simp[bY]at p
 |.fQ,_,_,h=>by simpa[R]using h
 |.func _ _ _,_,p,_=>by simp[bY]at p
 |.nilIface,_,_,h=>by simpa[R]using h
 |.iface _ _,_,p,_=>by simp[bY]at p
 |.agg cs,_,p,h=>by
  simp only[bY]at p;simp only[R]at h⊢;obtain⟨y,h1,h2⟩:=h;exact⟨y,h1,wh _ _ p h2⟩
 |.tuple cs,_,p,h=>by
  simp only[bY]at p;simp only[R]at h⊢;obtain⟨y,h1,h2⟩:=h;exact⟨y,h1,wh _ _ p h2⟩
 |.yield _,_,p,_=>by simp[bY]at p
def wh{ι':cS}{w':World}:∀(xs:List AV) (vs:List Value),bY.tV xs=true->Rs ι w L xs vs->Rs ι' w' L' xs vs
 |[],_,_,h=>by simpa[Rs]using h
 |x::xs,_,p,h=>by
  simp only[bY.tV,aMh]at p;simp only[Rs]at h⊢;obtain⟨y,ys,h1,h2,h3⟩:=h;exact⟨y,ys,h1,E8 _ _ p.1 h2,wh _ _ p.2 h3⟩
end
def ah3{x:Option (AV×Hp)}{dr:Bool}{v:AV}{e:cC}(h:(match x with
  |some (v,h)=>if(dr&&!r9 H h)=true then none else some (v,cC.Es h)
  |none=>none)=some (v,e)):(x.map fun(v,h)=>(v,cC.Es h))=some (v,e):=by
 cases x with
 |none=>cases h
 |some p=>
  obtain⟨u,k⟩:=p;simp only at h;split at h
  ·cases h
  ·exact h
def RT{pc:Pc}{ic yc:Ic}(hp:lT E P pc)(hi:qn E P ic)(hy:qW E P yc)(S:fR E Lo w0 ι H w){dr:Bool}{fv v:AV}{e:cC}{cfv:Value}{args:List AV}{Ck:Array Value}
  (hf:R ι w (Live Lo ι H) fv cfv) (ha:Rs ι w (Live Lo ι H) args Ck.toList) (h:ka E pc ic yc dr H fv args=some (v,e)):
  lL P ((do let d<-Deferred.ofValue cfv Ck;invoke d.target d.args:Sem Next).run P w) (sM E Lo w0 ι H w v (e.app H)):=by
 unfold ka at h;split at h
 ·
  rename_i l;rw[aKD]at h;obtain⟨⟨v',H2⟩,h1,h2⟩:=h;cases h2;simp only[R]at hf;obtain⟨cb,co,g1,rfl⟩:=hf
  have:=hy l args H v H2 h1 Lo w0 ι w Ck cb co S ha g1
  simpa[Deferred.ofValue,invoke,cC.app]using this
 ·rename_i f first cap
  simp only[R]at hf;obtain⟨cf,cc,rfl,r1,r2⟩:=hf;have pY:Rs ι w (Live Lo ι H) (first++args++cap) (cf++Ck++cc).toList:=by rw[aM6,aM6];exact(r1.append ha).append r2
  have hinv:(do let d<-Deferred.ofValue (.func (.func f) cf cc) Ck;invoke d.target d.args:Sem Next).run P w=(callFunc f (cf++Ck++cc)).run P w:=by simp[Deferred.ofValue,invoke]
  rw[hinv];have h':(match bW H (first++args++cap)with
    |some (a_,bs)=>(pc f a_).map fun v=>(v,if bY v then cC.looks bs else cC.marks bs)
    |none=>none)=some (v,e)∨((ic f (first++args++cap) H).map fun(v,h)=>(v,cC.Es h))=some (v,e):=by
   simp only at h;split at h<;>(try simp only at h)<;>split at h
   all_goals first|exact .inl h|exact .inr (ah3 h)
  clear h;rcases h' with h|h
  ·
   split at h
   case h_2=>cases h
   rename_i a_ bs zN;rw[aKD]at h;obtain⟨r,h1,h2⟩:=h;cases h2;have M:=S.mark bs;have G:=pU S pY zN;have C:=hp f a_ v h1 (Live Lo ι (mark H bs)) w (cf++Ck++cc) (QW M.1) M.1.glob G;refine C.mono fun cv w' hc=>?_
   by_cases zQ:bY v=true
   ·simp only[zQ,if_true,cC.app];have T:=S.later hc.1;exact⟨ι,cS.le_refl _,T.1,T.2,E8 _ _ zQ hc.2⟩
   ·simp only[zQ,aK4,if_false,cC.app];have T:=M.1.later hc.1;exact⟨ι,cS.le_refl _,T.1,M.2.trans T.2,R.ext (Ext.refl _ _) _ _ _ _ (qH ι) hc.2⟩
  ·rw[aKD]at h;obtain⟨⟨v',H2⟩,h1,h2⟩:=h;cases h2;simp only[cC.app];exact hi f _ H v H2 h1 Lo w0 ι w _ S pY
 ·cases h
def Zg(V:Valid E P){pc:Pc}{ic yc:Ic}(hp:lT E P pc)(hi:qn E P ic)(hy:qW E P yc)(S:fR E Lo w0 ι H w){dr:Bool}{aP:Nat}(hf:mD ι H aP)
  {ts:List AV} {a:Act} (ht:Rs ι w (Live Lo ι H) ts a.tmps.toList) {o:Oper} {v:AV} {e:cC} (h:dH E pc ic yc dr ts H aP o=some (v,e)):
  ∀{F:Fence},j9 F->∀{next:Act->World->Prop} {Q:Exit->Act->World->Prop},(∀cv w',sM E Lo w0 ι H w v (e.app H) cv w'->next (a.put o.dst cv) w')->o.wpIn F 0 P a w next Q:=by
 intro F hF next Q hn;have hd:∀c,o.op≠ .defer c:=by intro c q;unfold dH at h;rw[q]at h;cases h
 by_cases hc:q9 o=true
 ·refine lL.wpIn (Rr:=sM E Lo w0 ι H w v (e.app H)) hF hd ?_ hn;unfold q9 at hc;unfold dH at h;unfold execOp;cases ho:o.op<;>simp only[ho]at h hc⊢<;>try (cases hc;done)
  rename_i c;cases mO:c.callee<;>simp only[mO]at h hc⊢<;>try (cases hc;done)
  rename_i f;split at h
  case h_2=>cases h
  rename_i fv a_ hfv has;have hr:Rs ι w (Live Lo ι H) a_ (c.args.map a.eval).toList:=by
   have:=Ja ht has
   simpa using this
  have:=RT hp hi hy S (dU ht hfv) hr h
  simpa[resolve,mO]using this
 ·obtain⟨nx,cv,w',h1,h2,h3⟩:=ad8 V S hf ht (by simpa using hc) h;unfold Oper.wpIn;refine⟨fun f _=>hF.fn f,?_⟩;rw[Oper.semAt_eq _ _ _ hd,h1];rcases h2 with rfl|⟨rfl,rfl⟩
  ·rw[Oper.uponIn_value];exact hn _ _ h3
  ·rw[Oper.uponIn_skip];exact hn _ _ h3
end
def BZ(B:Nat)(a:Act)(w:World)(L:Nat->Prop):Prop:=
 ∃ks:List Nat,ks.Nodup/\a.defers=ks.map (fun k=>{target:=.collected k,args:=#[]})/\∀k,k∈ks->w.heap[k]?=some (.deferred (some []))/\¬L k/\B<=k
structure St(E:Env)(B:Nat)(Lo:Nat->Prop)(w0:World)(ι:cS)(H:Hp)(ts:List AV)(a:Act)(w:World):Prop where
 Bv:fR E Lo w0 ι H w
 tm:Rs ι w (Live Lo ι H) ts a.tmps.toList
 SS:BZ B a w (Live Lo ι H)
def BZ.ext{B:Nat}{a a':Act}{w w':World}{L L':Nat->Prop}(h:BZ B a w L)(hx:Ext w L w' L')(hd:a'.defers=a.defers):BZ B a' w' L':=by
 obtain⟨ks,h1,h2,h3⟩:=h;refine⟨ks,h1,by rw[hd,h2],fun k hk=>?_⟩;obtain⟨g1,g2,g3⟩:=h3 k hk
 have:=hx.keep g1 g2
 exact⟨this.1,this.2,g3⟩
def Bb(E:Env)(B:Nat)(Lo:Nat->Prop)(w0:World)(ι:cS)(H:Hp)(w:World)(ts':List AV)(H':Hp)(K:Act->World->Prop):Prop:=
 ∀(a':Act) (w':World) (ι':cS),ι.le ι'->Ext w (Live Lo ι H) w' (Live Lo ι' H')->St E B Lo w0 ι' H' ts' a' w'->K a' w'
def Bb.chain{E:Env}{B:Nat}{Lo:Nat->Prop}{w0:World}{ι ι':cS}{H H' H2:Hp}{w w':World}{oc:List AV}{K:Act->World->Prop}(h:Bb E B Lo w0 ι H w oc H2 K)
  (hle:ι.le ι') (hx:Ext w (Live Lo ι H) w' (Live Lo ι' H')):Bb E B Lo w0 ι' H' w' oc H2 K:=
 fun a2 w2 ι2 h1 h2 h3=>h a2 w2 ι2 (cS.le_trans hle h1) (hx.trans h2) h3
def Ex.up:Ex->Exit
 |.normal=>.normal
 |.exit id=>.exit id
 |.ret=>.ret
def nf(E:Env)(P:Program)(rec:Cd):Prop:=∀c ts H ex ts' H',rec c ts H=some (ex,ts',H')->codeOk E c=true->∀(F:Fence),j9 F->(F=Fence.wide∨flat c=true)->∀(B:Nat) (Lo:Nat->Prop) (w0:World) (ι:cS) (w:World) (a:Act),
 w0.heap.size<=B->B<=w.heap.size->St E B Lo w0 ι H ts a w->∀Q:Exit->Act->World->Prop,Bb E B Lo w0 ι H w ts' H' (Q ex.up)->c.wpIn F 0 P Q a w
section
variable{E:Env}{P:Program}{ι:cS}{w:World}{L L':Nat->Prop}{Lo:Nat->Prop}{w0:World}{H:Hp}{ts:List AV}{a:Act}{B:Nat}
def ahq{x:AV}{b:Bool}(h:R ι w L x (.bool b)):x=.bool b:=by
 cases x<;>simp[R]at h⊢
 exact h.symm
def TX{ops:Array Oper}(ht:Rs ι w L ts a.tmps.toList)(o:Oper):Region.wanted o (yielded ops a.tmps)=bE ops.toList ts o:=by
 unfold Region.wanted bE yielded;cases o.guard with
 |none=>rfl
 |some p=>
  obtain⟨j,want⟩:=p;simp only[aK2];cases (ops[j]?).bind (·.dst)with
  |none=>rfl
  |some d=>
   simp only[Option.bind_some];have hl:=ht.length;simp only[aMq]at hl;cases hd:ts[d]? with
   |none=>
    have:a.tmps[d]?=none:=by rw[Array.getElem?_eq_none_iff,hl];exact List.getElem?_eq_none_iff.1 hd
    simp[this]
   |some x=>
    obtain⟨v,h1,h2⟩:=ht.get d x hd;rw[aK2]at h1;rw[h1];by_cases hb:∃b,v=.bool b
    ·obtain⟨b,rfl⟩:=hb;rw[ahq h2];cases b<;>cases want<;>rfl
    ·have h3:∀b,v≠ .bool b:=fun b q=>hb ⟨b,q⟩
     have h4:∀b,x≠ .bool b:=fun b q=>by subst q;simp only[R]at h2;exact h3 b h2
     cases v<;>first|exact absurd rfl (h3 _)|skip
     all_goals (cases x<;>first|exact absurd rfl (h4 _)|rfl)
def Gm(ht:Rs ι w L ts a.tmps.toList){v:AV}{cv:Value}(hv:R ι w L v cv)(dst:Option Nat):Rs ι w L (bt dst v ts) (a.put dst cv).tmps.toList:=by
 cases dst with
 |none=>exact ht
 |some d=>
  simp only[bt,Act.put,aM8];exact ht.set d hv
def put_defers(a:Act)(dst:Option Nat)(v:Value):(a.put dst v).defers=a.defers:=by
 cases dst<;>rfl
def DT(V:Valid E P){pc:Pc}{ic yc:Ic}(hp:lT E P pc)(hi:qn E P ic)(hy:qW E P yc){dr:Bool}{aP:Nat}{ops:Array Oper}{o:Oper}{ts':List AV}{e:cC}
  (S:St E B Lo w0 ι H ts a w) (hf:mD ι H aP) (h:bU E pc ic yc dr ops.toList aP o ts H=some (ts',e)) {F:Fence} (hF:j9 F) {K:Act->World->Prop} {Q:Exit->Act->World->Prop}
  (hk:Bb E B Lo w0 ι H w ts' (e.app H) K):
  if Region.wanted o (yielded ops a.tmps)then o.wpIn F 0 P a w K Q else(∀f,o.about P w a.eval=some f->F.fn f)/\K (a.put o.dst undef) w:=by
 unfold bU at h;rw[TX S.tm o];split at h
 ·rename_i hw;rw[if_pos hw];split at h
  ·rename_i v e' Sq;cases h;refine Zg V hp hi hy S.Bv hf S.tm Sq hF fun cv w' FF=>?_
   obtain⟨ι',h1,h2,h3,h4⟩:=FF;refine hk _ _ ι' h1 h3 ⟨h2,?_,S.SS.ext h3 (put_defers _ _ _)⟩;exact Gm (Rs.ext h3 _ _ _ _ h1 S.tm) h4 _
  ·cases h
 ·rename_i hw;rw[if_neg hw];cases h;refine⟨fun f _=>hF.fn f,?_⟩;refine hk _ _ ι (cS.le_refl _) (Ext.refl _ _) ⟨S.Bv,Gm S.tm Pr _,S.SS.ext (Ext.refl _ _) (put_defers _ _ _)⟩
def yB(V:Valid E P){pc:Pc}{ic yc:Ic}(hp:lT E P pc)(hi:qn E P ic)(hy:qW E P yc){ops:Array Oper}{F:Fence}(hF:j9 F){Q:Exit->Act->World->Prop}:
  ∀(l:List Oper) (ts:List AV) (H:Hp) (ts':List AV) (H':Hp) (ι:cS) (w:World) (a:Act),qa E pc ic yc ops.toList l ts H=some (ts',H')->St E B Lo w0 ι H ts a w->
   Bb E B Lo w0 ι H w ts' H' (Q .normal)->wpListIn F 0 P ops Q l a w
 |[],ts,H,ts',H',ι,w,a,h,S,hk=>by
  simp only[qa,aK3.injEq,Prod.mk.injEq]at h;obtain⟨rfl,rfl⟩:=h;exact hk _ _ ι (cS.le_refl _) (Ext.refl _ _) S
 |o::rest,ts,H,ts',H',ι,w,a,h,S,hk=>by
  unfold qa at h;split at h
  ·rename_i ts1 e h1;unfold wpListIn;exact DT V hp hi hy S (ye S.Bv) h1 hF fun a1 w1 ι1 k1 k2 k3=>yB V hp hi hy hF rest ts1 (e.app H) ts' H' ι1 w1 a1 h k3 (hk.chain k1 k2)
  ·cases h
def Tu(V:Valid E P){pc:Pc}{ic yc:Ic}(hp:lT E P pc)(hi:qn E P ic)(hy:qW E P yc){id:Nat}{ops:Array Oper}{F:Fence}(hF:j9 F){Q:Exit->Act->World->Prop}
  {ts':List AV} {H':Hp} (h:qa E pc ic yc ops.toList ops.toList ts H=some (ts',H')) (S:St E B Lo w0 ι H ts a w) (hk:Bb E B Lo w0 ι H w ts' H' (Q .normal)):
  (Code.region id ops false).wpIn F 0 P Q a w:=
 wpIn_region_list (yB V hp hi hy hF _ _ _ _ _ _ _ _ h S hk)
end
section
variable{E:Env}{P:Program}{ι:cS}{w:World}{L L':Nat->Prop}{Lo:Nat->Prop}{w0:World}{H:Hp}{ts:List AV}{a:Act}{B:Nat}
def SM(V:Valid E P)(S:fR E Lo w0 ι H w){t:Nat}{p av:AV}{v:Value}(hp:R ι w (Live Lo ι H) p v)(h:dW E H t p=some av):
  ∃cv,((do loadVar t (<-asAddr v):Sem Value)).run P w=.ok cv w/\R ι w (Live Lo ι H) av cv:=by
 unfold dW at h;split at h
 case h_2=>cases h
 rename_i cs off vG;obtain⟨cb,o,c,e,f,rfl,h2,h3⟩:=ZD S hp vG;obtain⟨cv,g1,g2⟩:=Kx V h2 h3 h;exact⟨cv,by simpa[asAddr]using g1,g2⟩
def Oz(tmps:Array Value):ResultVar->Sem Value
 |.tmp t=>pure (tmps.getD t undef)
 |.cell a t=>do loadVar t (<-asAddr (tmps.getD a undef))
def DK(V:Valid E P)(S:fR E Lo w0 ι H w){tmps:Array Value}(ht:Rs ι w (Live Lo ι H) ts tmps.toList):∀(rs:List ResultVar) (vs:List AV),fL H E ts rs=some vs->
  ∃PL,(rs.mapM (Oz tmps)).run P w=.ok PL w/\Rs ι w (Live Lo ι H) vs PL
 |[],vs,h=>by
  simp only[fL,aK3.injEq]at h;subst h
  exact⟨[],by simp,by simp[Rs]⟩
 |.tmp t::rs,vs,h=>by
  simp only[fL,aKD]at h;obtain⟨vs',h1,rfl⟩:=h;obtain⟨PL,g1,g2⟩:=DK V S ht rs vs' h1;have hg:=ht.getD t;refine⟨tmps.getD t undef::PL,?_,?_⟩
  ·simp only[List.mapM_cons,Oz,Sem.run_bind,Sem.run_pure,Result.andThen_ok,g1]
  ·simp only[Rs];exact⟨_,_,rfl,by simpa using hg,g2⟩
 |.cell x t::rs,vs,h=>by
  simp only[fL]at h;split at h
  ·rename_i v vs' h1 h2;cases h;obtain⟨PL,g1,g2⟩:=DK V S ht rs vs' h2;have hg:=ht.getD x;have hx:R ι w (Live Lo ι H) (ts[x]?.getD bS) (tmps.getD x undef):=by simpa using hg
   obtain⟨cv,k1,k2⟩:=SM V S hx h1;refine⟨cv::PL,?_,?_⟩
   ·rw[List.mapM_cons,Sem.run_bind];unfold Oz;rw[k1];simp only[Result.andThen_ok,Sem.run_bind]
    have:(rs.mapM (Oz tmps)).run P w=.ok PL w:=g1
    unfold Oz at this;rw[this];simp only[Result.andThen_ok,Sem.run_pure]
   ·simp only[Rs];exact⟨_,_,rfl,k2,g2⟩
  ·cases h
def K7(V:Valid E P)(S:fR E Lo w0 ι H w){tmps:Array Value}(ht:Rs ι w (Live Lo ι H) ts tmps.toList){fn:Func}{vs:List AV}(h:fL H E ts fn.results.toList=some vs):
  ∃cv,(results fn tmps).run P w=.ok cv w/\R ι w (Live Lo ι H) (gV vs) cv:=by
 obtain⟨PL,g1,g2⟩:=DK V S ht _ _ h;have hm:(fn.results.mapM (Oz tmps)).run P w=.ok PL.toArray w:=by rw[Array.mapM_eq_mapM_toList,map_eq_pure_bind];simp only[Sem.run_bind,g1,Result.andThen_ok,Sem.run_pure]
 have il:results fn tmps=(do let vs<-fn.results.mapM (Oz tmps);pure (if h:vs.size=1 then vs[0]else .tuple vs)):=by unfold results;congr 2
 rw[il,Sem.run_bind,hm];simp only[Result.andThen_ok,Sem.run_pure];refine⟨_,rfl,?_⟩;have hl:=g2.length
 match vs,PL,g2,hl with
 |[],[],_,_=>simp[gV,R,Rs]
 |[v],[c],g,_=>
  simp only[Rs]at g;obtain⟨y,ys,h1,h2,_⟩:=g;cases h1;simpa[gV]using h2
 |v::v'::vs,c::c'::cs,g,_=>
  simp only[gV,R];refine⟨(c::c'::cs).toArray,?_,by simpa using g⟩
  simp
end
section
variable{E:Env}{P:Program}{ι:cS}{w:World}{L L':Nat->Prop}{Lo:Nat->Prop}{w0:World}{H:Hp}{ts:List AV}{a:Act}{B:Nat}
def nS(V:Valid E P){fn:Func}{tmps:Array Value}{vs:List AV}(il:fL H E ts fn.results.toList=some vs){K:Value->World->Prop}:
  ∀(ks:List Nat) (w:World),fR E Lo w0 ι H w->Rs ι w (Live Lo ι H) ts tmps.toList->ks.Nodup->(∀k,k∈ks->w.heap[k]?=some (.deferred (some []))/\¬Live Lo ι H k/\B<=k)->w0.heap.size<=B->
   (∀w' cv,Below B w w'->fR E Lo w0 ι H w'->(∀c,w.heap.size<=c->w'.heap[c]?=none)->(∀(c:Nat) (cs:Array Value) (e:TypeId) (f:Nat×Nat),w.heap[c]?=some (.cells cs e f)->w'.heap[c]?=some (.cells cs e f))->
    R ι w' (Live Lo ι H) (gV vs) cv->K cv w')->
   LeavesInM Fence.wide 0 P fn tmps (LI K) (ks.map fun k=>{target:=.collected k,args:=#[]}) .returning w
 |[],w,S,ht,_,_,_,hk=>by
  obtain⟨cv,g1,g2⟩:=K7 V S ht il;exact⟨cv,g1,hk w cv (Below.refl B w) S (fun c hc=>Array.getElem?_eq_none hc) (fun _ _ _ _ h=>h) g2⟩
 |k::ks,w,S,ht,hn,hks,hB,hk=>by
  obtain⟨g1,g2,g3⟩:=hks k (by simp);have X:=S.other (o':=.deferred none) g1 (aM7 hB g3);have O:=kR (o:=(.deferred none:Obj)) (w1:=w) rfl rfl rfl rfl g1;rw[List.nodup_cons]at hn;refine⟨by simp,.inl ⟨k,jN w k (.deferred none),rfl,run_takeDeferred g1,?_⟩⟩;refine nS V il ks _ X.1 (Rs.k6 X.2 _ _ _ _ (cS.le_refl _) ht) hn.2 (fun k' sG=>?_) hB fun w' cv h1 h2 h3 h5 h4=>hk w' cv ((O.below g3).trans h1) h2 ?_ ?_ h4
  ·obtain⟨q1,q2,q3⟩:=hks k' (by simp[sG]);refine⟨?_,q2,q3⟩;rw[O.there k' (fun e=>hn.1 (e▸sG))];exact q1
  ·intro c hc;refine h3 c ?_;rw[O.size];exact hc
  ·intro c cs e f hc;refine h5 c cs e f ?_;rw[O.there c (fun q=>by subst q;rw[g1]at hc;cases hc)];exact hc
def qT(n:Nat):Rs ι w L (aKF n bS) (aKF n undef):=by
 induction n with
 |zero=>simp[Rs]
 |succ n ih=>
  simp only[List.replicate_succ,Rs];exact⟨_,_,rfl,Pr,ih⟩
def AY(V:Valid E P){rec:Cd}(jD:nf E P rec){f:Nat}{args:List AV}{v:AV}{H':Hp}(h:oF E rec f args H=some (v,H'))(S:fR E Lo w0 ι H w){vs:Array Value}
  (ha:Rs ι w (Live Lo ι H) args vs.toList):CallsIn Fence.wide 0 P f vs w (LI (sM E Lo w0 ι H w v H')):=by
 unfold oF at h;split at h
 case h_2=>cases h
 rename_i fi lQ;obtain⟨fn,f1,f2,f3,f4,f5,f6⟩:=V.fn f fi lQ;have main:∀ex ts H2,rec fi.code (args++aKF (fi.ntmps-args.length) bS) H=some (ex,ts,H2)->(∀id,ex≠ .exit id)->∀rs,fL H2 E ts fi.results=some rs->v=gV rs->H'=H2->
   CallsIn Fence.wide 0 P f vs w (LI (sM E Lo w0 ι H w v H')):=by
  intro ex ts H2 hr hex rs il hv hH;subst hv hH;refine callsIn_of_wp_marks f1 f2 trivial ?_;have hl:=ha.length;simp only[aMq]at hl;refine jD _ _ _ _ _ _ hr f6 Fence.wide (.inl rfl) (.inl rfl) w.heap.size Lo w0 ι w _ S.below.size (aKE _) ⟨S,?_,⟨[],by simp,rfl,by simp⟩⟩ _ fun a' w' ι' k1 k2 k3=>?_
  ·simp only[aM6,aM9];rw[f3,<-hl];exact ha.append (qT _)
  ·obtain⟨ks,n1,n2,n3⟩:=k3.SS;have lC:LeavesInM Fence.wide 0 P fn a'.tmps (LI (sM E Lo w0 ι H w (gV rs) H')) a'.defers .returning w':=by
    rw[n2];refine nS V (by rw[f4];exact il) ks w' k3.Bv k3.tm n1 n3 S.below.size fun w2 cv b1 b2 b3 b4 b5=>?_
    refine⟨ι',k1,b2,?_,b5⟩;refine⟨aM7 k2.size b1.size,fun c hc Qi=>?_,fun c cs e fr hc=>?_⟩
    ·have:=k2.old c hc Qi
     exact⟨(b1.block c hc).trans this.1,this.2⟩
    ·obtain⟨Aw,f',q1,q2⟩:=k2.shape c cs e fr hc;exact⟨Aw,f',b4 c Aw e f' q1,q2⟩
   cases ex with
   |normal=>exact lC
   |ret=>exact lC
   |exit id=>exact absurd rfl (hex id)
 split at h
 ·cases h
 ·rename_i ex ts H2 eQ hr;rw[aKD]at h;obtain⟨rs,h1,h2⟩:=h;cases h2;exact main ex ts H' hr (fun id q=>eQ id q) rs h1 rfl rfl
 ·cases h
def OD(V:Valid E P){rec:Cd}(jD:nf E P rec){f:Nat}{args:List AV}{r:AV}{fi:FnI}(lQ:E.fn f=some fi){ex:Ex}{oc:List AV}{H2:Hp}
  (hr:rec fi.code (args++aKF (fi.ntmps-args.length) bS) []=some (ex,oc,H2)) (hex:∀id,ex≠ .exit id) {rs:List AV} (il:fL H2 E oc fi.results=some rs)
  {bs:List Nat} (fY:bW H2 [gV rs]=some ([r],bs)) {vs:Array Value} (ik:∀c,L c->c<w.heap.size) (hg:xD E L w) (ha:Rs cg w L args vs.toList):
  CallsIn Fence.wide 0 P f vs w (LI fun v w'=>Below w.heap.size w w'/\R cg w' L r v):=by
 obtain⟨fn,f1,f2,f3,f4,f5,f6⟩:=V.fn f fi lQ;have hL:Live L cg ([]:Hp)=L:=by
  funext c;refine propext ⟨?_,.inl⟩;rintro(h|⟨b,dI,co,h,_⟩)
  ·exact h
  ·simp at h
 have S:fR E L w cg [] w:=by
  refine⟨Below.refl _ _,ik,?_,?_,?_,?_,?_,?_⟩
  ·intro b p h;cases h
  ·intro b dI h;simp at h
  ·intro b b' dI blk' c co co' h;simp at h
  ·rw[hL];exact hg
  ·intro b dI h;simp at h
  ·intro b p h;cases h
 refine callsIn_of_wp_marks f1 f2 trivial ?_;have hl:=ha.length;simp only[aMq]at hl;refine jD _ _ _ _ _ _ hr f6 Fence.wide (.inl rfl) (.inl rfl) w.heap.size L w cg w _ (aKE _) (aKE _) ⟨S,?_,⟨[],by simp,rfl,by simp⟩⟩ _ fun a' w' ι' k1 k2 k3=>?_
 ·simp only[aM6,aM9];rw[f3,<-hl,hL];exact ha.append (qT _)
 ·obtain⟨ks,n1,n2,n3⟩:=k3.SS;have lC:LeavesInM Fence.wide 0 P fn a'.tmps (LI fun v w'=>Below w.heap.size w w'/\R cg w' L r v) a'.defers .returning w':=by
   rw[n2];refine nS V (by rw[f4];exact il) ks w' k3.Bv k3.tm n1 n3 (aKE _) fun w2 cv b1 b2 b3 b4 b5=>?_
   refine⟨b2.below,?_⟩;have vF:Rs ι' w2 (Live L ι' H2) [gV rs] [cv]:=by simp only[Rs];exact⟨_,_,rfl,b5,rfl⟩
   have:=pU b2 vF fY
   simp only[Rs]at this;obtain⟨y,ys,q1,q2,_⟩:=this;cases q1;exact R.ext (tg fun c hc=>.inl hc) _ _ _ _ (cS.le_refl _) q2
  cases ex with
  |normal=>exact lC
  |ret=>exact lC
  |exit id=>exact absurd rfl (hex id)
end
section
variable{E:Env}{P:Program}{ι:cS}{w:World}{L L':Nat->Prop}{Lo:Nat->Prop}{w0:World}{H:Hp}{ts:List AV}{a:Act}{B:Nat}
def ZY:∀(ps:List Nat) (a_:List AV) (ts ts':List AV) (vs:List Value) (tmps:Array Value),HM ts ps a_=some ts'->Rs ι w L ts tmps.toList->Rs ι w L a_ vs->
  vs.length=ps.length/\Rs ι w L ts' ((ps.zip vs).foldl (fun t (p,v)=>t.setIfInBounds p v) tmps).toList
 |[],[],ts,ts',vs,tmps,h,ht,ha=>by
  simp only[Rs]at ha;subst ha
  simp only[HM,aK3.injEq]at h;subst h
  exact⟨rfl,ht⟩
 |[],_::_,_,_,_,_,h,_,_=>by simp[HM]at h
 |_::_,[],_,_,_,_,h,_,_=>by simp[HM]at h
 |p::ps,x::a_,ts,ts',vs,tmps,h,ht,ha=>by
  simp only[Rs]at ha;obtain⟨y,ys,rfl,h1,h2⟩:=ha;simp only[HM]at h
  have:=ZY ps a_ (ts.set p x) ts' ys (tmps.setIfInBounds p y) h (by rw[aM8];exact ht.set p h1) h2
  exact⟨by simp[this.1],by simpa using this.2⟩
def tJ(S:fR E Lo w0 ι H w){l cb co:Nat}{st st':LoopState}{im pend':Option Code}{lts:List AV}{ps:List Nat}{a_ bd:Code}{r:Loop}
  (hb:H[l]?=some (.loop st im lts ps a_ bd)) (hi:ι l=some (cb,co)) (hr:w.heap[cb]?=some (.loop r)) (hp:∀c,pend'=some c->codeOk E c=true):
  fR E Lo w0 ι (H.set l (.loop st' pend' lts ps a_ bd)) (w.putObj cb (.loop {r with state:=st',pending:=pend'}))/\
   Ext w (Live Lo ι H) (w.putObj cb (.loop {r with state:=st',pending:=pend'})) (Live Lo ι (H.set l (.loop st' pend' lts ps a_ bd))):=by
 obtain⟨D8,co',o,g1,g2,g3,g4,g5⟩:=S.obj l _ hb (by simp[ct.st]);rw[hi]at g1;cases g1
 rw[hr]at g2;cases g2
 have F:=S.pT l _ hb rfl;simp only[fZ]at g3;obtain⟨r',q0,q1,q2,q3,q4,q5,q6⟩:=g3;cases q0;have O:El w (w.putObj cb (.loop {r with state:=st',pending:=pend'})) cb (.loop {r with state:=st',pending:=pend'}):=
  kR (o:=.loop {r with state:=st',pending:=pend'}) (w1:=w) rfl rfl rfl rfl hr
 have r8:jO (.loop r) (.loop {r with state:=st',pending:=pend'}):=fun cs e f q=>by cases q
 have X:Ext w (Live Lo ι H) (w.putObj cb (.loop {r with state:=st',pending:=pend'})) (Live Lo ι H):=O.ext hr r8 (.inr ⟨l,_,co,hb,rfl,hi⟩) (fun _ h=>h);exact S.update (blk':=.loop st' pend' lts ps a_ bd) hb rfl rfl hi hr r8 O
  (by
   simp only[fZ];exact⟨_,rfl,rfl,rfl,Rs.ext X _ _ _ _ (cS.le_refl _) q3,q4,q5,q6⟩)
  ⟨F.1,F.2.1,F.2.2.1,F.2.2.2.1,hp⟩
def yu(S:fR E Lo w0 ι H w){l cb co:Nat}{st:LoopState}{im:Option Code}{lts:List AV}{ps:List Nat}{a_ bd:Code}
  (hb:H[l]?=some (.loop st im lts ps a_ bd)) (hi:ι l=some (cb,co)):
  ∃r:Loop,w.heap[cb]?=some (.loop r)/\r.state=st/\r.pending=im/\Rs ι w (Live Lo ι H) lts r.tmps.toList/\r.params.toList=ps/\r.assign=a_/\r.body=bd:=by
 obtain⟨D8,co',o,g1,g2,g3,g4,g5⟩:=S.obj l _ hb (by simp[ct.st]);rw[hi]at g1;cases g1
 simp only[fZ]at g3;obtain⟨r,q0,q1,q2,q3,q4,q5,q6⟩:=g3;exact⟨r,by rw[g2,q0],q1,q2,q3,q4,q5,q6⟩
def oG(V:Valid E P){rec:Cd}(jD:nf E P rec):qW E P (lI rec):=by
 intro l a_ H v H2 h Lo w0 ι w vs cb co S ha hi;unfold lI at h;split at h
 case h_2=>cases h
 rename_i ag9 ts ps assign body hb;split at h
 case h_2=>cases h
 rename_i ts' Jw;split at h
 case h_2=>cases h
 rename_i t1 H1 ay4;split at h
 case h_2=>cases h
 rename_i im oc ps2 as2 b2 mN;split at h
 case h_2=>cases h
 rename_i e t2 H2' Jm;split at h
 case h_2=>cases h
 rename_i st3 aDZ Am Ae zu b3 sn;obtain⟨r,r1,r2,r3,r4,r5,r6,r7⟩:=yu S hb hi;have Fi:=S.pT l _ hb rfl;obtain⟨z1,z2⟩:=ZY ps a_ ts ts' vs.toList r.tmps Jw r4 ha;have l8:vs.size=r.params.size:=by rw[<-aMq,<-aMq,z1,r5]
 refine .inr (.inr ⟨cb,r.fn,_,r.assign,r.body,w,run_yield r1 l8,?_⟩);have hW:j9 (Fence.wide.inRound cb):=.inr ⟨cb,rfl⟩;refine roundIn_of_wpIn trivial ?_;rw[r6];refine jD assign ts' H _ t1 H1 ay4 Fi.1 _ hW (.inr Fi.2.2.1) w.heap.size Lo w0 ι w _ S.below.size (aKE _) ⟨S,?_,⟨[],by simp,rfl,by simp⟩⟩ _ fun a1 w1 ι1 k1 k2 k3=>?_
 ·have:((r.params.zip vs).foldl (fun tmps (x:Tmp×Value)=>tmps.setIfInBounds x.1 x.2) r.tmps)=((ps.zip vs.toList).foldl (fun t (p,v)=>t.setIfInBounds p v) r.tmps):=by rw[<-r5,<-Array.toList_zip,Array.foldl_toList]
  simp only;rw[this];exact z2
 ·
  have hi1:=k1 l _ hi;obtain⟨q,q1,q2,q3,q4,q5,q6,q7⟩:=yu k3.Bv mN hi1;have Fp:=k3.Bv.pT l _ mN rfl;have U:=tJ (st':=.busy) (pend':=im) k3.Bv mN hi1 q1 Fp.2.2.2.2;have azQ:({q with state:=.busy,pending:=im}:Loop)={q with state:=.busy}:=by rw[<-q3]
  rw[azQ]at U;refine⟨_,run_beginRound q1 q2,?_⟩;rw[r7];refine jD body t1 _ _ t2 H2' Jm Fi.2.1 _ hW (.inr Fi.2.2.2.1) w.heap.size Lo w0 ι1 _ a1 S.below.size (by rw[World.putObj_size];exact k2.size) ⟨U.1,Rs.ext U.2 _ _ _ _ (cS.le_refl _) k3.tm,k3.SS.ext U.2 rfl⟩ _
   fun a2 w2 ι2 l1 l2 l3=>?_
  have Xl:=l1 l _ hi1;obtain⟨p,p1,p2,p3,p4,p5,p6,p7⟩:=yu l3.Bv sn Xl;have fin:∀(jump:Option Code) (st':LoopState),st'=(if jump.isNone then .ready else .done)->(∀c,jump=some c->codeOk E c=true)->v=.bool jump.isNone->H2=H2'.set l (.loop st' jump Am Ae zu b3)->
    ∃v' w',(Instr.endRound cb jump).run P w2=.ok v' w'/\LI (sM E Lo w0 ι H w v H2) (.returned v') w':=by
   intro jump st' dp hj hv hH;subst hv hH;have U2:=tJ (st':=st') (pend':=jump) l3.Bv sn Xl p1 hj;rw[dp]at U2⊢;refine⟨_,_,run_endRound jump p1,?_⟩;exact⟨ι2,cS.le_trans k1 l1,U2.1,k2.trans (U.2.trans (l2.trans U2.2)),by simp only[R]⟩
  cases e with
  |normal=>
   simp only[aK3.injEq,Prod.mk.injEq]at h;exact fin none .ready rfl (fun c q=>by cases q) h.1.symm h.2.symm
  |ret=>
   simp only[aK3.injEq,Prod.mk.injEq]at h;exact fin (some .ret) .done rfl (fun c q=>by cases q;rfl) h.1.symm h.2.symm
  |exit id=>
   simp only[aK3.injEq,Prod.mk.injEq]at h;exact fin (some (.exit id)) .done rfl (fun c q=>by cases q;rfl) h.1.symm h.2.symm
end
structure oW(E:Env)(P:Program):Prop where
 ov:lT E P E.ov
 rC:qn E P E.rC
def LW(E:Env)(P:Program)(rec:Cd):Prop:=∀(id:Nat) (ops:Array Oper) ts H ts' H',xZ E (jE E rec) (kQ E rec) (lI rec) id ops.toList ts H=some (ts',H')->yC E (E.pairs id ops.size) ops=true->
 ∀(F:Fence),j9 F->∀(B:Nat) (Lo:Nat->Prop) (w0:World) (ι:cS) (w:World) (a:Act),w0.heap.size<=B->B<=w.heap.size->St E B Lo w0 ι H ts a w->
 ∀Q:Exit->Act->World->Prop,Bb E B Lo w0 ι H w ts' H' (Q .normal)->(Code.region id ops true).wpIn F 0 P Q a w
def Gx(E:Env)(P:Program)(rec:Cd)(k:Nat):Prop:=∀c ts H ex ts' H',rec (.loop c) ts H=some (ex,ts',H')->codeOk E c=true->∀(F:Fence),j9 F->(F=Fence.wide∨flat c=true)->∀(B:Nat) (Lo:Nat->Prop) (w0:World) (ι:cS) (w:World) (a:Act),
 w0.heap.size<=B->B<=w.heap.size->St E B Lo w0 ι H ts a w->∀Q:Exit->Act->World->Prop,Bb E B Lo w0 ι H w ts' H' (Q ex.up)->Code.roundsIn F 0 P c Q k a w
section
variable{E:Env}{P:Program}{ι:cS}{w:World}{L L':Nat->Prop}{Lo:Nat->Prop}{w0:World}{H:Hp}{ts:List AV}{a:Act}{B:Nat}
def jQ(V:Valid E P){f:Nat}{fi:FnI}(h:E.fn f=some fi)(vs:Array Value)(w:World):(callFunc f vs).run P w=.ok (.enter f vs) w:=by
 obtain⟨fn,f1,f2,f3,f4,f5,f6⟩:=V.fn f fi h;unfold callFunc;simp only[Sem.run_bind,run_program,Result.andThen_ok,f1]
 have:(fn.name== "runtime.NumGoroutine")=false:=by simpa using f5
 simp[this,f2]
def uZ(V:Valid E P)(O:oW E P){rec:Cd}(jD:nf E P rec):lT E P (jE E rec):=by
 intro f a_ r h L w vs ik hg ha;unfold jE at h;split at h
 ·rename_i r' ke;cases h;exact O.ov f a_ r ke L w vs ik hg ha
 ·rename_i ke;split at h
  case h_2=>cases h
  rename_i fi lQ;split at h
  ·cases h
  split at h
  ·cases h
  ·rename_i ex ts H eQ hr;split at h
   case h_2=>cases h
   rename_i rs il;split at h
   case h_2=>cases h
   rename_i v bs fY;cases h;exact .inr (.inl ⟨f,vs,w,jQ V lQ vs w,OD V jD lQ hr (fun id q=>eQ id q) il fY ik hg ha⟩)
  ·cases h
def yL(V:Valid E P)(O:oW E P){rec:Cd}(jD:nf E P rec):qn E P (kQ E rec):=by
 intro f a_ H v H2 h Lo w0 ι w vs S ha;unfold kQ at h;split at h
 ·rename_i r ke;cases h;exact O.rC f a_ H v H2 ke Lo w0 ι w vs S ha
 ·have h0:=h;unfold oF at h0;split at h0
  case h_2=>cases h0
  rename_i fi lQ;exact .inr (.inl ⟨f,vs,w,jQ V lQ vs w,AY V jD h S ha⟩)
def Pj(S:fR E Lo w0 ι H w){c:Nat}(h:Live Lo ι H c):c<w.heap.size:=QW S c h
def HG(V:Valid E P){rec:Cd}(jD:nf E P rec){g:Operand}{ps:Array Nat}{assign body:Code}{fv:AV}{f:Nat}{first cap:List AV}
  (hg:bT ts g=some (.func f first cap)) {v:AV} {H2:Hp} (FB:oF E rec f (first++[.yield H.length]++cap) (H++[.loop .ready none ts ps.toList assign body])=some (v,H2))
  {st:LoopState} {im:Option Code} {Am:List AV} {Ae:List Nat} {zu b3:Code} (dp:st≠ .busy)
  {ex:Ex} {ts':List AV} {H':Hp} (MO:(match im with
   |none=>some (Ex.normal,ts,H2.set H.length (.loop .exhausted im Am Ae zu b3))
   |some c=>rec c ts (H2.set H.length (.loop .exhausted im Am Ae zu b3)))=some (ex,ts',H')) (hl:H2[H.length]?=some (.loop st im Am Ae zu b3))
  (c1:codeOk E assign=true) (c2:codeOk E body=true) (c3:flat assign=true) (c4:flat body=true)
  (hB:w0.heap.size<=B) (BI:B<=w.heap.size) (S:St E B Lo w0 ι H ts a w) {Q:Exit->Act->World->Prop} (hk:Bb E B Lo w0 ι H w ts' H' (Q ex.up)):
  (Code.rangeFunc g ps assign body).wpIn Fence.wide 0 P Q a w:=by
 refine wpIn_rangeFunc fun fn fB=>?_
 have lQ:∃fi,E.fn f=some fi:=by
  have h0:=FB;unfold oF at h0;split at h0
  ·rename_i fi lQ;exact⟨fi,lQ⟩
  ·cases h0
 obtain⟨fi,lQ⟩:=lQ;have hgR:=dU S.tm hg;simp only[R]at hgR;obtain⟨cf,cc,hgv,r1,r2⟩:=hgR;have mN:Below w.heap.size w (w.alloc (.deferred (some []))):=
  ⟨rfl,rfl,rfl,by show w.heap.size<=(w.heap.push _).size;simp,fun k hk=>by show(w.heap.push _)[k]?=_;rw[aKC,if_neg (by omega)]⟩
 obtain⟨S1,X1⟩:=S.Bv.later mN;have atL:(w.alloc (.deferred (some []))).heap.size=w.heap.size+1:=by show(w.heap.push _).size=_;simp
 have hf1:=ye S1
 let rc:Loop:={state:=.ready,pending:=none,fn,tmps:=a.tmps,params:=ps,assign,body,defers:=w.heap.size}
 let nb:ct:=.loop .ready none ts ps.toList assign body
 have MY:cJ H H.length nb=H++[nb]:=by simp[cJ]
 have X2:=uC S1 (dI:=nb) hf1 rfl (.loop rc) (w1:=w.alloc (.deferred (some []))) rfl;have hle:=cS.wN (p:=((w.alloc (.deferred (some []))).heap.size,0)) hf1.1;have T7:=X1.trans X2;have S2:=S1.alloc (dI:=nb) hf1 rfl (o:=.loop rc) (w1:=w.alloc (.deferred (some []))) rfl rfl rfl rfl
  (by
   simp only[fZ,nb];exact⟨rc,rfl,rfl,rfl,Rs.ext T7 _ _ _ _ hle S.tm,rfl,rfl,rfl⟩)
  ⟨c1,c2,c3,c4,fun c q=>by cases q⟩
 rw[MY]at S2 T7;have aj6:=AY V jD FB S2 (vs:=cf++#[.func (.yield (w.heap.size+1)) #[] #[]]++cc) (by
  rw[aM6,aM6];refine((Rs.ext T7 _ _ _ _ hle r1).append ?_).append (Rs.ext T7 _ _ _ _ hle r2);simp only[Rs];refine⟨_,_,rfl,?_,rfl⟩;simp only[R];exact⟨w.heap.size+1,0,by simp[cS.put,atL],rfl⟩)
 have il:(resolve a.eval (rangeCall g (w.heap.size+1)) 0).run P ((w.alloc (.deferred (some []))).alloc (.loop rc))=
   .ok {target:=.fn (.func f) cc,args:=cf++#[.func (.yield (w.heap.size+1)) #[] #[]]} ((w.alloc (.deferred (some []))).alloc (.loop rc)):=by
  have hc:∀v:Value,a.eval (.const v)=v:=fun _=>rfl
  simp[resolve,hgv,Deferred.ofValue,hc]
 have hinv:(invoke (.fn (.func f) cc) (cf++#[.func (.yield (w.heap.size+1)) #[] #[]])).run P ((w.alloc (.deferred (some []))).alloc (.loop rc))=
   .ok (.enter f (cf++#[.func (.yield (w.heap.size+1)) #[] #[]]++cc)) ((w.alloc (.deferred (some []))).alloc (.loop rc)):=by
  simpa[invoke]using jQ V lQ _ _
 have akf:(Instr.enterLoop fn a.tmps ps assign body none).run P w=.ok (w.heap.size+1,[{target:=.collected w.heap.size,args:=#[]}]) ((w.alloc (.deferred (some []))).alloc (.loop rc)):=
  run_enterLoop_outer _ _ _ _ _
 refine⟨_,_,_,_,_,_,_,_,akf,il,fun f' _=>j9.fn (.inl rfl) f',hinv,by rw[j9.deep (.inl rfl)];simp,?_⟩;refine CallsIn.mono aj6 fun e w3 he=>?_
 ·cases e with
  |panicked _=>exact he.elim
  |outgrown=>exact he.elim
  |returned v'=>
   obtain⟨ι3,q1,q2,q3,q4⟩:=he;have hi3:ι3 H.length=some (w.heap.size+1,0):=q1 _ _ (by simp[cS.put,atL]);obtain⟨r,l1,l2,l3,l4,l5,l6,l7⟩:=yu q2 hl hi3;have F3:=q2.pT _ _ hl rfl;have U:=tJ (st':=.exhausted) (pend':=im) q2 hl hi3 l1 F3.2.2.2.2;have azU:({r with state:=.exhausted,pending:=im}:Loop)={r with state:=.exhausted}:=by rw[<-l3]
   rw[azU]at U;refine⟨r.pending,_,run_endLoop l1 (by rw[l2];exact dp),?_⟩;have X3:=T7.trans (q3.trans U.2);have aku:=cS.le_trans hle q1;have M3:BZ B {a with defers:=[{target:=.collected w.heap.size,args:=#[]}]++a.defers} (w3.putObj (w.heap.size+1) (.loop {r with state:=.exhausted}))
     (Live Lo ι3 (H2.set H.length (.loop .exhausted im Am Ae zu b3))):=by
    obtain⟨ks,n1,n2,n3⟩:=S.SS;refine⟨w.heap.size::ks,?_,by simp[n2],fun k hk=>?_⟩
    ·rw[List.nodup_cons];refine⟨fun hm=>?_,n1⟩
     have:=eG (n3 _ hm).1
     omega
    ·rcases aMp.1 hk with rfl|hk
     ·have g1:((w.alloc (.deferred (some []))).alloc (.loop rc)).heap[w.heap.size]?=some (.deferred (some [])):=by simp only[World.alloc];rw[aKC,if_neg (by simp),aKC,if_pos rfl]
      have g2:¬Live Lo (ι.put H.length ((w.alloc (.deferred (some []))).heap.size,0)) (H++[nb]) w.heap.size:=by
       rw[<-MY,Df hf1 rfl];rintro(hq|hq)
       ·exact absurd (Pj S.Bv hq) (by omega)
       ·omega
      have:=(q3.trans U.2).keep g1 g2
      exact⟨this.1,this.2,BI⟩
     ·obtain⟨g1,g2,g3⟩:=n3 k hk
      have:=X3.keep g1 g2
      exact⟨this.1,this.2,g3⟩
   have S3:St E B Lo w0 ι3 (H2.set H.length (.loop .exhausted im Am Ae zu b3)) ts {a with defers:=[{target:=.collected w.heap.size,args:=#[]}]++a.defers}
     (w3.putObj (w.heap.size+1) (.loop {r with state:=.exhausted})):=⟨U.1,Rs.ext X3 _ _ _ _ aku S.tm,M3⟩
   clear U;generalize(w3.putObj (w.heap.size+1) (.loop {r with state:=.exhausted}))=w4 at*;rw[l3];cases im with
   |none=>
    simp only[aK3.injEq,Prod.mk.injEq]at MO;obtain⟨rfl,rfl,rfl⟩:=MO;exact hk _ _ ι3 aku X3 S3
   |some c=>
    exact jD c _ _ _ _ _ MO (F3.2.2.2.2 c rfl) Fence.wide (.inl rfl) (.inl rfl) B Lo w0 ι3 _ _ hB (aM7 BI X3.size) S3 Q (hk.chain aku X3)
def Wz(V:Valid E P)(O:oW E P){rec:Cd}{k:Nat}(jD:nf E P rec)(atm:Gx E P rec k)(FD:LW E P rec):nf E P (cM E rec)/\Gx E P (cM E rec) (k+1):=by
 have hl:Gx E P (cM E rec) (k+1):=by
  intro c ts H ex ts' H' h hc F hF Jp B Lo w0 ι w a hB BI S Q hk;simp only[cM]at h;rw[roundsIn_succ];cases hb:rec c ts H with
  |none=>rw[hb]at h;cases h
  |some r=>
   obtain⟨e1,ts1,H1⟩:=r;rw[hb]at h;refine jD c ts H e1 ts1 H1 hb hc F hF Jp B Lo w0 ι w a hB BI S _ fun a1 w1 ι1 k1 k2 k3=>?_
   cases e1 with
   |normal=>exact atm c ts1 H1 ex ts' H' h hc F hF Jp B Lo w0 ι1 w1 a1 hB (aM7 BI k2.size) k3 Q (hk.chain k1 k2)
   |exit id=>cases h;exact hk _ _ _ k1 k2 k3
   |ret=>cases h;exact hk _ _ _ k1 k2 k3
 refine⟨?_,hl⟩;intro c ts H ex ts' H' h hc F hF Jp B Lo w0 ι w a hB BI S Q hk;cases c with
 |skip=>simp only[cM,aK3.injEq,Prod.mk.injEq]at h;obtain⟨rfl,rfl,rfl⟩:=h;exact wpIn_skip (hk _ _ _ (cS.le_refl _) (Ext.refl _ _) S)
 |label l=>simp only[cM,aK3.injEq,Prod.mk.injEq]at h;obtain⟨rfl,rfl,rfl⟩:=h;exact wpIn_label (hk _ _ _ (cS.le_refl _) (Ext.refl _ _) S)
 |exit id=>simp only[cM,aK3.injEq,Prod.mk.injEq]at h;obtain⟨rfl,rfl,rfl⟩:=h;exact wpIn_exit (hk _ _ _ (cS.le_refl _) (Ext.refl _ _) S)
 |ret=>simp only[cM,aK3.injEq,Prod.mk.injEq]at h;obtain⟨rfl,rfl,rfl⟩:=h;exact wpIn_ret (hk _ _ _ (cS.le_refl _) (Ext.refl _ _) S)
 |scope body=>simp[cM]at h
 |goto l=>simp[cM]at h
 |refuse why=>simp[cM]at h
 |region id ops draw=>
  simp only[cM,aKD]at h;obtain⟨⟨t1,h1⟩,hr,he⟩:=h;simp only[Prod.mk.injEq]at he;obtain⟨rfl,rfl,rfl⟩:=he;cases draw with
  |false=>
   simp only[aK4,if_false]at hr;exact Tu V (uZ V O jD) (yL V O jD) (oG V jD) hF hr S hk
  |true=>
   simp only[if_true]at hr;simp only[codeOk,Bool.not_true,Bool.false_or]at hc;exact FD id ops ts H _ _ hr hc F hF B Lo w0 ι w a hB BI S Q hk
 |seq x y=>
  simp only[codeOk,aMh]at hc;have GY:(F=Fence.wide∨flat x=true)/\(F=Fence.wide∨flat y=true):=by
   rcases Jp with q|q
   ·exact⟨.inl q,.inl q⟩
   ·simp only[flat,aMh]at q;exact⟨.inr q.1,.inr q.2⟩
  simp only[cM]at h;cases hb:rec x ts H with
  |none=>rw[hb]at h;cases h
  |some r=>
   obtain⟨e1,ts1,H1⟩:=r;rw[hb]at h;refine wpIn_seq (jD x ts H e1 ts1 H1 hb hc.1 F hF GY.1 B Lo w0 ι w a hB BI S _ fun a1 w1 ι1 k1 k2 k3=>?_);cases e1 with
   |normal=>exact jD y ts1 H1 ex ts' H' h hc.2 F hF GY.2 B Lo w0 ι1 w1 a1 hB (aM7 BI k2.size) k3 Q (hk.chain k1 k2)
   |exit id=>cases h;exact hk _ _ _ k1 k2 k3
   |ret=>cases h;exact hk _ _ _ k1 k2 k3
 |cond c x y=>
  simp only[codeOk,aMh]at hc;have GY:(F=Fence.wide∨flat x=true)/\(F=Fence.wide∨flat y=true):=by
   rcases Jp with q|q
   ·exact⟨.inl q,.inl q⟩
   ·simp only[flat,aMh]at q;exact⟨.inr q.1,.inr q.2⟩
  simp only[cM]at h;split at h
  case h_2=>cases h
  rename_i t ht;have hev:=dU S.tm ht;simp only[R]at hev;refine wpIn_cond hev ?_;cases t with
  |true=>exact jD x ts H ex ts' H' h hc.1 F hF GY.1 B Lo w0 ι w a hB BI S Q hk
  |false=>exact jD y ts H ex ts' H' h hc.2 F hF GY.2 B Lo w0 ι w a hB BI S Q hk
 |block id body=>
  simp only[codeOk]at hc;have GY:F=Fence.wide∨flat body=true:=by
   rcases Jp with q|q
   ·exact .inl q
   ·simp only[flat]at q;exact .inr q
  simp only[cM]at h;cases hb:rec body ts H with
  |none=>rw[hb]at h;cases h
  |some r=>
   obtain⟨e1,ts1,H1⟩:=r;rw[hb]at h;refine wpIn_block (jD body ts H e1 ts1 H1 hb hc F hF GY B Lo w0 ι w a hB BI S _ fun a1 w1 ι1 k1 k2 k3=>?_);cases e1 with
   |normal=>cases h;exact hk _ _ _ k1 k2 k3
   |ret=>cases h;exact hk _ _ _ k1 k2 k3
   |exit M7=>
    simp only[Ex.up,Exit.inBlock];simp only at h;split at h
    ·rename_i q;rw[if_pos q];cases h;exact hk _ _ _ k1 k2 k3
    ·rename_i q;rw[if_neg q];cases h;exact hk _ _ _ k1 k2 k3
 |loop body=>
  simp only[codeOk]at hc;have GY:F=Fence.wide∨flat body=true:=by
   rcases Jp with q|q
   ·exact .inl q
   ·simp only[flat]at q;exact .inr q
  exact wpIn_loop_rounds (k+1) (hl body ts H ex ts' H' h hc F hF GY B Lo w0 ι w a hB BI S Q hk)
 |rangeFunc g ps assign body=>
  simp only[codeOk,aMh]at hc;have hFw:F=Fence.wide:=by
   rcases Jp with q|q
   ·exact q
   ·simp[flat]at q
  subst hFw;simp only[cM]at h;split at h
  case h_2=>cases h
  rename_i f first cap hg
  split at h
  case h_2=>cases h
  rename_i v H2 FB;split at h
  case h_2=>cases h
  rename_i st im Am Ae zu b3 GZ;split at h
  ·cases h
  rename_i dp;exact HG V jD (fv:=.gQ) hg FB dp h GZ hc.1.1.1 hc.1.1.2 hc.1.2 hc.2 hB BI S hk
def tf(V:Valid E P)(O:oW E P)(FD:∀rec,nf E P rec->LW E P rec):∀n,nf E P (bR E n)/\Gx E P (bR E n) n
 |0=>⟨fun _ _ _ _ _ _ h=>by simp[bR]at h,fun _ _ _ _ _ _ h=>by simp[bR]at h⟩
 |n+1=>Wz V O (tf V O FD n).1 (tf V O FD n).2 (FD _ (tf V O FD n).1)
end
section
variable{E:Env}{pc:Pc}{ic yc:Ic}{dr:Bool}{ts ts':List AV}{H H':Hp}{aP nid':Nat}{o:Oper}
def uA:∀(xs:List Operand),(∀x,x∈xs->bT ts x=bT ts' x)->km ts xs=km ts' xs
 |[],_=>rfl
 |x::xs,h=>by
  simp only[km,h x (by simp),uA xs fun y hy=>h y (by simp[hy])]
def zE:∀(ps:List (Nat×Operand)),(∀x,x∈ps.map (·.2)->bT ts x=bT ts' x)->sC ts ps=sC ts' ps
 |[],_=>rfl
 |(i,x)::ps,h=>by
  simp only[sC,h x (by simp),zE ps fun y hy=>h y (by simp only[List.map_cons,aMp];exact .inr hy)]
def td(x:Option Operand)(h:∀y,y∈x.toList->bT ts y=bT ts' y):gr ts x=gr ts' x:=by
 cases x with
 |none=>rfl
 |some x=>simp only[gr,h x (by simp)]
def Tc(h:∀x,x∈o.op.operands.toList->bT ts x=bT ts' x):dH E pc ic yc dr ts H aP o=dH E pc ic yc dr ts' H aP o:=by
 unfold dH;cases ho:o.op<;>simp only[ho,Op.operands]at h⊢
 case move x=>rw[h x (by simp)]
 case assign x=>rw[h x (by simp)]
 case pick c a b=>
  rw[h c (by simp)]
  split
  ·split<;>rw[h _ (by simp)]
  ·rfl
 case box t x=>rw[h x (by simp)]
 case build t ps=>rw[zE ps.toList (fun x hx=>h x (by simpa using hx))]
 case buildSlice t len ps=>rw[zE ps.toList (fun x hx=>h x (by simpa using hx))]
 case load t x=>rw[h x (by simp)]
 case store t x y=>rw[h x (by simp),h y (by simp)]
 case nilCheck x=>rw[h x (by simp)]
 case binOp op t x y _=>rw[h x (by simp),h y (by simp)]
 case unOp op t x=>rw[h x (by simp)]
 case convert s d x=>rw[h x (by simp)]
 case makeInterface t x=>rw[h x (by simp)]
 case makeFunc fn first cap=>
  cases fn<;>try rfl
  simp only;rw[uA first.toList (fun x hx=>h x (by simp at hx⊢;exact .inl hx)),uA cap.toList (fun x hx=>h x (by simp at hx⊢;exact .inr hx))]
 case makeMap t r=>rw[td r (fun x hx=>h x (by simpa using hx))]
 case makeSlice t x y=>rw[h x (by simp),h y (by simp)]
 case slice t x lo hi mx=>
  rw[h x (by simp),td lo (fun x hx=>h x (by simp at hx⊢;simp[hx])),td hi (fun x hx=>h x (by simp at hx⊢;simp[hx]))]
 case fieldAddr t x f=>rw[h x (by simp)]
 case field t x f=>rw[h x (by simp)]
 case indexAddr t x i=>rw[h x (by simp),h i (by simp)]
 case index t x i=>rw[h x (by simp),h i (by simp)]
 case lookup t x i ok=>rw[h x (by simp),h i (by simp)]
 case mapUpdate t m k x=>rw[h m (by simp),h k (by simp),h x (by simp)]
 case insert t m k x=>rw[h m (by simp),h k (by simp),h x (by simp)]
 case sliceToArrayPointer t x=>rw[h x (by simp)]
 case range t x=>rw[h x (by simp)]
 case next it s=>
  cases s<;>try rfl
  simp only;rw[h it (by simp)]
 case extract t i=>rw[h t (by simp)]
 case call c=>
  rw[uA c.args.toList (fun x hx=>h x (by simp only[Call.operands,aM6,List.mem_append];exact .inr hx))];cases hc:c.callee with
  |builtin b=>rfl
  |invoke r m=>rfl
  |value f=>simp only;rw[h f (by simp[Call.operands,hc])]
def GD{b:Builtin}(h:b≠ .append)(ats:List Nat)(a_:List AV):bB E H aP b ats a_=bB E H nid' b ats a_:=by
 unfold bB;cases b<;>first|exact absurd rfl h|skip
 all_goals rcases ats with _|⟨t,_|⟨u,r⟩⟩<;>rcases a_ with _|⟨x,_|⟨y,s⟩⟩<;>first|rfl|(cases x<;>rfl)
def BP(h:bV E o=false):dH E pc ic yc dr ts H aP o=dH E pc ic yc dr ts H nid' o:=by
 unfold dH;unfold bV at h;cases ho:o.op<;>simp only[ho]at h⊢<;>try (cases h;done)
 case call c=>
  cases hc:c.callee with
  |invoke r m=>rfl
  |value f=>rfl
  |builtin b=>
   simp only[hc]at h;have hb:b≠ .append:=fun q=>by subst q;simp at h
   simp only
   split
   ·rw[GD (aP:=aP) (nid':=nid') hb]
   ·rfl
 case makeFunc fn first cap=>cases fn<;>rfl
 case next it s=>cases s<;>rfl
def Mb{b:Builtin}(hb:b=.cap∨b=.max∨b=.min){ats:List Nat}{a_:List AV}{y:AV}{l:List (Nat×ct)}(h:bB E H aP b ats a_=some (y,l)):
  l=[]/\∀H' nid',bB E H' nid' b ats a_=some (y,l):=by
 have key:∀{r:Option AV},(r.map fun v=>(v,([]:List (Nat×ct))))=some (y,l)->l=[]:=fun{r} h=>by
  rw[aKD]at h;obtain⟨_,_,q⟩:=h;cases q;rfl
 rcases hb with rfl|rfl|rfl
 ·rcases ats with _|⟨t,ats⟩
  ·cases h
  rcases a_ with _|⟨x,a_⟩
  ·cases h
  cases x<;>try (cases h;done)
  have h':(match E.ty t with
   |some {cD:=.slice _,..}=>some (AV.int .i64 0,([]:List (Nat×ct)))
   |_=>none)=some (y,l):=h
  refine⟨?_,fun _ _=>h⟩;split at h'
  ·cases h';rfl
  ·cases h'
 ·rcases a_ with _|⟨x,a_⟩
  ·rcases ats with _|⟨t,_|⟨u,r⟩⟩<;>cases h
  ·have e1:∀H aP,bB E H aP .max ats (x::a_)=((qw AP x a_).map fun v=>(v,[])):=fun H aP=>by
    rcases ats with _|⟨t,_|⟨u,r⟩⟩<;>rcases a_ with _|⟨y,s⟩<;>cases x<;>rfl
   rw[e1]at h;exact⟨key h,fun _ _=>by rw[e1];exact h⟩
 ·rcases a_ with _|⟨x,a_⟩
  ·rcases ats with _|⟨t,_|⟨u,r⟩⟩<;>cases h
  ·have e1:∀H aP,bB E H aP .min ats (x::a_)=((qw KG x a_).map fun v=>(v,[])):=fun H aP=>by
    rcases ats with _|⟨t,_|⟨u,r⟩⟩<;>rcases a_ with _|⟨y,s⟩<;>cases x<;>rfl
   rw[e1]at h;exact⟨key h,fun _ _=>by rw[e1];exact h⟩
def auW(hc:iJ E o=.n){v:AV}{e:cC}(h:dH E pc ic yc dr ts H aP o=some (v,e)):e=.bJ []/\∀H' nid',dH E pc ic yc dr ts H' nid' o=some (v,e):=by
 have key:∀{r:Option AV},(r.map fun x=>(x,cC.bJ []))=some (v,e)->e=.bJ []:=fun{r} h=>by
  rw[aKD]at h;obtain⟨_,_,q⟩:=h;cases q;rfl
 unfold dH at h;unfold iJ at hc;unfold dH;cases ho:o.op<;>simp only[ho]at hc h⊢<;>try (cases hc;done)
 case move x=>exact⟨key h,fun _ _=>h⟩
 case assign x=>exact⟨key h,fun _ _=>h⟩
 case pick c a b=>
  split at h
  ·exact⟨key h,fun _ _=>h⟩
  ·cases h
 case build t ps=>
  split at h
  ·exact⟨key h,fun _ _=>h⟩
  ·cases h
 case nilCheck x=>
  split at h<;>first|exact⟨key h,fun _ _=>h⟩|(cases h;done)
 case binOp op t x y _=>
  split at h
  ·exact⟨key h,fun _ _=>h⟩
  ·cases h
 case unOp op t x=>
  split at h
  ·exact⟨key h,fun _ _=>h⟩
  ·cases h
 case makeInterface t x=>
  split at h
  ·split at h
   ·cases h
   ·exact⟨key h,fun _ _=>h⟩
  ·cases h
 case makeFunc fn first cap=>
  cases fn<;>simp only at h⊢<;>try (cases h;done)
  split at h
  ·exact⟨key h,fun _ _=>h⟩
  ·cases h
 case fieldAddr t x f=>
  split at h
  ·exact⟨key h,fun _ _=>h⟩
  ·cases h
 case field t x f=>
  split at h
  ·exact⟨key h,fun _ _=>h⟩
  ·cases h
 case indexAddr t x i=>
  split at h
  ·exact⟨key h,fun _ _=>h⟩
  ·cases h
 case index t x i=>
  split at h
  ·exact⟨key h,fun _ _=>h⟩
  ·cases h
 case sliceToArrayPointer t x=>
  split at h
  ·split at h
   ·cases h
   ·rename_i ek;rw[if_neg ek];exact⟨key h,fun _ _=>h⟩
  ·split at h
   ·cases h
   ·rename_i ek;rw[if_neg ek];exact⟨key h,fun _ _=>h⟩
  ·cases h
 case extract t i=>
  split at h
  ·exact⟨key h,fun _ _=>h⟩
  ·cases h
 case slice t x lo hi mx=>
  split at h
  ·split at h
   ·simp[*]at hc
   ·rename_i eQ;refine⟨key h,fun _ _=>?_⟩;exact h
  ·cases h
 case convert s d x=>
  split at hc<;>cases hc
 case call c=>
  cases mO:c.callee with
  |invoke r m=>simp only[mO]at h;cases h
  |value f=>
   simp only[mO]at hc;cases f<;>simp only at hc<;>try (cases hc;done)
   split at hc<;>cases hc
  |builtin b=>
   simp only[mO]at h⊢;split at h
   case h_2=>cases h
   rename_i a_ has;rw[aKD]at h;obtain⟨⟨y,l⟩,h1,h2⟩:=h;cases h2;have hb:b=.cap∨b=.max∨b=.min:=by
    simp only[mO]at hc;cases b<;>simp at hc⊢
   obtain⟨g1,g2⟩:=Mb hb h1;subst g1;exact⟨rfl,fun H' nid'=>by rw[g2 H' nid'];rfl⟩
end
def o9(H H':Hp)(b:Nat):Prop:=(H'[b]?).map ct.j7=(H[b]?).map ct.j7
section
variable{E:Env}{pc:Pc}{ic yc:Ic}{dr:Bool}{ts ts':List AV}{H H':Hp}{aP nid':Nat}{o:Oper}{b:Nat}
def o9.cells(h:o9 H H' b){st:oe}{cs:List AV}(hb:H[b]?=some (.cells st cs))(hd:st≠ .dead):∃st',H'[b]?=some (.cells st' cs)/\st'≠ .dead:=by
 unfold o9 at h;rw[hb]at h;simp only[aLt,aKD]at h;obtain⟨k,h1,h2⟩:=h;cases k<;>cases st<;>simp only[ct.j7]at h2<;>try (exact absurd rfl hd)
 case cells.live st' Aw=>cases st'<;>simp only[ct.cells.injEq,true_and]at h2<;>first|(subst h2;exact⟨_,h1,by simp⟩)|(cases h2.1)
 case cells.ro st' Aw=>cases st'<;>simp only[ct.cells.injEq,true_and]at h2<;>first|(subst h2;exact⟨_,h1,by simp⟩)|(cases h2.1)
 case map.live st' a b=>cases st'<;>simp[]at h2
 case map.ro st' a b=>cases st'<;>simp[]at h2
 all_goals cases h2
def o9.map(h:o9 H H' b){st:oe}{ks vs:List AV}(hb:H[b]?=some (.map st ks vs))(hd:st≠ .dead):∃st',H'[b]?=some (.map st' ks vs)/\st'≠ .dead:=by
 unfold o9 at h;rw[hb]at h;simp only[aLt,aKD]at h;obtain⟨k,h1,h2⟩:=h;cases k<;>cases st<;>simp only[ct.j7]at h2<;>try (exact absurd rfl hd)
 case map.live st' a b=>cases st'<;>simp only[ct.map.injEq,true_and]at h2<;>first|(obtain⟨rfl,rfl⟩:=h2;exact⟨_,h1,by simp⟩)|(cases h2.1)
 case map.ro st' a b=>cases st'<;>simp only[ct.map.injEq,true_and]at h2<;>first|(obtain⟨rfl,rfl⟩:=h2;exact⟨_,h1,by simp⟩)|(cases h2.1)
 case cells.live st' a=>cases st'<;>simp[]at h2
 case cells.ro st' a=>cases st'<;>simp[]at h2
 all_goals cases h2
def o9.iG(h:o9 H H' b){s:List UInt8}{p:Nat}(hb:H[b]?=some (.iG s p)):H'[b]?=some (.iG s p):=by
 unfold o9 at h;rw[hb]at h;simp only[aLt,aKD]at h;obtain⟨k,h1,h2⟩:=h;cases k<;>simp only[ct.j7]at h2
 case cells st' a=>cases st'<;>simp[]at h2
 case map st' a b=>cases st'<;>simp[]at h2
 case iG=>rw[h1,h2]
 all_goals cases h2
def Oq{p:AV}{r:List AV×Nat}(hr:∀b,b∈ej p->o9 H H' b)(h:yG E H p=some r):yG E H' p=some r:=by
 unfold yG at h⊢;cases p<;>simp only at h⊢<;>try exact h
 case bI b off=>
  split at h
  case h_2=>cases h
  rename_i st cs hb;split at h
  ·cases h
  rename_i hd;obtain⟨st',g1,g2⟩:=(hr b (by simp[ej])).cells hb hd;rw[g1];simp only[g2,if_false];exact h
def xW{n:Nat}{x:AV}{r:List AV}(hr:∀b,b∈ej x->o9 H H' b)(h:gO H n x=some r):gO H' n x=some r:=by
 unfold gO at h⊢;cases x<;>simp only at h⊢<;>try exact h
 case aI b off len e kc=>
  split at h
  ·cases h
  rename_i he;rw[if_neg he];split at h
  case h_2=>cases h
  rename_i st cs hb;split at h
  ·cases h
  rename_i hd;obtain⟨st',g1,g2⟩:=(hr b (by simp[ej])).cells hb (fun q=>hd (.inl q));rw[g1];simp only;rw[if_neg (by
   rintro(q|q)
   ·exact g2 q
   ·exact hd (.inr q))]
  exact h
def Di{x:AV}{r:List AV×List AV}(hr:∀b,b∈ej x->o9 H H' b)(h:Ho H x=some r):Ho H' x=some r:=by
 unfold Ho at h⊢;cases x<;>simp only at h⊢<;>try exact h
 case eS b=>
  split at h
  case h_2=>cases h
  rename_i st ks vs hb;split at h
  ·cases h
  rename_i hd;obtain⟨st',g1,g2⟩:=(hr b (by simp[ej])).map hb hd;rw[g1];simp only[g2,if_false];exact h
def AM{t:Nat}{p v:AV}(hr:∀b,b∈ej p->o9 H H' b)(h:dW E H t p=some v):dW E H' t p=some v:=by
 unfold dW at h⊢;split at h
 case h_2=>cases h
 rename_i cs off hp;rw[Oq hr hp];exact h
def ET{t:Nat}{m k v:AV}{ok:Bool}(hr:∀b,b∈ej m->o9 H H' b)(h:jT E H t m k ok=some v):jT E H' t m k ok=some v:=by
 unfold jT at h⊢;split at h
 case h_2=>cases h
 split at h
 case h_2=>cases h
 rename_i ks vs hm;rw[Di hr hm];exact h
def Hl{t:Nat}{x v:AV}(hr:∀b,b∈ej x->o9 H H' b)(h:nw E H t x=some v):nw E H' t x=some v:=by
 unfold nw at h⊢;split at h<;>try exact h
 rw[aKD]at h;obtain⟨r,h1,h2⟩:=h;rw[Di hr h1];simp only[aLt,aK3.injEq];exact h2
def Bw{t:Nat}{x v:AV}{lo hi:Option AV}(hr:∀b,b∈ej x->o9 H H' b)(h:gY E H t x lo hi=some v):gY E H' t x lo hi=some v:=by
 unfold gY at h⊢;split at h
 case h_2=>cases h
 split at h
 case h_2=>cases h
 cases x<;>simp only at h⊢<;>try exact h
 case bI b off=>
  split at h
  case h_2=>cases h
  rename_i st cs hb;split at h
  ·cases h
  rename_i hd;obtain⟨st',g1,g2⟩:=(hr b (by simp[ej])).cells hb (fun q=>hd (.inl q));rw[g1];simp only;rw[if_neg (by
   rintro(q|q)
   ·exact g2 q
   ·exact hd (.inr q))]
  exact h
def wP{f g:AV->Option (AV×List Nat)}{J:Nat->Prop}(hf:∀x r bs,f x=some (r,bs)->(∀b,b∈bs->J b)->g x=some (r,bs)):
  ∀(xs:List AV) (rs:List (AV×List Nat)),eZ f xs=some rs->(∀b,b∈rs.flatMap (·.2)->J b)->eZ g xs=some rs
 |[],rs,h,_=>h
 |x::xs,rs,h,hj=>by
  unfold eZ at h⊢;split at h
  ·cases h
  rename_i y hy;split at h
  ·cases h
  rename_i ys hys;cases h;obtain⟨r,bs⟩:=y;rw[hf x r bs hy (fun b hb=>hj b (by simp[hb])),wP hf xs ys hys (fun b hb=>hj b (by
   rw[List.flatMap_cons];exact aNa _ hb))]
def CP:∀(n:Nat) (x r:AV) (bs:List Nat),fz H n x=some (r,bs)->(∀b,b∈bs->o9 H H' b)->fz H' n x=some (r,bs)
 |0,_,_,_,h,_=>by cases h
 |n+1,x,r,bs,h,hj=>by
  have hl:∀(cs:List AV) (q:List AV×List Nat),((eZ (fz H n) cs).map fun r=>(r.map (·.1),r.flatMap (·.2)))=some q->(∀b,b∈q.2->o9 H H' b)->
    ((eZ (fz H' n) cs).map fun r=>(r.map (·.1),r.flatMap (·.2)))=some q:=fun cs q h1 h2=>by
   rw[aKD]at h1;obtain⟨rs,g1,rfl⟩:=h1;rw[wP (fun x r bs=>CP n x r bs) cs rs g1 h2];rfl
  unfold fz at h⊢;simp only at h⊢;cases x<;>simp only at h⊢<;>try exact h
  case bI b off=>
   split at h
   case h_2=>cases h
   rename_i st cs hb;split at h
   ·cases h
   rename_i hd;rw[aKD]at h;obtain⟨q,g1,g2⟩:=h;cases g2;obtain⟨st',k1,k2⟩:=(hj b (by simp)).cells hb hd;rw[k1];simp only[k2,if_false];rw[hl cs q g1 (fun c hc=>hj c (by simp[hc]))];rfl
  case aI b off len esz kc=>
   split at h
   case h_2=>cases h
   rename_i st cs hb;split at h
   ·cases h
   rename_i hd;rw[aKD]at h;obtain⟨q,g1,g2⟩:=h;cases g2;simp only[Bool.or_eq_true,decide_eq_true_eq,not_or]at hd;obtain⟨st',k1,k2⟩:=(hj b (by simp)).cells hb hd.1;rw[k1];simp only;rw[if_neg (by simp only[Bool.or_eq_true,decide_eq_true_eq,not_or];exact⟨k2,hd.2⟩)];rw[hl _ q g1 (fun c hc=>hj c (by simp[hc]))];rfl
  case eS b=>
   split at h
   case h_2=>cases h
   rename_i st ks vs hb;split at h
   ·cases h
   rename_i hd;split at h
   case h_2=>cases h
   rename_i k b1 v b2 g1 g2;cases h;obtain⟨st',k1,k2⟩:=(hj b (by simp)).map hb hd;rw[k1];simp only[k2,if_false];rw[hl _ _ g1 (fun c hc=>hj c (by simp at hc⊢;exact .inr (.inl hc))),hl _ _ g2 (fun c hc=>hj c (by simp at hc⊢;exact .inr (.inr hc)))]
  case agg cs=>
   rw[aKD]at h;obtain⟨q,g1,g2⟩:=h;cases g2;rw[hl cs q g1 hj];rfl
  case tuple cs=>
   rw[aKD]at h;obtain⟨q,g1,g2⟩:=h;cases g2;rw[hl cs q g1 hj];rfl
  case iface t v=>
   rw[aKD]at h;obtain⟨q,g1,g2⟩:=h;cases g2;rw[CP n v q.1 q.2 g1 hj];rfl
  case func f a c=>
   split at h
   case h_2=>cases h
   rename_i a' b1 c' b2 g1 g2;cases h;rw[hl _ _ g1 (fun c hc=>hj c (List.mem_append_left _ hc)),hl _ _ g2 (fun c hc=>hj c (aNa _ hc))]
def Ez{vs r:List AV}{bs:List Nat}(h:bW H vs=some (r,bs))(hj:∀b,b∈bs->o9 H H' b):bW H' vs=some (r,bs):=by
 unfold bW at h⊢;split at h
 ·rename_i hp;rw[if_pos hp];exact h
 ·rename_i hp;rw[if_neg hp];split at h
  ·cases h
  rename_i rs hrs;cases h;rw[wP (fun x r bs=>CP 40 x r bs) vs rs hrs hj]
def Ga{x:Operand}(hx:x∈o.op.operands.toList){v:AV}(hv:bT ts x=some v){b:Nat}(hb:b∈ej v):b∈lG ts o:=by
 unfold lG;rw[List.mem_flatMap];exact⟨x,hx,by rw[hv];exact hb⟩
def GR:∀{xs:List Operand} {vs:List AV},km ts xs=some vs->∀v,v∈vs->∃x,x∈xs/\bT ts x=some v
 |[],vs,h,v,hv=>by
  simp only[km,aK3.injEq]at h;subst h;simp at hv
 |x::xs,vs,h,v,hv=>by
  unfold km at h;split at h
  ·cases h
  rename_i y hy;split at h
  ·cases h
  rename_i ys hys;cases h;rcases aMp.1 hv with rfl|hv
  ·exact⟨x,by simp,hy⟩
  ·obtain⟨z,h1,h2⟩:=GR hys v hv;exact⟨z,by simp[h1],h2⟩
def auX(hc:iJ E o=.r){v:AV}{e:cC}(h:dH E pc ic yc true ts H aP o=some (v,e)):
  (e=.bJ []/\∀H',(∀b,b∈lG ts o->o9 H H' b)->dH E pc ic yc true ts H' aP o=some (v,e))∨
  ∃bs,(e=.looks bs∨e=.marks bs)/\∀H',(∀b,b∈bs->o9 H H' b)->dH E pc ic yc true ts H' aP o=some (v,e):=by
 have key:∀{r:Option AV},(r.map fun x=>(x,cC.bJ []))=some (v,e)->e=.bJ []/\r=some v:=fun{r} h=>by
  rw[aKD]at h;obtain⟨_,q1,q⟩:=h;cases q;exact⟨rfl,q1⟩
 unfold dH at h;unfold iJ at hc;unfold dH;have AG:∀(H':Hp),(∀b,b∈lG ts o->o9 H H' b)->∀x,x∈o.op.operands.toList->∀v,bT ts x=some v->∀b,b∈ej v->o9 H H' b:=
  fun H' hr x hx v hv b hb=>hr b (Ga hx hv hb)
 cases ho:o.op<;>simp only[ho]at hc h⊢<;>try (cases hc;done)
 case load t x=>
  split at h
  case h_2=>cases h
  rename_i p hp;obtain⟨rfl,h1⟩:=key h;refine .inl ⟨rfl,fun H' hr=>?_⟩;rw[AM (AG H' hr x (by simp[ho,Op.operands]) p hp) h1];rfl
 case lookup t x i ok=>
  split at h
  case h_2=>cases h
  rename_i m k hm hk;obtain⟨rfl,h1⟩:=key h;refine .inl ⟨rfl,fun H' hr=>?_⟩;rw[ET (AG H' hr x (by simp[ho,Op.operands]) m hm) h1];rfl
 case slice t x lo hi mx=>
  split at h
  case h_2=>cases h
  rename_i a l hh hx _ _;split at h
  ·obtain⟨rfl,h1⟩:=key h;refine .inl ⟨rfl,fun H' hr=>?_⟩;rw[Bw (AG H' hr x (by simp[ho,Op.operands]) a hx) h1];rfl
  ·obtain⟨rfl,h1⟩:=key h;exact .inl ⟨rfl,fun H' hr=>h⟩
 case convert s d x=>
  split at h
  ·simp[*]at hc
  ·rename_i z1 hx q1 q2;split at h
   case h_2=>cases h
   rename_i cs hty oQ;obtain⟨rfl,h1⟩:=key h;refine .inl ⟨rfl,fun H' hr=>?_⟩;rw[xW (AG H' hr x (by simp[ho,Op.operands]) _ ‹_›) oQ,hty];exact h
  ·obtain⟨rfl,h1⟩:=key h;exact .inl ⟨rfl,fun H' hr=>h⟩
  ·cases h
 case call c=>
  cases mO:c.callee with
  |invoke r m=>simp only[mO]at h;cases h
  |builtin bi=>
   simp only[mO]at hc h⊢;cases bi<;>simp only at hc<;>try (cases hc;done)
   split at h
   case h_2=>cases h
   rename_i a_ has;rw[aKD]at h;obtain⟨⟨y,l⟩,h1,h2⟩:=h;cases h2;rcases sk:c.argTypes.toList with _|⟨t,ats⟩
   ·rw[sk]at h1;rcases a_ with _|⟨x,a_⟩<;>cases h1
   rw[sk]at h1;rcases a_ with _|⟨x,a_⟩
   ·rcases ats with _|⟨u,r⟩<;>cases h1
   have e1:∀H aP,bB E H aP .len (t::ats) (x::a_)=((nw E H t x).map fun v=>(v,[])):=fun H aP=>by
    rcases ats with _|⟨u,r⟩<;>rcases a_ with _|⟨y,s⟩<;>cases x<;>rfl
   rw[e1,aKD]at h1;obtain⟨z,g1,g2⟩:=h1;cases g2;refine .inl ⟨rfl,fun H' hr=>?_⟩;obtain⟨xo,k1,k2⟩:=GR has x (by simp)
   have:=Hl (AG H' hr xo (by rw[ho];simp only[Op.operands,Call.operands,aM6,List.mem_append];exact .inr k1) x k2) g1
   rw[e1,this];rfl
  |value f=>
   simp only[mO]at hc h⊢;cases f<;>simp only at hc<;>try (cases hc;done)
   rename_i f;split at h
   case h_2=>cases h
   rename_i fv a_ hfv has;simp only[bT,aK3.injEq]at hfv;subst hfv;have main:∀(h:(match bW H a_ with
     |some (a_,bs)=>(pc f a_).map fun v=>(v,if bY v then cC.looks bs else cC.marks bs)
     |none=>none)=some (v,e)),∃bs,(e=.looks bs∨e=.marks bs)/\∀H',(∀b,b∈bs->o9 H H' b)->(match bW H' a_ with
     |some (a_,bs)=>(pc f a_).map fun v=>(v,if bY v then cC.looks bs else cC.marks bs)
     |none=>none)=some (v,e):=fun h=>by
    split at h
    case h_2=>cases h
    rename_i as' bs fY;rw[aKD]at h;obtain⟨r,g1,g2⟩:=h;cases g2;refine⟨bs,?_,fun H' hr=>?_⟩
    ·by_cases zQ:bY v=true
     ·exact .inl (by simp[zQ])
     ·exact .inr (by simp[zQ])
    ·rw[Ez fY hr];simp only;rw[g1];rfl
   unfold ka at h⊢;simp only[List.nil_append,List.append_nil]at h⊢;right
   rcases fB:E.fn f with _|⟨code,nt,rs,p,d⟩
   ·rw[fB]at h;exact main h
   ·rw[fB]at h hc;cases p
    ·cases d
     ·cases hc
     ·exact main h
    ·exact main h
end
end Dv
