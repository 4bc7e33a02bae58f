/- Lemmas for AssemblyRefuses; no condition. -/
import Derived.Test.YtmkjgfnicfpjpaaGreatDoorRac
import Derived.TacticsIn
import Derived.RangeFuncRecord
import Derived.RangeFuncIn
import Derived.LoopNIn
set_option linter.all false
set_option maxHeartbeats 100000000
set_option maxRecDepth 100000
noncomputable section
open Option renaming map_eq_some_iff->aLs,some->aLS,map_some->aMi
open Array renaming toList_append->aNV,length_toList->aNf,getElem?_push->aLr,toList_setIfInBounds->aNX,toList_replicate->aNY,getElem?_toList->aLR
open Bool renaming and_eq_true->aM6,false_eq_true->aLT
open Nat renaming le_trans->aNW,le_refl->aLt,lt_of_lt_of_le->aN0
open List renaming replicate->aLu,mem_append_right->aNZ,mem_cons->aNe
namespace Dv
open Go Go.RowKit
def LK(Rr:Value->World->Prop):Ending->World->Prop
 |.returned v,w=>Rr v w
 |_,_=>False
def lQ(P:Program)(r:Result Next)(Rr:Value->World->Prop):Prop:=
 (∃v w',r=.ok (.value v) w'/\Rr v w')∨
 (∃f args w1,r=.ok (.enter f args) w1/\CallsIn Fence.wide 0 P f args w1 (LK Rr))∨
 (∃l f tmps assign body w1,r=.ok (.round l f tmps assign body) w1/\RoundIn Fence.wide 0 P l f tmps assign body w1 (LK Rr))
def ka(F:Fence):Prop:=F=Fence.wide∨∃l,F=Fence.wide.inRound l
def ka.abX{F:Fence}(hF:ka F){P:Program}{f:FuncId}{args:Array Value}{w:World}{R:Ending->World->Prop}(h:CallsIn Fence.wide 0 P f args w R):CallsIn F 0 P f args w R:=by
 rcases hF with rfl|⟨l,rfl⟩
 ·exact h
 ·exact h
def ka.aeJ{F:Fence}(hF:ka F){P:Program}{l:Nat}{f:FuncId}{tmps:Array Value}{assign body:Code}{w:World}{R:Ending->World->Prop}(h:RoundIn Fence.wide 0 P l f tmps assign body w R):
  RoundIn F 0 P l f tmps assign body w R:=by
 rcases hF with rfl|⟨l',rfl⟩
 ·exact h
 ·exact h
def ka.fn{F:Fence}(hF:ka F)(f:FuncId):F.fn f:=by
 rcases hF with rfl|⟨l,rfl⟩<;>exact trivial
def ka.deep{F:Fence}(hF:ka F):F.depth=none:=by
 rcases hF with rfl|⟨l,rfl⟩<;>rfl
def lQ.wpIn{P:Program}{F:Fence}(hF:ka F){o:Oper}{a:Act}{w:World}{Rr:Value->World->Prop}(hd:∀c,o.op≠ .defer c)
  (h:lQ P ((execOp a.eval o).run P w) Rr) {next:Act->World->Prop} {Q:Exit->Act->World->Prop} (hn:∀cv w',Rr cv w'->next (a.put o.dst cv) w'):
  o.wpIn F 0 P a w next Q:=by
 unfold Oper.wpIn;refine⟨fun f _=>hF.fn f,?_⟩;rw[Oper.semAt_eq _ _ _ hd];have hdp:F.depth.isSome=true->1<=0:=by rw[hF.deep];simp
 rcases h with⟨v,w',h1,h2⟩|⟨f,args,w1,h1,h2⟩|⟨l,f,tmps,assign,body,w1,h1,h2⟩
 ·rw[h1,Oper.uponIn_value];exact hn _ _ h2
 ·rw[h1,Oper.uponIn_enter];refine⟨hdp,hF.abX (CallsIn.mono h2 fun e w' he=>?_)⟩;cases e with
  |returned v=>exact hn _ _ he
  |panicked _=>exact he.elim
  |outgrown=>exact he.elim
 ·rw[h1,Oper.uponIn_round];refine⟨hdp,hF.aeJ (RoundIn.mono h2 fun e w' he=>?_)⟩;cases e with
  |returned v=>exact hn _ _ he
  |panicked _=>exact he.elim
  |outgrown=>exact he.elim
section
variable{E:Env}{P:Program}{ι:cT}{w:World}{L L':Nat->Prop}{Lo:Nat->Prop}{w0:World}{H:Hp}
def sR(E:Env)(Lo:Nat->Prop)(w0:World)(ι:cT)(H:Hp)(w:World)(v:AV)(H2:Hp)(cv:Value)(w':World):Prop:=
 ∃ι':cT,ι.le ι'/\fT E Lo w0 ι' H2 w'/\Ext w (Live Lo ι H) w' (Live Lo ι' H2)/\R ι' w' (Live Lo ι' H2) v cv
def xG(E:Env)(L:Nat->Prop)(w:World):Prop:=∀g cs,E.glob g=some cs->∃c e f,w.heap[g]?=some (.cells c e f)/\¬L g/\iH cg w L c 0 cs/\c.size=cs.length
def lY(E:Env)(P:Program)(pc:Pc):Prop:=∀f a_ r,pc f a_=some r->∀(L:Nat->Prop) (w:World) (vs:Array Value),(∀c,L c->c<w.heap.size)->xG E L w->
 Rs cg w L a_ vs.toList->lQ P ((callFunc f vs).run P w) (fun v w'=>Below w.heap.size w w'/\R cg w' L r v)
def qt(E:Env)(P:Program)(ic:Ic):Prop:=∀f a_ H v H2,ic f a_ H=some (v,H2)->∀(Lo:Nat->Prop) (w0:World) (ι:cT) (w:World) (vs:Array Value),fT E Lo w0 ι H w->
 Rs ι w (Live Lo ι H) a_ vs.toList->lQ P ((callFunc f vs).run P w) (sR E Lo w0 ι H w v H2)
def rf(E:Env)(P:Program)(yc:Ic):Prop:=∀l a_ H v H2,yc l a_ H=some (v,H2)->∀(Lo:Nat->Prop) (w0:World) (ι:cT) (w:World) (vs:Array Value) (cb co:Nat),fT E Lo w0 ι H w->
 Rs ι w (Live Lo ι H) a_ vs.toList->ι l=some (cb,co)->lQ P ((Instr.yield cb vs).run P w) (sR E Lo w0 ι H w v H2)
def lQ.mono{r:Result Next}{R1 R2:Value->World->Prop}(h:lQ P r R1)(hm:∀v w,R1 v w->R2 v w):lQ P r R2:=by
 have hr:∀e w,LK R1 e w->LK R2 e w:=fun e w he=>by
  cases e with
  |returned v=>exact hm _ _ he
  |panicked _=>exact he.elim
  |outgrown=>exact he.elim
 rcases h with⟨v,w',h1,h2⟩|⟨f,args,w1,h1,h2⟩|⟨l,f,tmps,assign,body,w1,h1,h2⟩
 ·exact .inl ⟨v,w',h1,hm _ _ h2⟩
 ·exact .inr (.inl ⟨f,args,w1,h1,CallsIn.mono h2 hr⟩)
 ·exact .inr (.inr ⟨l,f,tmps,assign,body,w1,h1,RoundIn.mono h2 hr⟩)
def Q2(S:fT E Lo w0 ι H w):∀c,Live Lo ι H c->c<w.heap.size:=by
 rintro c (hc|⟨b,bk,co,h1,h2,h3⟩)
 ·exact aN0 (S.lo c hc) S.below.size
 ·exact(S.Ik b _ h3).2
def fT.later(S:fT E Lo w0 ι H w){w':World}(hb:Below w.heap.size w w'):fT E Lo w0 ι H w'/\Ext w (Live Lo ι H) w' (Live Lo ι H):=by
 have hx:Ext w (Live Lo ι H) w' (Live Lo ι H):=by refine⟨hb.size,fun c hc hn=>⟨hb.block c hc,hn⟩,fun c cs e f hc=>⟨cs,f,?_,rfl⟩⟩;rw[hb.block c (eF hc)];exact hc
 refine⟨⟨S.below.trans (hb.mono S.below.size),S.lo,?_,?_,S.inj,?_,S.qa,S.res⟩,hx⟩
 ·intro b p hp
  have:=S.Ik b p hp
  exact⟨this.1,aN0 this.2 hb.size⟩
 ·intro b bk GW hd;obtain⟨c1,k1,ob,h1,h2,h3,h4,h5⟩:=S.obj b bk GW hd;exact⟨c1,k1,ob,h1,by rw[hb.block c1 (eF h2)];exact h2,h3.ext hx (cT.le_refl _),h4,h5⟩
 ·intro g cs hg;obtain⟨c,e,f,h1,h2,h3,hz⟩:=S.glob g cs hg
  have:=hx.keep h1 h2
  exact⟨c,e,f,this.1,this.2,iH.ext hx _ _ _ _ _ (cT.le_refl _) h3,hz⟩
mutual
def E6{ι':cT}{w':World}:∀(av:AV) (v:Value),bQ av=true->R ι w L av v->R ι' w' L' av v
 |.bool _,_,_,h=>by simpa[R]using h
 |.int _ _,_,_,h=>by simpa[R]using h
 |.str _,_,_,h=>by simpa[R]using h
 |.gQ,_,_,h=>by simpa[R]using h
 |.bK _ _,_,p,_=>by simp[bQ]at p
 |.cS _ _,_,p,_=>by simp[bQ]at p
 |.ie _ _,_,p,_=>by simp[bQ]at p
 |.aH,_,_,h=>by simpa[R]using h
 |.dw,_,_,h=>by simpa[R]using h
 |.aI _ _ _ _ _,_,p,_=>by simp[bQ]at p
 |.aK _ _,_,p,_=>by simp[bQ]at p
 |.gb,_,_,h=>by simpa[R]using h
 |.eR _,_,p,_=>by simp[bQ]at p
 |.vV _ _,_,p,_=>by simp[bQ]at p
 |.fR,_,_,h=>by simpa[R]using h
 |.func _ _ _,_,p,_=>by simp[bQ]at p
 |.nilIface,_,_,h=>by simpa[R]using h
 |.iface _ _,_,p,_=>by simp[bQ]at p
 |.agg cs,_,p,h=>by
  simp only[bQ]at p;simp only[R]at h⊢;obtain⟨y,h1,h2⟩:=h;exact⟨y,h1,wu _ _ p h2⟩
 |.tuple cs,_,p,h=>by
  simp only[bQ]at p;simp only[R]at h⊢;obtain⟨y,h1,h2⟩:=h;exact⟨y,h1,wu _ _ p h2⟩
 |.yield _,_,p,_=>by simp[bQ]at p
def wu{ι':cT}{w':World}:∀(xs:List AV) (vs:List Value),bQ.uh xs=true->Rs ι w L xs vs->Rs ι' w' L' xs vs
 |[],_,_,h=>by simpa[Rs]using h
 |x::xs,_,p,h=>by
  simp only[bQ.uh,aM6]at p;simp only[Rs]at h⊢;obtain⟨y,ys,h1,h2,h3⟩:=h;exact⟨y,ys,h1,E6 _ _ p.1 h2,wu _ _ p.2 h3⟩
end
def ah7{x:Option (AV×Hp)}{dr:Bool}{v:AV}{e:cF}(h:(match x with
  |some (v,h)=>if(dr&&!sf H h)=true then none else some (v,cF.Ep h)
  |none=>none)=some (v,e)):(x.map fun(v,h)=>(v,cF.Ep h))=some (v,e):=by
 cases x with
 |none=>cases h
 |some p=>
  obtain⟨u,k⟩:=p;simp only at h;split at h
  ·cases h
  ·exact h
def R3{pc:Pc}{ic yc:Ic}(hp:lY E P pc)(hi:qt E P ic)(hy:rf E P yc)(S:fT E Lo w0 ι H w){dr:Bool}{fv v:AV}{e:cF}{cfv:Value}{args:List AV}{Ci:Array Value}
  (hf:R ι w (Live Lo ι H) fv cfv) (ha:Rs ι w (Live Lo ι H) args Ci.toList) (h:ke E pc ic yc dr H fv args=some (v,e)):
  lQ P ((do let d<-Deferred.ofValue cfv Ci;invoke d.target d.args:Sem Next).run P w) (sR E Lo w0 ι H w v (e.app H)):=by
 unfold ke at h;split at h
 ·
  rename_i l;rw[aLs]at h;obtain⟨⟨v',H2⟩,h1,h2⟩:=h;cases h2;simp only[R]at hf;obtain⟨cb,co,g1,rfl⟩:=hf
  have:=hy l args H v H2 h1 Lo w0 ι w Ci cb co S ha g1
  simpa[Deferred.ofValue,invoke,cF.app]using this
 ·rename_i f first cap
  simp only[R]at hf;obtain⟨cf,cc,rfl,r1,r2⟩:=hf;have qd:Rs ι w (Live Lo ι H) (first++args++cap) (cf++Ci++cc).toList:=by rw[aNV,aNV];exact(r1.append ha).append r2
  have hinv:(do let d<-Deferred.ofValue (.func (.func f) cf cc) Ci;invoke d.target d.args:Sem Next).run P w=(callFunc f (cf++Ci++cc)).run P w:=by simp[Deferred.ofValue,invoke]
  rw[hinv];have h':(match bX H (first++args++cap)with
    |some (a_,bs)=>(pc f a_).map fun v=>(v,if bQ v then cF.looks bs else cF.marks bs)
    |none=>none)=some (v,e)∨((ic f (first++args++cap) H).map fun(v,h)=>(v,cF.Ep h))=some (v,e):=by
   simp only at h;split at h<;>(try simp only at h)<;>split at h
   all_goals first|exact .inl h|exact .inr (ah7 h)
  clear h;rcases h' with h|h
  ·
   split at h
   case h_2=>cases h
   rename_i a_ bs Ea;rw[aLs]at h;obtain⟨r,h1,h2⟩:=h;cases h2;have M:=S.mark bs;have G:=qb S qd Ea;have C:=hp f a_ v h1 (Live Lo ι (mark H bs)) w (cf++Ci++cc) (Q2 M.1) M.1.glob G;refine C.mono fun cv w' hc=>?_
   by_cases tO:bQ v=true
   ·simp only[tO,if_true,cF.app];have T:=S.later hc.1;exact⟨ι,cT.le_refl _,T.1,T.2,E6 _ _ tO hc.2⟩
   ·simp only[tO,aLT,if_false,cF.app];have T:=M.1.later hc.1;exact⟨ι,cT.le_refl _,T.1,M.2.trans T.2,R.ext (Ext.refl _ _) _ _ _ _ (qM ι) hc.2⟩
  ·rw[aLs]at h;obtain⟨⟨v',H2⟩,h1,h2⟩:=h;cases h2;simp only[cF.app];exact hi f _ H v H2 h1 Lo w0 ι w _ S qd
 ·cases h
def Zh(V:Valid E P){pc:Pc}{ic yc:Ic}(hp:lY E P pc)(hi:qt E P ic)(hy:rf E P yc)(S:fT E Lo w0 ι H w){dr:Bool}{aR:Nat}(hf:mG ι H aR)
  {ts:List AV} {a:Act} (ht:Rs ι w (Live Lo ι H) ts a.tmps.toList) {o:Oper} {v:AV} {e:cF} (h:dH E pc ic yc dr ts H aR o=some (v,e)):
  ∀{F:Fence},ka F->∀{next:Act->World->Prop} {Q:Exit->Act->World->Prop},(∀cv w',sR E Lo w0 ι H w v (e.app H) cv w'->next (a.put o.dst cv) w')->o.wpIn F 0 P a w next Q:=by
 intro F hF next Q hn;have hd:∀c,o.op≠ .defer c:=by intro c q;unfold dH at h;rw[q]at h;cases h
 by_cases hc:rn o=true
 ·refine lQ.wpIn (Rr:=sR E Lo w0 ι H w v (e.app H)) hF hd ?_ hn;unfold rn at hc;unfold dH at h;unfold execOp;cases ho:o.op<;>simp only[ho]at h hc⊢<;>try (cases hc;done)
  rename_i c;cases mQ:c.callee<;>simp only[mQ]at h hc⊢<;>try (cases hc;done)
  rename_i f;split at h
  case h_2=>cases h
  rename_i fv a_ hfv has;have hr:Rs ι w (Live Lo ι H) a_ (c.args.map a.eval).toList:=by
   have:=I8 ht has
   simpa using this
  have:=R3 hp hi hy S (dS ht hfv) hr h
  simpa[resolve,mQ]using this
 ·obtain⟨nx,cv,w',h1,h2,h3⟩:=aef V S hf ht (by simpa using hc) h;unfold Oper.wpIn;refine⟨fun f _=>hF.fn f,?_⟩;rw[Oper.semAt_eq _ _ _ hd,h1];rcases h2 with rfl|⟨rfl,rfl⟩
  ·rw[Oper.uponIn_value];exact hn _ _ h3
  ·rw[Oper.uponIn_skip];exact hn _ _ h3
end
def BU(B:Nat)(a:Act)(w:World)(L:Nat->Prop):Prop:=
 ∃ks:List Nat,ks.Nodup/\a.defers=ks.map (fun k=>{target:=.collected k,args:=#[]})/\∀k,k∈ks->w.heap[k]?=some (.deferred (some []))/\¬L k/\B<=k
structure St(E:Env)(B:Nat)(Lo:Nat->Prop)(w0:World)(ι:cT)(H:Hp)(ts:List AV)(a:Act)(w:World):Prop where
 Bs:fT E Lo w0 ι H w
 tm:Rs ι w (Live Lo ι H) ts a.tmps.toList
 S8:BU B a w (Live Lo ι H)
def BU.ext{B:Nat}{a a':Act}{w w':World}{L L':Nat->Prop}(h:BU B a w L)(hx:Ext w L w' L')(hd:a'.defers=a.defers):BU B a' w' L':=by
 obtain⟨ks,h1,h2,h3⟩:=h;refine⟨ks,h1,by rw[hd,h2],fun k hk=>?_⟩;obtain⟨g1,g2,g3⟩:=h3 k hk
 have:=hx.keep g1 g2
 exact⟨this.1,this.2,g3⟩
def A8(E:Env)(B:Nat)(Lo:Nat->Prop)(w0:World)(ι:cT)(H:Hp)(w:World)(ts':List AV)(H':Hp)(K:Act->World->Prop):Prop:=
 ∀(a':Act) (w':World) (ι':cT),ι.le ι'->Ext w (Live Lo ι H) w' (Live Lo ι' H')->St E B Lo w0 ι' H' ts' a' w'->K a' w'
def A8.chain{E:Env}{B:Nat}{Lo:Nat->Prop}{w0:World}{ι ι':cT}{H H' H2:Hp}{w w':World}{oe:List AV}{K:Act->World->Prop}(h:A8 E B Lo w0 ι H w oe H2 K)
  (hle:ι.le ι') (hx:Ext w (Live Lo ι H) w' (Live Lo ι' H')):A8 E B Lo w0 ι' H' w' oe H2 K:=
 fun a2 w2 ι2 h1 h2 h3=>h a2 w2 ι2 (cT.le_trans hle h1) (hx.trans h2) h3
def Ex.up:Ex->Exit
 |.normal=>.normal
 |.exit id=>.exit id
 |.ret=>.ret
def nj(E:Env)(P:Program)(rec:Cd):Prop:=∀c ts H ex ts' H',rec c ts H=some (ex,ts',H')->codeOk E c=true->∀(F:Fence),ka F->(F=Fence.wide∨flat c=true)->∀(B:Nat) (Lo:Nat->Prop) (w0:World) (ι:cT) (w:World) (a:Act),
 w0.heap.size<=B->B<=w.heap.size->St E B Lo w0 ι H ts a w->∀Q:Exit->Act->World->Prop,A8 E B Lo w0 ι H w ts' H' (Q ex.up)->c.wpIn F 0 P Q a w
section
variable{E:Env}{P:Program}{ι:cT}{w:World}{L L':Nat->Prop}{Lo:Nat->Prop}{w0:World}{H:Hp}{ts:List AV}{a:Act}{B:Nat}
def ahu{x:AV}{b:Bool}(h:R ι w L x (.bool b)):x=.bool b:=by
 cases x<;>simp[R]at h⊢
 exact h.symm
def T8{ops:Array Oper}(ht:Rs ι w L ts a.tmps.toList)(o:Oper):Region.wanted o (yielded ops a.tmps)=bE ops.toList ts o:=by
 unfold Region.wanted bE yielded;cases o.guard with
 |none=>rfl
 |some p=>
  obtain⟨j,want⟩:=p;simp only[aLR];cases (ops[j]?).bind (·.dst)with
  |none=>rfl
  |some d=>
   simp only[Option.bind_some];have hl:=ht.length;simp only[aNf]at hl;cases hd:ts[d]? with
   |none=>
    have:a.tmps[d]?=none:=by rw[Array.getElem?_eq_none_iff,hl];exact List.getElem?_eq_none_iff.1 hd
    simp[this]
   |some x=>
    obtain⟨v,h1,h2⟩:=ht.get d x hd;rw[aLR]at h1;rw[h1];by_cases hb:∃b,v=.bool b
    ·obtain⟨b,rfl⟩:=hb;rw[ahu h2];cases b<;>cases want<;>rfl
    ·have h3:∀b,v≠ .bool b:=fun b q=>hb ⟨b,q⟩
     have h4:∀b,x≠ .bool b:=fun b q=>by subst q;simp only[R]at h2;exact h3 b h2
     cases v<;>first|exact absurd rfl (h3 _)|skip
     all_goals (cases x<;>first|exact absurd rfl (h4 _)|rfl)
def Gk(ht:Rs ι w L ts a.tmps.toList){v:AV}{cv:Value}(hv:R ι w L v cv)(dst:Option Nat):Rs ι w L (bA dst v ts) (a.put dst cv).tmps.toList:=by
 cases dst with
 |none=>exact ht
 |some d=>
  simp only[bA,Act.put,aNX];exact ht.set d hv
def put_defers(a:Act)(dst:Option Nat)(v:Value):(a.put dst v).defers=a.defers:=by
 cases dst<;>rfl
def DV(V:Valid E P){pc:Pc}{ic yc:Ic}(hp:lY E P pc)(hi:qt E P ic)(hy:rf E P yc){dr:Bool}{aR:Nat}{ops:Array Oper}{o:Oper}{ts':List AV}{e:cF}
  (S:St E B Lo w0 ι H ts a w) (hf:mG ι H aR) (h:bV E pc ic yc dr ops.toList aR o ts H=some (ts',e)) {F:Fence} (hF:ka F) {K:Act->World->Prop} {Q:Exit->Act->World->Prop}
  (hk:A8 E B Lo w0 ι H w ts' (e.app H) K):
  if Region.wanted o (yielded ops a.tmps)then o.wpIn F 0 P a w K Q else(∀f,o.about P w a.eval=some f->F.fn f)/\K (a.put o.dst undef) w:=by
 unfold bV at h;rw[T8 S.tm o];split at h
 ·rename_i hw;rw[if_pos hw];split at h
  ·rename_i v e' SB;cases h;refine Zh V hp hi hy S.Bs hf S.tm SB hF fun cv w' FE=>?_
   obtain⟨ι',h1,h2,h3,h4⟩:=FE;refine hk _ _ ι' h1 h3 ⟨h2,?_,S.S8.ext h3 (put_defers _ _ _)⟩;exact Gk (Rs.ext h3 _ _ _ _ h1 S.tm) h4 _
  ·cases h
 ·rename_i hw;rw[if_neg hw];cases h;refine⟨fun f _=>hF.fn f,?_⟩;refine hk _ _ ι (cT.le_refl _) (Ext.refl _ _) ⟨S.Bs,Gk S.tm PA _,S.S8.ext (Ext.refl _ _) (put_defers _ _ _)⟩
def yH(V:Valid E P){pc:Pc}{ic yc:Ic}(hp:lY E P pc)(hi:qt E P ic)(hy:rf E P yc){ops:Array Oper}{F:Fence}(hF:ka F){Q:Exit->Act->World->Prop}:
  ∀(l:List Oper) (ts:List AV) (H:Hp) (ts':List AV) (H':Hp) (ι:cT) (w:World) (a:Act),qi E pc ic yc ops.toList l ts H=some (ts',H')->St E B Lo w0 ι H ts a w->
   A8 E B Lo w0 ι H w ts' H' (Q .normal)->wpListIn F 0 P ops Q l a w
 |[],ts,H,ts',H',ι,w,a,h,S,hk=>by
  simp only[qi,aLS.injEq,Prod.mk.injEq]at h;obtain⟨rfl,rfl⟩:=h;exact hk _ _ ι (cT.le_refl _) (Ext.refl _ _) S
 |o::rest,ts,H,ts',H',ι,w,a,h,S,hk=>by
  unfold qi at h;split at h
  ·rename_i ts1 e h1;unfold wpListIn;exact DV V hp hi hy S (yf S.Bs) h1 hF fun a1 w1 ι1 k1 k2 k3=>yH V hp hi hy hF rest ts1 (e.app H) ts' H' ι1 w1 a1 h k3 (hk.chain k1 k2)
  ·cases h
def TE(V:Valid E P){pc:Pc}{ic yc:Ic}(hp:lY E P pc)(hi:qt E P ic)(hy:rf E P yc){id:Nat}{ops:Array Oper}{F:Fence}(hF:ka F){Q:Exit->Act->World->Prop}
  {ts':List AV} {H':Hp} (h:qi E pc ic yc ops.toList ops.toList ts H=some (ts',H')) (S:St E B Lo w0 ι H ts a w) (hk:A8 E B Lo w0 ι H w ts' H' (Q .normal)):
  (Code.region id ops false).wpIn F 0 P Q a w:=
 wpIn_region_list (yH V hp hi hy hF _ _ _ _ _ _ _ _ h S hk)
end
section
variable{E:Env}{P:Program}{ι:cT}{w:World}{L L':Nat->Prop}{Lo:Nat->Prop}{w0:World}{H:Hp}{ts:List AV}{a:Act}{B:Nat}
def SY(V:Valid E P)(S:fT E Lo w0 ι H w){t:Nat}{p av:AV}{v:Value}(hp:R ι w (Live Lo ι H) p v)(h:dU E H t p=some av):
  ∃cv,((do loadVar t (<-asAddr v):Sem Value)).run P w=.ok cv w/\R ι w (Live Lo ι H) av cv:=by
 unfold dU at h;split at h
 case h_2=>cases h
 rename_i cs off vP;obtain⟨cb,o,c,e,f,rfl,h2,h3⟩:=ZD S hp vP;obtain⟨cv,g1,g2⟩:=Ku V h2 h3 h;exact⟨cv,by simpa[asAddr]using g1,g2⟩
def OD(tmps:Array Value):ResultVar->Sem Value
 |.tmp t=>pure (tmps.getD t undef)
 |.cell a t=>do loadVar t (<-asAddr (tmps.getD a undef))
def DM(V:Valid E P)(S:fT E Lo w0 ι H w){tmps:Array Value}(ht:Rs ι w (Live Lo ι H) ts tmps.toList):∀(rs:List ResultVar) (vs:List AV),fL H E ts rs=some vs->
  ∃PQ,(rs.mapM (OD tmps)).run P w=.ok PQ w/\Rs ι w (Live Lo ι H) vs PQ
 |[],vs,h=>by
  simp only[fL,aLS.injEq]at h;subst h
  exact⟨[],by simp,by simp[Rs]⟩
 |.tmp t::rs,vs,h=>by
  simp only[fL,aLs]at h;obtain⟨vs',h1,rfl⟩:=h;obtain⟨PQ,g1,g2⟩:=DM V S ht rs vs' h1;have hg:=ht.getD t;refine⟨tmps.getD t undef::PQ,?_,?_⟩
  ·simp only[List.mapM_cons,OD,Sem.run_bind,Sem.run_pure,Result.andThen_ok,g1]
  ·simp only[Rs];exact⟨_,_,rfl,by simpa using hg,g2⟩
 |.cell x t::rs,vs,h=>by
  simp only[fL]at h;split at h
  ·rename_i v vs' h1 h2;cases h;obtain⟨PQ,g1,g2⟩:=DM V S ht rs vs' h2;have hg:=ht.getD x;have hx:R ι w (Live Lo ι H) (ts[x]?.getD bT) (tmps.getD x undef):=by simpa using hg
   obtain⟨cv,k1,k2⟩:=SY V S hx h1;refine⟨cv::PQ,?_,?_⟩
   ·rw[List.mapM_cons,Sem.run_bind];unfold OD;rw[k1];simp only[Result.andThen_ok,Sem.run_bind]
    have:(rs.mapM (OD tmps)).run P w=.ok PQ w:=g1
    unfold OD at this;rw[this];simp only[Result.andThen_ok,Sem.run_pure]
   ·simp only[Rs];exact⟨_,_,rfl,k2,g2⟩
  ·cases h
def K8(V:Valid E P)(S:fT E Lo w0 ι H w){tmps:Array Value}(ht:Rs ι w (Live Lo ι H) ts tmps.toList){fn:Func}{vs:List AV}(h:fL H E ts fn.results.toList=some vs):
  ∃cv,(results fn tmps).run P w=.ok cv w/\R ι w (Live Lo ι H) (gV vs) cv:=by
 obtain⟨PQ,g1,g2⟩:=DM V S ht _ _ h;have hm:(fn.results.mapM (OD tmps)).run P w=.ok PQ.toArray w:=by rw[Array.mapM_eq_mapM_toList,map_eq_pure_bind];simp only[Sem.run_bind,g1,Result.andThen_ok,Sem.run_pure]
 have il:results fn tmps=(do let vs<-fn.results.mapM (OD tmps);pure (if h:vs.size=1 then vs[0]else .tuple vs)):=by unfold results;congr 2
 rw[il,Sem.run_bind,hm];simp only[Result.andThen_ok,Sem.run_pure];refine⟨_,rfl,?_⟩;have hl:=g2.length
 match vs,PQ,g2,hl with
 |[],[],_,_=>simp[gV,R,Rs]
 |[v],[c],g,_=>
  simp only[Rs]at g;obtain⟨y,ys,h1,h2,_⟩:=g;cases h1;simpa[gV]using h2
 |v::v'::vs,c::c'::cs,g,_=>
  simp only[gV,R];refine⟨(c::c'::cs).toArray,?_,by simpa using g⟩
  simp
end
section
variable{E:Env}{P:Program}{ι:cT}{w:World}{L L':Nat->Prop}{Lo:Nat->Prop}{w0:World}{H:Hp}{ts:List AV}{a:Act}{B:Nat}
def nT(V:Valid E P){fn:Func}{tmps:Array Value}{vs:List AV}(il:fL H E ts fn.results.toList=some vs){K:Value->World->Prop}:
  ∀(ks:List Nat) (w:World),fT E Lo w0 ι H w->Rs ι w (Live Lo ι H) ts tmps.toList->ks.Nodup->(∀k,k∈ks->w.heap[k]?=some (.deferred (some []))/\¬Live Lo ι H k/\B<=k)->w0.heap.size<=B->
   (∀w' cv,Below B w w'->fT E Lo w0 ι H w'->(∀c,w.heap.size<=c->w'.heap[c]?=none)->(∀(c:Nat) (cs:Array Value) (e:TypeId) (f:Nat×Nat),w.heap[c]?=some (.cells cs e f)->w'.heap[c]?=some (.cells cs e f))->
    R ι w' (Live Lo ι H) (gV vs) cv->K cv w')->
   LeavesInM Fence.wide 0 P fn tmps (LK K) (ks.map fun k=>{target:=.collected k,args:=#[]}) .returning w
 |[],w,S,ht,_,_,_,hk=>by
  obtain⟨cv,g1,g2⟩:=K8 V S ht il;exact⟨cv,g1,hk w cv (Below.refl B w) S (fun c hc=>Array.getElem?_eq_none hc) (fun _ _ _ _ h=>h) g2⟩
 |k::ks,w,S,ht,hn,hks,hB,hk=>by
  obtain⟨g1,g2,g3⟩:=hks k (by simp);have X:=S.other (o':=.deferred none) g1 (aNW hB g3);have O:=kR (o:=(.deferred none:Obj)) (w1:=w) rfl rfl rfl rfl g1;rw[List.nodup_cons]at hn;refine⟨by simp,.inl ⟨k,jO w k (.deferred none),rfl,run_takeDeferred g1,?_⟩⟩;refine nT V il ks _ X.1 (Rs.k7 X.2 _ _ _ _ (cT.le_refl _) ht) hn.2 (fun k' sM=>?_) hB fun w' cv h1 h2 h3 h5 h4=>hk w' cv ((O.below g3).trans h1) h2 ?_ ?_ h4
  ·obtain⟨q1,q2,q3⟩:=hks k' (by simp[sM]);refine⟨?_,q2,q3⟩;rw[O.there k' (fun e=>hn.1 (e▸sM))];exact q1
  ·intro c hc;refine h3 c ?_;rw[O.size];exact hc
  ·intro c cs e f hc;refine h5 c cs e f ?_;rw[O.there c (fun q=>by subst q;rw[g1]at hc;cases hc)];exact hc
def qY(n:Nat):Rs ι w L (aLu n bT) (aLu n undef):=by
 induction n with
 |zero=>simp[Rs]
 |succ n ih=>
  simp only[List.replicate_succ,Rs];exact⟨_,_,rfl,PA,ih⟩
def AW(V:Valid E P){rec:Cd}(jE:nj E P rec){f:Nat}{args:List AV}{v:AV}{H':Hp}(h:oI E rec f args H=some (v,H'))(S:fT E Lo w0 ι H w){vs:Array Value}
  (ha:Rs ι w (Live Lo ι H) args vs.toList):CallsIn Fence.wide 0 P f vs w (LK (sR E Lo w0 ι H w v H')):=by
 unfold oI at h;split at h
 case h_2=>cases h
 rename_i fi lT;obtain⟨fn,f1,f2,f3,f4,f5,f6⟩:=V.fn f fi lT;have main:∀ex ts H2,rec fi.code (args++aLu (fi.ntmps-args.length) bT) H=some (ex,ts,H2)->(∀id,ex≠ .exit id)->∀rs,fL H2 E ts fi.results=some rs->v=gV rs->H'=H2->
   CallsIn Fence.wide 0 P f vs w (LK (sR E Lo w0 ι H w v H')):=by
  intro ex ts H2 hr hex rs il hv hH;subst hv hH;refine callsIn_of_wp_marks f1 f2 trivial ?_;have hl:=ha.length;simp only[aNf]at hl;refine jE _ _ _ _ _ _ hr f6 Fence.wide (.inl rfl) (.inl rfl) w.heap.size Lo w0 ι w _ S.below.size (aLt _) ⟨S,?_,⟨[],by simp,rfl,by simp⟩⟩ _ fun a' w' ι' k1 k2 k3=>?_
  ·simp only[aNV,aNY];rw[f3,<-hl];exact ha.append (qY _)
  ·obtain⟨ks,n1,n2,n3⟩:=k3.S8;have lE:LeavesInM Fence.wide 0 P fn a'.tmps (LK (sR E Lo w0 ι H w (gV rs) H')) a'.defers .returning w':=by
    rw[n2];refine nT V (by rw[f4];exact il) ks w' k3.Bs k3.tm n1 n3 S.below.size fun w2 cv b1 b2 b3 b4 b5=>?_
    refine⟨ι',k1,b2,?_,b5⟩;refine⟨aNW k2.size b1.size,fun c hc Qp=>?_,fun c cs e fr hc=>?_⟩
    ·have:=k2.old c hc Qp
     exact⟨(b1.block c hc).trans this.1,this.2⟩
    ·obtain⟨As,f',q1,q2⟩:=k2.shape c cs e fr hc;exact⟨As,f',b4 c As e f' q1,q2⟩
   cases ex with
   |normal=>exact lE
   |ret=>exact lE
   |exit id=>exact absurd rfl (hex id)
 split at h
 ·cases h
 ·rename_i ex ts H2 ej hr;rw[aLs]at h;obtain⟨rs,h1,h2⟩:=h;cases h2;exact main ex ts H' hr (fun id q=>ej id q) rs h1 rfl rfl
 ·cases h
def OI(V:Valid E P){rec:Cd}(jE:nj E P rec){f:Nat}{args:List AV}{r:AV}{fi:FnI}(lT:E.fn f=some fi){ex:Ex}{oe:List AV}{H2:Hp}
  (hr:rec fi.code (args++aLu (fi.ntmps-args.length) bT) []=some (ex,oe,H2)) (hex:∀id,ex≠ .exit id) {rs:List AV} (il:fL H2 E oe fi.results=some rs)
  {bs:List Nat} (gH:bX H2 [gV rs]=some ([r],bs)) {vs:Array Value} (ik:∀c,L c->c<w.heap.size) (hg:xG E L w) (ha:Rs cg w L args vs.toList):
  CallsIn Fence.wide 0 P f vs w (LK fun v w'=>Below w.heap.size w w'/\R cg w' L r v):=by
 obtain⟨fn,f1,f2,f3,f4,f5,f6⟩:=V.fn f fi lT;have hL:Live L cg ([]:Hp)=L:=by
  funext c;refine propext ⟨?_,.inl⟩;rintro(h|⟨b,dI,co,h,_⟩)
  ·exact h
  ·simp at h
 have S:fT E L w cg [] w:=by
  refine⟨Below.refl _ _,ik,?_,?_,?_,?_,?_,?_⟩
  ·intro b p h;cases h
  ·intro b dI h;simp at h
  ·intro b b' dI blk' c co co' h;simp at h
  ·rw[hL];exact hg
  ·intro b dI h;simp at h
  ·intro b p h;cases h
 refine callsIn_of_wp_marks f1 f2 trivial ?_;have hl:=ha.length;simp only[aNf]at hl;refine jE _ _ _ _ _ _ hr f6 Fence.wide (.inl rfl) (.inl rfl) w.heap.size L w cg w _ (aLt _) (aLt _) ⟨S,?_,⟨[],by simp,rfl,by simp⟩⟩ _ fun a' w' ι' k1 k2 k3=>?_
 ·simp only[aNV,aNY];rw[f3,<-hl,hL];exact ha.append (qY _)
 ·obtain⟨ks,n1,n2,n3⟩:=k3.S8;have lE:LeavesInM Fence.wide 0 P fn a'.tmps (LK fun v w'=>Below w.heap.size w w'/\R cg w' L r v) a'.defers .returning w':=by
   rw[n2];refine nT V (by rw[f4];exact il) ks w' k3.Bs k3.tm n1 n3 (aLt _) fun w2 cv b1 b2 b3 b4 b5=>?_
   refine⟨b2.below,?_⟩;have vO:Rs ι' w2 (Live L ι' H2) [gV rs] [cv]:=by simp only[Rs];exact⟨_,_,rfl,b5,rfl⟩
   have:=qb b2 vO gH
   simp only[Rs]at this;obtain⟨y,ys,q1,q2,_⟩:=this;cases q1;exact R.ext (tv fun c hc=>.inl hc) _ _ _ _ (cT.le_refl _) q2
  cases ex with
  |normal=>exact lE
  |ret=>exact lE
  |exit id=>exact absurd rfl (hex id)
end
section
variable{E:Env}{P:Program}{ι:cT}{w:World}{L L':Nat->Prop}{Lo:Nat->Prop}{w0:World}{H:Hp}{ts:List AV}{a:Act}{B:Nat}
def ZX:∀(ps:List Nat) (a_:List AV) (ts ts':List AV) (vs:List Value) (tmps:Array Value),HN ts ps a_=some ts'->Rs ι w L ts tmps.toList->Rs ι w L a_ vs->
  vs.length=ps.length/\Rs ι w L ts' ((ps.zip vs).foldl (fun t (p,v)=>t.setIfInBounds p v) tmps).toList
 |[],[],ts,ts',vs,tmps,h,ht,ha=>by
  simp only[Rs]at ha;subst ha
  simp only[HN,aLS.injEq]at h;subst h
  exact⟨rfl,ht⟩
 |[],_::_,_,_,_,_,h,_,_=>by simp[HN]at h
 |_::_,[],_,_,_,_,h,_,_=>by simp[HN]at h
 |p::ps,x::a_,ts,ts',vs,tmps,h,ht,ha=>by
  simp only[Rs]at ha;obtain⟨y,ys,rfl,h1,h2⟩:=ha;simp only[HN]at h
  have:=ZX ps a_ (ts.set p x) ts' ys (tmps.setIfInBounds p y) h (by rw[aNX];exact ht.set p h1) h2
  exact⟨by simp[this.1],by simpa using this.2⟩
def tV(S:fT E Lo w0 ι H w){l cb co:Nat}{st st':LoopState}{im pend':Option Code}{lts:List AV}{ps:List Nat}{a_ bd:Code}{r:Loop}
  (hb:H[l]?=some (.loop st im lts ps a_ bd)) (hi:ι l=some (cb,co)) (hr:w.heap[cb]?=some (.loop r)) (hp:∀c,pend'=some c->codeOk E c=true):
  fT E Lo w0 ι (H.set l (.loop st' pend' lts ps a_ bd)) (w.putObj cb (.loop {r with state:=st',pending:=pend'}))/\
   Ext w (Live Lo ι H) (w.putObj cb (.loop {r with state:=st',pending:=pend'})) (Live Lo ι (H.set l (.loop st' pend' lts ps a_ bd))):=by
 obtain⟨D9,co',o,g1,g2,g3,g4,g5⟩:=S.obj l _ hb (by simp[cE.st]);rw[hi]at g1;cases g1
 rw[hr]at g2;cases g2
 have F:=S.qa l _ hb rfl;simp only[fY]at g3;obtain⟨r',q0,q1,q2,q3,q4,q5,q6⟩:=g3;cases q0;have O:Ej w (w.putObj cb (.loop {r with state:=st',pending:=pend'})) cb (.loop {r with state:=st',pending:=pend'}):=
  kR (o:=.loop {r with state:=st',pending:=pend'}) (w1:=w) rfl rfl rfl rfl hr
 have se:jP (.loop r) (.loop {r with state:=st',pending:=pend'}):=fun cs e f q=>by cases q
 have X:Ext w (Live Lo ι H) (w.putObj cb (.loop {r with state:=st',pending:=pend'})) (Live Lo ι H):=O.ext hr se (.inr ⟨l,_,co,hb,rfl,hi⟩) (fun _ h=>h);exact S.update (blk':=.loop st' pend' lts ps a_ bd) hb rfl rfl hi hr se O
  (by
   simp only[fY];exact⟨_,rfl,rfl,rfl,Rs.ext X _ _ _ _ (cT.le_refl _) q3,q4,q5,q6⟩)
  ⟨F.1,F.2.1,F.2.2.1,F.2.2.2.1,hp⟩
def yC(S:fT E Lo w0 ι H w){l cb co:Nat}{st:LoopState}{im:Option Code}{lts:List AV}{ps:List Nat}{a_ bd:Code}
  (hb:H[l]?=some (.loop st im lts ps a_ bd)) (hi:ι l=some (cb,co)):
  ∃r:Loop,w.heap[cb]?=some (.loop r)/\r.state=st/\r.pending=im/\Rs ι w (Live Lo ι H) lts r.tmps.toList/\r.params.toList=ps/\r.assign=a_/\r.body=bd:=by
 obtain⟨D9,co',o,g1,g2,g3,g4,g5⟩:=S.obj l _ hb (by simp[cE.st]);rw[hi]at g1;cases g1
 simp only[fY]at g3;obtain⟨r,q0,q1,q2,q3,q4,q5,q6⟩:=g3;exact⟨r,by rw[g2,q0],q1,q2,q3,q4,q5,q6⟩
def oJ(V:Valid E P){rec:Cd}(jE:nj E P rec):rf E P (lL rec):=by
 intro l a_ H v H2 h Lo w0 ι w vs cb co S ha hi;unfold lL at h;split at h
 case h_2=>cases h
 rename_i ahb ts ps assign body hb;split at h
 case h_2=>cases h
 rename_i ts' SD;split at h
 case h_2=>cases h
 rename_i t1 H1 azo;split at h
 case h_2=>cases h
 rename_i im oe ps2 as2 b2 mP;split at h
 case h_2=>cases h
 rename_i e t2 H2' Jj;split at h
 case h_2=>cases h
 rename_i st3 aEH Aj Ab zu b3 vN;obtain⟨r,r1,r2,r3,r4,r5,r6,r7⟩:=yC S hb hi;have Fi:=S.qa l _ hb rfl;obtain⟨z1,z2⟩:=ZX ps a_ ts ts' vs.toList r.tmps SD r4 ha;have mh:vs.size=r.params.size:=by rw[<-aNf,<-aNf,z1,r5]
 refine .inr (.inr ⟨cb,r.fn,_,r.assign,r.body,w,run_yield r1 mh,?_⟩);have hW:ka (Fence.wide.inRound cb):=.inr ⟨cb,rfl⟩;refine roundIn_of_wpIn trivial ?_;rw[r6];refine jE assign ts' H _ t1 H1 azo Fi.1 _ hW (.inr Fi.2.2.1) w.heap.size Lo w0 ι w _ S.below.size (aLt _) ⟨S,?_,⟨[],by simp,rfl,by simp⟩⟩ _ fun a1 w1 ι1 k1 k2 k3=>?_
 ·have:((r.params.zip vs).foldl (fun tmps (x:Tmp×Value)=>tmps.setIfInBounds x.1 x.2) r.tmps)=((ps.zip vs.toList).foldl (fun t (p,v)=>t.setIfInBounds p v) r.tmps):=by rw[<-r5,<-Array.toList_zip,Array.foldl_toList]
  simp only;rw[this];exact z2
 ·
  have hi1:=k1 l _ hi;obtain⟨q,q1,q2,q3,q4,q5,q6,q7⟩:=yC k3.Bs mP hi1;have Fp:=k3.Bs.qa l _ mP rfl;have U:=tV (st':=.busy) (pend':=im) k3.Bs mP hi1 q1 Fp.2.2.2.2;have aAb:({q with state:=.busy,pending:=im}:Loop)={q with state:=.busy}:=by rw[<-q3]
  rw[aAb]at U;refine⟨_,run_beginRound q1 q2,?_⟩;rw[r7];refine jE body t1 _ _ t2 H2' Jj Fi.2.1 _ hW (.inr Fi.2.2.2.1) w.heap.size Lo w0 ι1 _ a1 S.below.size (by rw[World.putObj_size];exact k2.size) ⟨U.1,Rs.ext U.2 _ _ _ _ (cT.le_refl _) k3.tm,k3.S8.ext U.2 rfl⟩ _
   fun a2 w2 ι2 l1 l2 l3=>?_
  have hi2:=l1 l _ hi1;obtain⟨p,p1,p2,p3,p4,p5,p6,p7⟩:=yC l3.Bs vN hi2;have fin:∀(jump:Option Code) (st':LoopState),st'=(if jump.isNone then .ready else .done)->(∀c,jump=some c->codeOk E c=true)->v=.bool jump.isNone->H2=H2'.set l (.loop st' jump Aj Ab zu b3)->
    ∃v' w',(Instr.endRound cb jump).run P w2=.ok v' w'/\LK (sR E Lo w0 ι H w v H2) (.returned v') w':=by
   intro jump st' dx hj hv hH;subst hv hH;have U2:=tV (st':=st') (pend':=jump) l3.Bs vN hi2 p1 hj;rw[dx]at U2⊢;refine⟨_,_,run_endRound jump p1,?_⟩;exact⟨ι2,cT.le_trans k1 l1,U2.1,k2.trans (U.2.trans (l2.trans U2.2)),by simp only[R]⟩
  cases e with
  |normal=>
   simp only[aLS.injEq,Prod.mk.injEq]at h;exact fin none .ready rfl (fun c q=>by cases q) h.1.symm h.2.symm
  |ret=>
   simp only[aLS.injEq,Prod.mk.injEq]at h;exact fin (some .ret) .done rfl (fun c q=>by cases q;rfl) h.1.symm h.2.symm
  |exit id=>
   simp only[aLS.injEq,Prod.mk.injEq]at h;exact fin (some (.exit id)) .done rfl (fun c q=>by cases q;rfl) h.1.symm h.2.symm
end
structure o5(E:Env)(P:Program):Prop where
 ov:lY E P E.ov
 rH:qt E P E.rH
def L0(E:Env)(P:Program)(rec:Cd):Prop:=∀(id:Nat) (ops:Array Oper) ts H ts' H',x6 E (jF E rec) (kQ E rec) (lL rec) id ops.toList ts H=some (ts',H')->yI E (E.pairs id ops.size) ops=true->
 ∀(F:Fence),ka F->∀(B:Nat) (Lo:Nat->Prop) (w0:World) (ι:cT) (w:World) (a:Act),w0.heap.size<=B->B<=w.heap.size->St E B Lo w0 ι H ts a w->
 ∀Q:Exit->Act->World->Prop,A8 E B Lo w0 ι H w ts' H' (Q .normal)->(Code.region id ops true).wpIn F 0 P Q a w
def Gw(E:Env)(P:Program)(rec:Cd)(k:Nat):Prop:=∀c ts H ex ts' H',rec (.loop c) ts H=some (ex,ts',H')->codeOk E c=true->∀(F:Fence),ka F->(F=Fence.wide∨flat c=true)->∀(B:Nat) (Lo:Nat->Prop) (w0:World) (ι:cT) (w:World) (a:Act),
 w0.heap.size<=B->B<=w.heap.size->St E B Lo w0 ι H ts a w->∀Q:Exit->Act->World->Prop,A8 E B Lo w0 ι H w ts' H' (Q ex.up)->Code.roundsIn F 0 P c Q k a w
section
variable{E:Env}{P:Program}{ι:cT}{w:World}{L L':Nat->Prop}{Lo:Nat->Prop}{w0:World}{H:Hp}{ts:List AV}{a:Act}{B:Nat}
def jR(V:Valid E P){f:Nat}{fi:FnI}(h:E.fn f=some fi)(vs:Array Value)(w:World):(callFunc f vs).run P w=.ok (.enter f vs) w:=by
 obtain⟨fn,f1,f2,f3,f4,f5,f6⟩:=V.fn f fi h;unfold callFunc;simp only[Sem.run_bind,run_program,Result.andThen_ok,f1]
 have:(fn.name== "runtime.NumGoroutine")=false:=by simpa using f5
 simp[this,f2]
def vt(V:Valid E P)(O:o5 E P){rec:Cd}(jE:nj E P rec):lY E P (jF E rec):=by
 intro f a_ r h L w vs ik hg ha;unfold jF at h;split at h
 ·rename_i r' kh;cases h;exact O.ov f a_ r kh L w vs ik hg ha
 ·rename_i kh;split at h
  case h_2=>cases h
  rename_i fi lT;split at h
  ·cases h
  split at h
  ·cases h
  ·rename_i ex ts H ej hr;split at h
   case h_2=>cases h
   rename_i rs il;split at h
   case h_2=>cases h
   rename_i v bs gH;cases h;exact .inr (.inl ⟨f,vs,w,jR V lT vs w,OI V jE lT hr (fun id q=>ej id q) il gH ik hg ha⟩)
  ·cases h
def yQ(V:Valid E P)(O:o5 E P){rec:Cd}(jE:nj E P rec):qt E P (kQ E rec):=by
 intro f a_ H v H2 h Lo w0 ι w vs S ha;unfold kQ at h;split at h
 ·rename_i r kh;cases h;exact O.rH f a_ H v H2 kh Lo w0 ι w vs S ha
 ·have h0:=h;unfold oI at h0;split at h0
  case h_2=>cases h0
  rename_i fi lT;exact .inr (.inl ⟨f,vs,w,jR V lT vs w,AW V jE h S ha⟩)
def Pr(S:fT E Lo w0 ι H w){c:Nat}(h:Live Lo ι H c):c<w.heap.size:=Q2 S c h
def HH(V:Valid E P){rec:Cd}(jE:nj E P rec){g:Operand}{ps:Array Nat}{assign body:Code}{fv:AV}{f:Nat}{first cap:List AV}
  (hg:bU ts g=some (.func f first cap)) {v:AV} {H2:Hp} (FA:oI E rec f (first++[.yield H.length]++cap) (H++[.loop .ready none ts ps.toList assign body])=some (v,H2))
  {st:LoopState} {im:Option Code} {Aj:List AV} {Ab:List Nat} {zu b3:Code} (dx:st≠ .busy)
  {ex:Ex} {ts':List AV} {H':Hp} (MS:(match im with
   |none=>some (Ex.normal,ts,H2.set H.length (.loop .exhausted im Aj Ab zu b3))
   |some c=>rec c ts (H2.set H.length (.loop .exhausted im Aj Ab zu b3)))=some (ex,ts',H')) (hl:H2[H.length]?=some (.loop st im Aj Ab zu b3))
  (c1:codeOk E assign=true) (c2:codeOk E body=true) (c3:flat assign=true) (c4:flat body=true)
  (hB:w0.heap.size<=B) (BF:B<=w.heap.size) (S:St E B Lo w0 ι H ts a w) {Q:Exit->Act->World->Prop} (hk:A8 E B Lo w0 ι H w ts' H' (Q ex.up)):
  (Code.rangeFunc g ps assign body).wpIn Fence.wide 0 P Q a w:=by
 refine wpIn_rangeFunc fun fn fC=>?_
 have lT:∃fi,E.fn f=some fi:=by
  have h0:=FA;unfold oI at h0;split at h0
  ·rename_i fi lT;exact⟨fi,lT⟩
  ·cases h0
 obtain⟨fi,lT⟩:=lT;have hgR:=dS S.tm hg;simp only[R]at hgR;obtain⟨cf,cc,hgv,r1,r2⟩:=hgR;have mP:Below w.heap.size w (w.alloc (.deferred (some []))):=
  ⟨rfl,rfl,rfl,by show w.heap.size<=(w.heap.push _).size;simp,fun k hk=>by show(w.heap.push _)[k]?=_;rw[aLr,if_neg (by omega)]⟩
 obtain⟨S1,X1⟩:=S.Bs.later mP;have atO:(w.alloc (.deferred (some []))).heap.size=w.heap.size+1:=by show(w.heap.push _).size=_;simp
 have hf1:=yf S1
 let rc:Loop:={state:=.ready,pending:=none,fn,tmps:=a.tmps,params:=ps,assign,body,defers:=w.heap.size}
 let nb:cE:=.loop .ready none ts ps.toList assign body
 have M5:cO H H.length nb=H++[nb]:=by simp[cO]
 have X2:=uH S1 (dI:=nb) hf1 rfl (.loop rc) (w1:=w.alloc (.deferred (some []))) rfl;have hle:=cT.wT (p:=((w.alloc (.deferred (some []))).heap.size,0)) hf1.1;have Ui:=X1.trans X2;have S2:=S1.alloc (dI:=nb) hf1 rfl (o:=.loop rc) (w1:=w.alloc (.deferred (some []))) rfl rfl rfl rfl
  (by
   simp only[fY,nb];exact⟨rc,rfl,rfl,rfl,Rs.ext Ui _ _ _ _ hle S.tm,rfl,rfl,rfl⟩)
  ⟨c1,c2,c3,c4,fun c q=>by cases q⟩
 rw[M5]at S2 Ui;have aka:=AW V jE FA S2 (vs:=cf++#[.func (.yield (w.heap.size+1)) #[] #[]]++cc) (by
  rw[aNV,aNV];refine((Rs.ext Ui _ _ _ _ hle r1).append ?_).append (Rs.ext Ui _ _ _ _ hle r2);simp only[Rs];refine⟨_,_,rfl,?_,rfl⟩;simp only[R];exact⟨w.heap.size+1,0,by simp[cT.put,atO],rfl⟩)
 have il:(resolve a.eval (rangeCall g (w.heap.size+1)) 0).run P ((w.alloc (.deferred (some []))).alloc (.loop rc))=
   .ok {target:=.fn (.func f) cc,args:=cf++#[.func (.yield (w.heap.size+1)) #[] #[]]} ((w.alloc (.deferred (some []))).alloc (.loop rc)):=by
  have hc:∀v:Value,a.eval (.const v)=v:=fun _=>rfl
  simp[resolve,hgv,Deferred.ofValue,hc]
 have hinv:(invoke (.fn (.func f) cc) (cf++#[.func (.yield (w.heap.size+1)) #[] #[]])).run P ((w.alloc (.deferred (some []))).alloc (.loop rc))=
   .ok (.enter f (cf++#[.func (.yield (w.heap.size+1)) #[] #[]]++cc)) ((w.alloc (.deferred (some []))).alloc (.loop rc)):=by
  simpa[invoke]using jR V lT _ _
 have akh:(Instr.enterLoop fn a.tmps ps assign body none).run P w=.ok (w.heap.size+1,[{target:=.collected w.heap.size,args:=#[]}]) ((w.alloc (.deferred (some []))).alloc (.loop rc)):=
  run_enterLoop_outer _ _ _ _ _
 refine⟨_,_,_,_,_,_,_,_,akh,il,fun f' _=>ka.fn (.inl rfl) f',hinv,by rw[ka.deep (.inl rfl)];simp,?_⟩;refine CallsIn.mono aka fun e w3 he=>?_
 ·cases e with
  |panicked _=>exact he.elim
  |outgrown=>exact he.elim
  |returned v'=>
   obtain⟨ι3,q1,q2,q3,q4⟩:=he;have hi3:ι3 H.length=some (w.heap.size+1,0):=q1 _ _ (by simp[cT.put,atO]);obtain⟨r,l1,l2,l3,l4,l5,l6,l7⟩:=yC q2 hl hi3;have F3:=q2.qa _ _ hl rfl;have U:=tV (st':=.exhausted) (pend':=im) q2 hl hi3 l1 F3.2.2.2.2;have aAf:({r with state:=.exhausted,pending:=im}:Loop)={r with state:=.exhausted}:=by rw[<-l3]
   rw[aAf]at U;refine⟨r.pending,_,run_endLoop l1 (by rw[l2];exact dx),?_⟩;have X3:=Ui.trans (q3.trans U.2);have akw:=cT.le_trans hle q1;have M3:BU B {a with defers:=[{target:=.collected w.heap.size,args:=#[]}]++a.defers} (w3.putObj (w.heap.size+1) (.loop {r with state:=.exhausted}))
     (Live Lo ι3 (H2.set H.length (.loop .exhausted im Aj Ab zu b3))):=by
    obtain⟨ks,n1,n2,n3⟩:=S.S8;refine⟨w.heap.size::ks,?_,by simp[n2],fun k hk=>?_⟩
    ·rw[List.nodup_cons];refine⟨fun hm=>?_,n1⟩
     have:=eF (n3 _ hm).1
     omega
    ·rcases aNe.1 hk with rfl|hk
     ·have g1:((w.alloc (.deferred (some []))).alloc (.loop rc)).heap[w.heap.size]?=some (.deferred (some [])):=by simp only[World.alloc];rw[aLr,if_neg (by simp),aLr,if_pos rfl]
      have g2:¬Live Lo (ι.put H.length ((w.alloc (.deferred (some []))).heap.size,0)) (H++[nb]) w.heap.size:=by
       rw[<-M5,Df hf1 rfl];rintro(hq|hq)
       ·exact absurd (Pr S.Bs hq) (by omega)
       ·omega
      have:=(q3.trans U.2).keep g1 g2
      exact⟨this.1,this.2,BF⟩
     ·obtain⟨g1,g2,g3⟩:=n3 k hk
      have:=X3.keep g1 g2
      exact⟨this.1,this.2,g3⟩
   have S3:St E B Lo w0 ι3 (H2.set H.length (.loop .exhausted im Aj Ab zu b3)) ts {a with defers:=[{target:=.collected w.heap.size,args:=#[]}]++a.defers}
     (w3.putObj (w.heap.size+1) (.loop {r with state:=.exhausted})):=⟨U.1,Rs.ext X3 _ _ _ _ akw S.tm,M3⟩
   clear U;generalize(w3.putObj (w.heap.size+1) (.loop {r with state:=.exhausted}))=w4 at*;rw[l3];cases im with
   |none=>
    simp only[aLS.injEq,Prod.mk.injEq]at MS;obtain⟨rfl,rfl,rfl⟩:=MS;exact hk _ _ ι3 akw X3 S3
   |some c=>
    exact jE c _ _ _ _ _ MS (F3.2.2.2.2 c rfl) Fence.wide (.inl rfl) (.inl rfl) B Lo w0 ι3 _ _ hB (aNW BF X3.size) S3 Q (hk.chain akw X3)
def WE(V:Valid E P)(O:o5 E P){rec:Cd}{k:Nat}(jE:nj E P rec)(atu:Gw E P rec k)(FC:L0 E P rec):nj E P (cL E rec)/\Gw E P (cL E rec) (k+1):=by
 have hl:Gw E P (cL E rec) (k+1):=by
  intro c ts H ex ts' H' h hc F hF MV B Lo w0 ι w a hB BF S Q hk;simp only[cL]at h;rw[roundsIn_succ];cases hb:rec c ts H with
  |none=>rw[hb]at h;cases h
  |some r=>
   obtain⟨e1,ts1,H1⟩:=r;rw[hb]at h;refine jE c ts H e1 ts1 H1 hb hc F hF MV B Lo w0 ι w a hB BF S _ fun a1 w1 ι1 k1 k2 k3=>?_
   cases e1 with
   |normal=>exact atu c ts1 H1 ex ts' H' h hc F hF MV B Lo w0 ι1 w1 a1 hB (aNW BF k2.size) k3 Q (hk.chain k1 k2)
   |exit id=>cases h;exact hk _ _ _ k1 k2 k3
   |ret=>cases h;exact hk _ _ _ k1 k2 k3
 refine⟨?_,hl⟩;intro c ts H ex ts' H' h hc F hF MV B Lo w0 ι w a hB BF S Q hk;cases c with
 |skip=>simp only[cL,aLS.injEq,Prod.mk.injEq]at h;obtain⟨rfl,rfl,rfl⟩:=h;exact wpIn_skip (hk _ _ _ (cT.le_refl _) (Ext.refl _ _) S)
 |label l=>simp only[cL,aLS.injEq,Prod.mk.injEq]at h;obtain⟨rfl,rfl,rfl⟩:=h;exact wpIn_label (hk _ _ _ (cT.le_refl _) (Ext.refl _ _) S)
 |exit id=>simp only[cL,aLS.injEq,Prod.mk.injEq]at h;obtain⟨rfl,rfl,rfl⟩:=h;exact wpIn_exit (hk _ _ _ (cT.le_refl _) (Ext.refl _ _) S)
 |ret=>simp only[cL,aLS.injEq,Prod.mk.injEq]at h;obtain⟨rfl,rfl,rfl⟩:=h;exact wpIn_ret (hk _ _ _ (cT.le_refl _) (Ext.refl _ _) S)
 |scope body=>simp[cL]at h
 |goto l=>simp[cL]at h
 |refuse why=>simp[cL]at h
 |region id ops draw=>
  simp only[cL,aLs]at h;obtain⟨⟨t1,h1⟩,hr,he⟩:=h;simp only[Prod.mk.injEq]at he;obtain⟨rfl,rfl,rfl⟩:=he;cases draw with
  |false=>
   simp only[aLT,if_false]at hr;exact TE V (vt V O jE) (yQ V O jE) (oJ V jE) hF hr S hk
  |true=>
   simp only[if_true]at hr;simp only[codeOk,Bool.not_true,Bool.false_or]at hc;exact FC id ops ts H _ _ hr hc F hF B Lo w0 ι w a hB BF S Q hk
 |seq x y=>
  simp only[codeOk,aM6]at hc;have GZ:(F=Fence.wide∨flat x=true)/\(F=Fence.wide∨flat y=true):=by
   rcases MV with q|q
   ·exact⟨.inl q,.inl q⟩
   ·simp only[flat,aM6]at q;exact⟨.inr q.1,.inr q.2⟩
  simp only[cL]at h;cases hb:rec x ts H with
  |none=>rw[hb]at h;cases h
  |some r=>
   obtain⟨e1,ts1,H1⟩:=r;rw[hb]at h;refine wpIn_seq (jE x ts H e1 ts1 H1 hb hc.1 F hF GZ.1 B Lo w0 ι w a hB BF S _ fun a1 w1 ι1 k1 k2 k3=>?_);cases e1 with
   |normal=>exact jE y ts1 H1 ex ts' H' h hc.2 F hF GZ.2 B Lo w0 ι1 w1 a1 hB (aNW BF k2.size) k3 Q (hk.chain k1 k2)
   |exit id=>cases h;exact hk _ _ _ k1 k2 k3
   |ret=>cases h;exact hk _ _ _ k1 k2 k3
 |cond c x y=>
  simp only[codeOk,aM6]at hc;have GZ:(F=Fence.wide∨flat x=true)/\(F=Fence.wide∨flat y=true):=by
   rcases MV with q|q
   ·exact⟨.inl q,.inl q⟩
   ·simp only[flat,aM6]at q;exact⟨.inr q.1,.inr q.2⟩
  simp only[cL]at h;split at h
  case h_2=>cases h
  rename_i t ht;have hev:=dS S.tm ht;simp only[R]at hev;refine wpIn_cond hev ?_;cases t with
  |true=>exact jE x ts H ex ts' H' h hc.1 F hF GZ.1 B Lo w0 ι w a hB BF S Q hk
  |false=>exact jE y ts H ex ts' H' h hc.2 F hF GZ.2 B Lo w0 ι w a hB BF S Q hk
 |block id body=>
  simp only[codeOk]at hc;have GZ:F=Fence.wide∨flat body=true:=by
   rcases MV with q|q
   ·exact .inl q
   ·simp only[flat]at q;exact .inr q
  simp only[cL]at h;cases hb:rec body ts H with
  |none=>rw[hb]at h;cases h
  |some r=>
   obtain⟨e1,ts1,H1⟩:=r;rw[hb]at h;refine wpIn_block (jE body ts H e1 ts1 H1 hb hc F hF GZ B Lo w0 ι w a hB BF S _ fun a1 w1 ι1 k1 k2 k3=>?_);cases e1 with
   |normal=>cases h;exact hk _ _ _ k1 k2 k3
   |ret=>cases h;exact hk _ _ _ k1 k2 k3
   |exit Nc=>
    simp only[Ex.up,Exit.inBlock];simp only at h;split at h
    ·rename_i q;rw[if_pos q];cases h;exact hk _ _ _ k1 k2 k3
    ·rename_i q;rw[if_neg q];cases h;exact hk _ _ _ k1 k2 k3
 |loop body=>
  simp only[codeOk]at hc;have GZ:F=Fence.wide∨flat body=true:=by
   rcases MV with q|q
   ·exact .inl q
   ·simp only[flat]at q;exact .inr q
  exact wpIn_loop_rounds (k+1) (hl body ts H ex ts' H' h hc F hF GZ B Lo w0 ι w a hB BF S Q hk)
 |rangeFunc g ps assign body=>
  simp only[codeOk,aM6]at hc;have hFw:F=Fence.wide:=by
   rcases MV with q|q
   ·exact q
   ·simp[flat]at q
  subst hFw;simp only[cL]at h;split at h
  case h_2=>cases h
  rename_i f first cap hg
  split at h
  case h_2=>cases h
  rename_i v H2 FA;split at h
  case h_2=>cases h
  rename_i st im Aj Ab zu b3 Iu;split at h
  ·cases h
  rename_i dx;exact HH V jE (fv:=.gQ) hg FA dx h Iu hc.1.1.1 hc.1.1.2 hc.1.2 hc.2 hB BF S hk
def tu(V:Valid E P)(O:o5 E P)(FC:∀rec,nj E P rec->L0 E P rec):∀n,nj E P (bS E n)/\Gw E P (bS E n) n
 |0=>⟨fun _ _ _ _ _ _ h=>by simp[bS]at h,fun _ _ _ _ _ _ h=>by simp[bS]at h⟩
 |n+1=>WE V O (tu V O FC n).1 (tu V O FC n).2 (FC _ (tu V O FC n).1)
end
section
variable{E:Env}{pc:Pc}{ic yc:Ic}{dr:Bool}{ts ts':List AV}{H H':Hp}{aR nid':Nat}{o:Oper}
def uF:∀(xs:List Operand),(∀x,x∈xs->bU ts x=bU ts' x)->kr ts xs=kr ts' xs
 |[],_=>rfl
 |x::xs,h=>by
  simp only[kr,h x (by simp),uF xs fun y hy=>h y (by simp[hy])]
def zE:∀(ps:List (Nat×Operand)),(∀x,x∈ps.map (·.2)->bU ts x=bU ts' x)->sJ ts ps=sJ ts' ps
 |[],_=>rfl
 |(i,x)::ps,h=>by
  simp only[sJ,h x (by simp),zE ps fun y hy=>h y (by simp only[List.map_cons,aNe];exact .inr hy)]
def tp(x:Option Operand)(h:∀y,y∈x.toList->bU ts y=bU ts' y):gq ts x=gq ts' x:=by
 cases x with
 |none=>rfl
 |some x=>simp only[gq,h x (by simp)]
def Tk(h:∀x,x∈o.op.operands.toList->bU ts x=bU ts' x):dH E pc ic yc dr ts H aR o=dH E pc ic yc dr ts' H aR o:=by
 unfold dH;cases ho:o.op<;>simp only[ho,Op.operands]at h⊢
 case move x=>rw[h x (by simp)]
 case assign x=>rw[h x (by simp)]
 case pick c a b=>
  rw[h c (by simp)]
  split
  ·split<;>rw[h _ (by simp)]
  ·rfl
 case box t x=>rw[h x (by simp)]
 case build t ps=>rw[zE ps.toList (fun x hx=>h x (by simpa using hx))]
 case buildSlice t len ps=>rw[zE ps.toList (fun x hx=>h x (by simpa using hx))]
 case load t x=>rw[h x (by simp)]
 case store t x y=>rw[h x (by simp),h y (by simp)]
 case nilCheck x=>rw[h x (by simp)]
 case binOp op t x y _=>rw[h x (by simp),h y (by simp)]
 case unOp op t x=>rw[h x (by simp)]
 case convert s d x=>rw[h x (by simp)]
 case makeInterface t x=>rw[h x (by simp)]
 case makeFunc fn first cap=>
  cases fn<;>try rfl
  simp only;rw[uF first.toList (fun x hx=>h x (by simp at hx⊢;exact .inl hx)),uF cap.toList (fun x hx=>h x (by simp at hx⊢;exact .inr hx))]
 case makeMap t r=>rw[tp r (fun x hx=>h x (by simpa using hx))]
 case makeSlice t x y=>rw[h x (by simp),h y (by simp)]
 case slice t x lo hi mx=>
  rw[h x (by simp),tp lo (fun x hx=>h x (by simp at hx⊢;simp[hx])),tp hi (fun x hx=>h x (by simp at hx⊢;simp[hx]))]
 case fieldAddr t x f=>rw[h x (by simp)]
 case field t x f=>rw[h x (by simp)]
 case indexAddr t x i=>rw[h x (by simp),h i (by simp)]
 case index t x i=>rw[h x (by simp),h i (by simp)]
 case lookup t x i ok=>rw[h x (by simp),h i (by simp)]
 case mapUpdate t m k x=>rw[h m (by simp),h k (by simp),h x (by simp)]
 case insert t m k x=>rw[h m (by simp),h k (by simp),h x (by simp)]
 case sliceToArrayPointer t x=>rw[h x (by simp)]
 case range t x=>rw[h x (by simp)]
 case next it s=>
  cases s<;>try rfl
  simp only;rw[h it (by simp)]
 case extract t i=>rw[h t (by simp)]
 case call c=>
  rw[uF c.args.toList (fun x hx=>h x (by simp only[Call.operands,aNV,List.mem_append];exact .inr hx))];cases hc:c.callee with
  |builtin b=>rfl
  |invoke r m=>rfl
  |value f=>simp only;rw[h f (by simp[Call.operands,hc])]
def GF{b:Builtin}(h:b≠ .append)(ats:List Nat)(a_:List AV):bM E H aR b ats a_=bM E H nid' b ats a_:=by
 unfold bM;cases b<;>first|exact absurd rfl h|skip
 all_goals rcases ats with _|⟨t,_|⟨u,r⟩⟩<;>rcases a_ with _|⟨x,_|⟨y,s⟩⟩<;>first|rfl|(cases x<;>rfl)
def BN(h:bW E o=false):dH E pc ic yc dr ts H aR o=dH E pc ic yc dr ts H nid' o:=by
 unfold dH;unfold bW at h;cases ho:o.op<;>simp only[ho]at h⊢<;>try (cases h;done)
 case call c=>
  cases hc:c.callee with
  |invoke r m=>rfl
  |value f=>rfl
  |builtin b=>
   simp only[hc]at h;have hb:b≠ .append:=fun q=>by subst q;simp at h
   simp only
   split
   ·rw[GF (aR:=aR) (nid':=nid') hb]
   ·rfl
 case makeFunc fn first cap=>cases fn<;>rfl
 case next it s=>cases s<;>rfl
def Mh{b:Builtin}(hb:b=.cap∨b=.max∨b=.min){ats:List Nat}{a_:List AV}{y:AV}{l:List (Nat×cE)}(h:bM E H aR b ats a_=some (y,l)):
  l=[]/\∀H' nid',bM E H' nid' b ats a_=some (y,l):=by
 have key:∀{r:Option AV},(r.map fun v=>(v,([]:List (Nat×cE))))=some (y,l)->l=[]:=fun{r} h=>by
  rw[aLs]at h;obtain⟨_,_,q⟩:=h;cases q;rfl
 rcases hb with rfl|rfl|rfl
 ·rcases ats with _|⟨t,ats⟩
  ·cases h
  rcases a_ with _|⟨x,a_⟩
  ·cases h
  cases x<;>try (cases h;done)
  have h':(match E.ty t with
   |some {cD:=.slice _,..}=>some (AV.int .i64 0,([]:List (Nat×cE)))
   |_=>none)=some (y,l):=h
  refine⟨?_,fun _ _=>h⟩;split at h'
  ·cases h';rfl
  ·cases h'
 ·rcases a_ with _|⟨x,a_⟩
  ·rcases ats with _|⟨t,_|⟨u,r⟩⟩<;>cases h
  ·have e1:∀H aR,bM E H aR .max ats (x::a_)=((qC AK x a_).map fun v=>(v,[])):=fun H aR=>by
    rcases ats with _|⟨t,_|⟨u,r⟩⟩<;>rcases a_ with _|⟨y,s⟩<;>cases x<;>rfl
   rw[e1]at h;exact⟨key h,fun _ _=>by rw[e1];exact h⟩
 ·rcases a_ with _|⟨x,a_⟩
  ·rcases ats with _|⟨t,_|⟨u,r⟩⟩<;>cases h
  ·have e1:∀H aR,bM E H aR .min ats (x::a_)=((qC KD x a_).map fun v=>(v,[])):=fun H aR=>by
    rcases ats with _|⟨t,_|⟨u,r⟩⟩<;>rcases a_ with _|⟨y,s⟩<;>cases x<;>rfl
   rw[e1]at h;exact⟨key h,fun _ _=>by rw[e1];exact h⟩
def auZ(hc:iJ E o=.n){v:AV}{e:cF}(h:dH E pc ic yc dr ts H aR o=some (v,e)):e=.bJ []/\∀H' nid',dH E pc ic yc dr ts H' nid' o=some (v,e):=by
 have key:∀{r:Option AV},(r.map fun x=>(x,cF.bJ []))=some (v,e)->e=.bJ []:=fun{r} h=>by
  rw[aLs]at h;obtain⟨_,_,q⟩:=h;cases q;rfl
 unfold dH at h;unfold iJ at hc;unfold dH;cases ho:o.op<;>simp only[ho]at hc h⊢<;>try (cases hc;done)
 case move x=>exact⟨key h,fun _ _=>h⟩
 case assign x=>exact⟨key h,fun _ _=>h⟩
 case pick c a b=>
  split at h
  ·exact⟨key h,fun _ _=>h⟩
  ·cases h
 case build t ps=>
  split at h
  ·exact⟨key h,fun _ _=>h⟩
  ·cases h
 case nilCheck x=>
  split at h<;>first|exact⟨key h,fun _ _=>h⟩|(cases h;done)
 case binOp op t x y _=>
  split at h
  ·exact⟨key h,fun _ _=>h⟩
  ·cases h
 case unOp op t x=>
  split at h
  ·exact⟨key h,fun _ _=>h⟩
  ·cases h
 case makeInterface t x=>
  split at h
  ·split at h
   ·cases h
   ·exact⟨key h,fun _ _=>h⟩
  ·cases h
 case makeFunc fn first cap=>
  cases fn<;>simp only at h⊢<;>try (cases h;done)
  split at h
  ·exact⟨key h,fun _ _=>h⟩
  ·cases h
 case fieldAddr t x f=>
  split at h
  ·exact⟨key h,fun _ _=>h⟩
  ·cases h
 case field t x f=>
  split at h
  ·exact⟨key h,fun _ _=>h⟩
  ·cases h
 case indexAddr t x i=>
  split at h
  ·exact⟨key h,fun _ _=>h⟩
  ·cases h
 case index t x i=>
  split at h
  ·exact⟨key h,fun _ _=>h⟩
  ·cases h
 case sliceToArrayPointer t x=>
  split at h
  ·split at h
   ·cases h
   ·rename_i eh;rw[if_neg eh];exact⟨key h,fun _ _=>h⟩
  ·split at h
   ·cases h
   ·rename_i eh;rw[if_neg eh];exact⟨key h,fun _ _=>h⟩
  ·cases h
 case extract t i=>
  split at h
  ·exact⟨key h,fun _ _=>h⟩
  ·cases h
 case slice t x lo hi mx=>
  split at h
  ·split at h
   ·simp[*]at hc
   ·rename_i ej;refine⟨key h,fun _ _=>?_⟩;exact h
  ·cases h
 case convert s d x=>
  split at hc<;>cases hc
 case call c=>
  cases mQ:c.callee with
  |invoke r m=>simp only[mQ]at h;cases h
  |value f=>
   simp only[mQ]at hc;cases f<;>simp only at hc<;>try (cases hc;done)
   split at hc<;>cases hc
  |builtin b=>
   simp only[mQ]at h⊢;split at h
   case h_2=>cases h
   rename_i a_ has;rw[aLs]at h;obtain⟨⟨y,l⟩,h1,h2⟩:=h;cases h2;have hb:b=.cap∨b=.max∨b=.min:=by
    simp only[mQ]at hc;cases b<;>simp at hc⊢
   obtain⟨g1,g2⟩:=Mh hb h1;subst g1;exact⟨rfl,fun H' nid'=>by rw[g2 H' nid'];rfl⟩
end
def pB(H H':Hp)(b:Nat):Prop:=(H'[b]?).map cE.j8=(H[b]?).map cE.j8
section
variable{E:Env}{pc:Pc}{ic yc:Ic}{dr:Bool}{ts ts':List AV}{H H':Hp}{aR nid':Nat}{o:Oper}{b:Nat}
def pB.cells(h:pB H H' b){st:qW}{cs:List AV}(hb:H[b]?=some (.cells st cs))(hd:st≠ .dead):∃st',H'[b]?=some (.cells st' cs)/\st'≠ .dead:=by
 unfold pB at h;rw[hb]at h;simp only[aMi,aLs]at h;obtain⟨k,h1,h2⟩:=h;cases k<;>cases st<;>simp only[cE.j8]at h2<;>try (exact absurd rfl hd)
 case cells.live st' As=>cases st'<;>simp only[cE.cells.injEq,true_and]at h2<;>first|(subst h2;exact⟨_,h1,by simp⟩)|(cases h2.1)
 case cells.ro st' As=>cases st'<;>simp only[cE.cells.injEq,true_and]at h2<;>first|(subst h2;exact⟨_,h1,by simp⟩)|(cases h2.1)
 case map.live st' a b=>cases st'<;>simp[]at h2
 case map.ro st' a b=>cases st'<;>simp[]at h2
 all_goals cases h2
def pB.map(h:pB H H' b){st:qW}{ks vs:List AV}(hb:H[b]?=some (.map st ks vs))(hd:st≠ .dead):∃st',H'[b]?=some (.map st' ks vs)/\st'≠ .dead:=by
 unfold pB at h;rw[hb]at h;simp only[aMi,aLs]at h;obtain⟨k,h1,h2⟩:=h;cases k<;>cases st<;>simp only[cE.j8]at h2<;>try (exact absurd rfl hd)
 case map.live st' a b=>cases st'<;>simp only[cE.map.injEq,true_and]at h2<;>first|(obtain⟨rfl,rfl⟩:=h2;exact⟨_,h1,by simp⟩)|(cases h2.1)
 case map.ro st' a b=>cases st'<;>simp only[cE.map.injEq,true_and]at h2<;>first|(obtain⟨rfl,rfl⟩:=h2;exact⟨_,h1,by simp⟩)|(cases h2.1)
 case cells.live st' a=>cases st'<;>simp[]at h2
 case cells.ro st' a=>cases st'<;>simp[]at h2
 all_goals cases h2
def pB.iF(h:pB H H' b){s:List UInt8}{p:Nat}(hb:H[b]?=some (.iF s p)):H'[b]?=some (.iF s p):=by
 unfold pB at h;rw[hb]at h;simp only[aMi,aLs]at h;obtain⟨k,h1,h2⟩:=h;cases k<;>simp only[cE.j8]at h2
 case cells st' a=>cases st'<;>simp[]at h2
 case map st' a b=>cases st'<;>simp[]at h2
 case iF=>rw[h1,h2]
 all_goals cases h2
def Oz{p:AV}{r:List AV×Nat}(hr:∀b,b∈eg p->pB H H' b)(h:yL E H p=some r):yL E H' p=some r:=by
 unfold yL at h⊢;cases p<;>simp only at h⊢<;>try exact h
 case bK b off=>
  split at h
  case h_2=>cases h
  rename_i st cs hb;split at h
  ·cases h
  rename_i hd;obtain⟨st',g1,g2⟩:=(hr b (by simp[eg])).cells hb hd;rw[g1];simp only[g2,if_false];exact h
def xZ{n:Nat}{x:AV}{r:List AV}(hr:∀b,b∈eg x->pB H H' b)(h:iI H n x=some r):iI H' n x=some r:=by
 unfold iI at h⊢;cases x<;>simp only at h⊢<;>try exact h
 case aI b off len e kc=>
  split at h
  ·cases h
  rename_i he;rw[if_neg he];split at h
  case h_2=>cases h
  rename_i st cs hb;split at h
  ·cases h
  rename_i hd;obtain⟨st',g1,g2⟩:=(hr b (by simp[eg])).cells hb (fun q=>hd (.inl q));rw[g1];simp only;rw[if_neg (by
   rintro(q|q)
   ·exact g2 q
   ·exact hd (.inr q))]
  exact h
def Dk{x:AV}{r:List AV×List AV}(hr:∀b,b∈eg x->pB H H' b)(h:Hq H x=some r):Hq H' x=some r:=by
 unfold Hq at h⊢;cases x<;>simp only at h⊢<;>try exact h
 case eR b=>
  split at h
  case h_2=>cases h
  rename_i st ks vs hb;split at h
  ·cases h
  rename_i hd;obtain⟨st',g1,g2⟩:=(hr b (by simp[eg])).map hb hd;rw[g1];simp only[g2,if_false];exact h
def AH{t:Nat}{p v:AV}(hr:∀b,b∈eg p->pB H H' b)(h:dU E H t p=some v):dU E H' t p=some v:=by
 unfold dU at h⊢;split at h
 case h_2=>cases h
 rename_i cs off hp;rw[Oz hr hp];exact h
def EP{t:Nat}{m k v:AV}{ok:Bool}(hr:∀b,b∈eg m->pB H H' b)(h:jU E H t m k ok=some v):jU E H' t m k ok=some v:=by
 unfold jU at h⊢;split at h
 case h_2=>cases h
 split at h
 case h_2=>cases h
 rename_i ks vs hm;rw[Dk hr hm];exact h
def Hm{t:Nat}{x v:AV}(hr:∀b,b∈eg x->pB H H' b)(h:nC E H t x=some v):nC E H' t x=some v:=by
 unfold nC at h⊢;split at h<;>try exact h
 rw[aLs]at h;obtain⟨r,h1,h2⟩:=h;rw[Dk hr h1];simp only[aMi,aLS.injEq];exact h2
def Bu{t:Nat}{x v:AV}{lo hi:Option AV}(hr:∀b,b∈eg x->pB H H' b)(h:gY E H t x lo hi=some v):gY E H' t x lo hi=some v:=by
 unfold gY at h⊢;split at h
 case h_2=>cases h
 split at h
 case h_2=>cases h
 cases x<;>simp only at h⊢<;>try exact h
 case bK b off=>
  split at h
  case h_2=>cases h
  rename_i st cs hb;split at h
  ·cases h
  rename_i hd;obtain⟨st',g1,g2⟩:=(hr b (by simp[eg])).cells hb (fun q=>hd (.inl q));rw[g1];simp only;rw[if_neg (by
   rintro(q|q)
   ·exact g2 q
   ·exact hd (.inr q))]
  exact h
def wU{f g:AV->Option (AV×List Nat)}{J:Nat->Prop}(hf:∀x r bs,f x=some (r,bs)->(∀b,b∈bs->J b)->g x=some (r,bs)):
  ∀(xs:List AV) (rs:List (AV×List Nat)),e9 f xs=some rs->(∀b,b∈rs.flatMap (·.2)->J b)->e9 g xs=some rs
 |[],rs,h,_=>h
 |x::xs,rs,h,hj=>by
  unfold e9 at h⊢;split at h
  ·cases h
  rename_i y hy;split at h
  ·cases h
  rename_i ys hys;cases h;obtain⟨r,bs⟩:=y;rw[hf x r bs hy (fun b hb=>hj b (by simp[hb])),wU hf xs ys hys (fun b hb=>hj b (by
   rw[List.flatMap_cons];exact aNZ _ hb))]
def CP:∀(n:Nat) (x r:AV) (bs:List Nat),fz H n x=some (r,bs)->(∀b,b∈bs->pB H H' b)->fz H' n x=some (r,bs)
 |0,_,_,_,h,_=>by cases h
 |n+1,x,r,bs,h,hj=>by
  have hl:∀(cs:List AV) (q:List AV×List Nat),((e9 (fz H n) cs).map fun r=>(r.map (·.1),r.flatMap (·.2)))=some q->(∀b,b∈q.2->pB H H' b)->
    ((e9 (fz H' n) cs).map fun r=>(r.map (·.1),r.flatMap (·.2)))=some q:=fun cs q h1 h2=>by
   rw[aLs]at h1;obtain⟨rs,g1,rfl⟩:=h1;rw[wU (fun x r bs=>CP n x r bs) cs rs g1 h2];rfl
  unfold fz at h⊢;simp only at h⊢;cases x<;>simp only at h⊢<;>try exact h
  case bK b off=>
   split at h
   case h_2=>cases h
   rename_i st cs hb;split at h
   ·cases h
   rename_i hd;rw[aLs]at h;obtain⟨q,g1,g2⟩:=h;cases g2;obtain⟨st',k1,k2⟩:=(hj b (by simp)).cells hb hd;rw[k1];simp only[k2,if_false];rw[hl cs q g1 (fun c hc=>hj c (by simp[hc]))];rfl
  case aI b off len esz kc=>
   split at h
   case h_2=>cases h
   rename_i st cs hb;split at h
   ·cases h
   rename_i hd;rw[aLs]at h;obtain⟨q,g1,g2⟩:=h;cases g2;simp only[Bool.or_eq_true,decide_eq_true_eq,not_or]at hd;obtain⟨st',k1,k2⟩:=(hj b (by simp)).cells hb hd.1;rw[k1];simp only;rw[if_neg (by simp only[Bool.or_eq_true,decide_eq_true_eq,not_or];exact⟨k2,hd.2⟩)];rw[hl _ q g1 (fun c hc=>hj c (by simp[hc]))];rfl
  case eR b=>
   split at h
   case h_2=>cases h
   rename_i st ks vs hb;split at h
   ·cases h
   rename_i hd;split at h
   case h_2=>cases h
   rename_i k b1 v b2 g1 g2;cases h;obtain⟨st',k1,k2⟩:=(hj b (by simp)).map hb hd;rw[k1];simp only[k2,if_false];rw[hl _ _ g1 (fun c hc=>hj c (by simp at hc⊢;exact .inr (.inl hc))),hl _ _ g2 (fun c hc=>hj c (by simp at hc⊢;exact .inr (.inr hc)))]
  case agg cs=>
   rw[aLs]at h;obtain⟨q,g1,g2⟩:=h;cases g2;rw[hl cs q g1 hj];rfl
  case tuple cs=>
   rw[aLs]at h;obtain⟨q,g1,g2⟩:=h;cases g2;rw[hl cs q g1 hj];rfl
  case iface t v=>
   rw[aLs]at h;obtain⟨q,g1,g2⟩:=h;cases g2;rw[CP n v q.1 q.2 g1 hj];rfl
  case func f a c=>
   split at h
   case h_2=>cases h
   rename_i a' b1 c' b2 g1 g2;cases h;rw[hl _ _ g1 (fun c hc=>hj c (List.mem_append_left _ hc)),hl _ _ g2 (fun c hc=>hj c (aNZ _ hc))]
def Ey{vs r:List AV}{bs:List Nat}(h:bX H vs=some (r,bs))(hj:∀b,b∈bs->pB H H' b):bX H' vs=some (r,bs):=by
 unfold bX at h⊢;split at h
 ·rename_i hp;rw[if_pos hp];exact h
 ·rename_i hp;rw[if_neg hp];split at h
  ·cases h
  rename_i rs hrs;cases h;rw[wU (fun x r bs=>CP 40 x r bs) vs rs hrs hj]
def F7{x:Operand}(hx:x∈o.op.operands.toList){v:AV}(hv:bU ts x=some v){b:Nat}(hb:b∈eg v):b∈lJ ts o:=by
 unfold lJ;rw[List.mem_flatMap];exact⟨x,hx,by rw[hv];exact hb⟩
def GR:∀{xs:List Operand} {vs:List AV},kr ts xs=some vs->∀v,v∈vs->∃x,x∈xs/\bU ts x=some v
 |[],vs,h,v,hv=>by
  simp only[kr,aLS.injEq]at h;subst h;simp at hv
 |x::xs,vs,h,v,hv=>by
  unfold kr at h;split at h
  ·cases h
  rename_i y hy;split at h
  ·cases h
  rename_i ys hys;cases h;rcases aNe.1 hv with rfl|hv
  ·exact⟨x,by simp,hy⟩
  ·obtain⟨z,h1,h2⟩:=GR hys v hv;exact⟨z,by simp[h1],h2⟩
def au0(hc:iJ E o=.r){v:AV}{e:cF}(h:dH E pc ic yc true ts H aR o=some (v,e)):
  (e=.bJ []/\∀H',(∀b,b∈lJ ts o->pB H H' b)->dH E pc ic yc true ts H' aR o=some (v,e))∨
  ∃bs,(e=.looks bs∨e=.marks bs)/\∀H',(∀b,b∈bs->pB H H' b)->dH E pc ic yc true ts H' aR o=some (v,e):=by
 have key:∀{r:Option AV},(r.map fun x=>(x,cF.bJ []))=some (v,e)->e=.bJ []/\r=some v:=fun{r} h=>by
  rw[aLs]at h;obtain⟨_,q1,q⟩:=h;cases q;exact⟨rfl,q1⟩
 unfold dH at h;unfold iJ at hc;unfold dH;have AB:∀(H':Hp),(∀b,b∈lJ ts o->pB H H' b)->∀x,x∈o.op.operands.toList->∀v,bU ts x=some v->∀b,b∈eg v->pB H H' b:=
  fun H' hr x hx v hv b hb=>hr b (F7 hx hv hb)
 cases ho:o.op<;>simp only[ho]at hc h⊢<;>try (cases hc;done)
 case load t x=>
  split at h
  case h_2=>cases h
  rename_i p hp;obtain⟨rfl,h1⟩:=key h;refine .inl ⟨rfl,fun H' hr=>?_⟩;rw[AH (AB H' hr x (by simp[ho,Op.operands]) p hp) h1];rfl
 case lookup t x i ok=>
  split at h
  case h_2=>cases h
  rename_i m k hm hk;obtain⟨rfl,h1⟩:=key h;refine .inl ⟨rfl,fun H' hr=>?_⟩;rw[EP (AB H' hr x (by simp[ho,Op.operands]) m hm) h1];rfl
 case slice t x lo hi mx=>
  split at h
  case h_2=>cases h
  rename_i a l hh hx _ _;split at h
  ·obtain⟨rfl,h1⟩:=key h;refine .inl ⟨rfl,fun H' hr=>?_⟩;rw[Bu (AB H' hr x (by simp[ho,Op.operands]) a hx) h1];rfl
  ·obtain⟨rfl,h1⟩:=key h;exact .inl ⟨rfl,fun H' hr=>h⟩
 case convert s d x=>
  split at h
  ·simp[*]at hc
  ·rename_i z1 hx q1 q2;split at h
   case h_2=>cases h
   rename_i cs hty pN;obtain⟨rfl,h1⟩:=key h;refine .inl ⟨rfl,fun H' hr=>?_⟩;rw[xZ (AB H' hr x (by simp[ho,Op.operands]) _ ‹_›) pN,hty];exact h
  ·obtain⟨rfl,h1⟩:=key h;exact .inl ⟨rfl,fun H' hr=>h⟩
  ·cases h
 case call c=>
  cases mQ:c.callee with
  |invoke r m=>simp only[mQ]at h;cases h
  |builtin bi=>
   simp only[mQ]at hc h⊢;cases bi<;>simp only at hc<;>try (cases hc;done)
   split at h
   case h_2=>cases h
   rename_i a_ has;rw[aLs]at h;obtain⟨⟨y,l⟩,h1,h2⟩:=h;cases h2;rcases sw:c.argTypes.toList with _|⟨t,ats⟩
   ·rw[sw]at h1;rcases a_ with _|⟨x,a_⟩<;>cases h1
   rw[sw]at h1;rcases a_ with _|⟨x,a_⟩
   ·rcases ats with _|⟨u,r⟩<;>cases h1
   have e1:∀H aR,bM E H aR .len (t::ats) (x::a_)=((nC E H t x).map fun v=>(v,[])):=fun H aR=>by
    rcases ats with _|⟨u,r⟩<;>rcases a_ with _|⟨y,s⟩<;>cases x<;>rfl
   rw[e1,aLs]at h1;obtain⟨z,g1,g2⟩:=h1;cases g2;refine .inl ⟨rfl,fun H' hr=>?_⟩;obtain⟨xo,k1,k2⟩:=GR has x (by simp)
   have:=Hm (AB H' hr xo (by rw[ho];simp only[Op.operands,Call.operands,aNV,List.mem_append];exact .inr k1) x k2) g1
   rw[e1,this];rfl
  |value f=>
   simp only[mQ]at hc h⊢;cases f<;>simp only at hc<;>try (cases hc;done)
   rename_i f;split at h
   case h_2=>cases h
   rename_i fv a_ hfv has;simp only[bU,aLS.injEq]at hfv;subst hfv;have main:∀(h:(match bX H a_ with
     |some (a_,bs)=>(pc f a_).map fun v=>(v,if bQ v then cF.looks bs else cF.marks bs)
     |none=>none)=some (v,e)),∃bs,(e=.looks bs∨e=.marks bs)/\∀H',(∀b,b∈bs->pB H H' b)->(match bX H' a_ with
     |some (a_,bs)=>(pc f a_).map fun v=>(v,if bQ v then cF.looks bs else cF.marks bs)
     |none=>none)=some (v,e):=fun h=>by
    split at h
    case h_2=>cases h
    rename_i as' bs gH;rw[aLs]at h;obtain⟨r,g1,g2⟩:=h;cases g2;refine⟨bs,?_,fun H' hr=>?_⟩
    ·by_cases tO:bQ v=true
     ·exact .inl (by simp[tO])
     ·exact .inr (by simp[tO])
    ·rw[Ey gH hr];simp only;rw[g1];rfl
   unfold ke at h⊢;simp only[List.nil_append,List.append_nil]at h⊢;right
   rcases fC:E.fn f with _|⟨code,nt,rs,p,d⟩
   ·rw[fC]at h;exact main h
   ·rw[fC]at h hc;cases p
    ·cases d
     ·cases hc
     ·exact main h
    ·exact main h
end
end Dv
