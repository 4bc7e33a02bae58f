/- A part of the proof that PairChecks returns true for every input; no condition of its own. -/
import Derived.Test.YtblnjkjjedanaaaGreatDoorTab
import Derived.TacticsIn
import Derived.RangeFuncRecord
import Derived.RangeFuncIn
import Derived.LoopNIn
set_option linter.all false
set_option maxHeartbeats 100000000
set_option maxRecDepth 100000
open Option renaming map_eq_some_iff->aKP,some->aKV,map_some->aLT
open Array renaming toList_append->aNg,getElem?_toList->aKX,getElem?_eq_some_iff->aNi,length_toList->aMd,getElem?_push->aKW,toList_setIfInBounds->aNp,toList_replicate->aNr
open Bool renaming and_eq_true->aLR,false_eq_true->aKT,or_eq_true->aLP
open List renaming replicate->aK3,mem_cons->aMc,getElem?_eq_some_iff->aKS,getElem?_set_ne->aNh,mem_map->aMg,mem_append->aLV,mem_singleton->aMh,mem_append_right->aNj,mem_cons_of_mem->aNk,getElem?_set_self->aNl,mem_append_left->aNn,foldl_cons->aMa,pairwise_cons->aNo,flatMap_cons->aMk,ext_getElem?->aMj,getElem?_append_left->aNq,all_eq_true->aLN,getElem?_eq_none->aK4,pairwise_append->aNs,mem_cons_self->aNu
open Nat renaming le_refl->aKR,le_trans->aNm,lt_of_lt_of_le->aNt
namespace Dv
open Go Go.RowKit
def SZ(Rr:Value->World->Prop):Ending->World->Prop
 |.returned v,w=>Rr v w
 |_,_=>False
def r9(P:Program)(r:Result Next)(Rr:Value->World->Prop):Prop:=
 (∃v w',r=.ok (.value v) w'/\Rr v w')∨
 (∃f args w1,r=.ok (.enter f args) w1/\CallsIn Fence.wide 0 P f args w1 (SZ Rr))∨
 (∃l f tmps assign body w1,r=.ok (.round l f tmps assign body) w1/\RoundIn Fence.wide 0 P l f tmps assign body w1 (SZ Rr))
def mS(F:Fence):Prop:=F=Fence.wide∨∃l,F=Fence.wide.inRound l
theorem mS.aer{F:Fence}(hF:mS F){P:Program}{f:FuncId}{args:Array Value}{w:World}{R:Ending->World->Prop}(h:CallsIn Fence.wide 0 P f args w R):CallsIn F 0 P f args w R:=by
 rcases hF with rfl|⟨l,rfl⟩
 ·exact h
 ·exact h
theorem mS.aeA{F:Fence}(hF:mS F){P:Program}{l:Nat}{f:FuncId}{tmps:Array Value}{assign body:Code}{w:World}{R:Ending->World->Prop}(h:RoundIn Fence.wide 0 P l f tmps assign body w R):
  RoundIn F 0 P l f tmps assign body w R:=by
 rcases hF with rfl|⟨l',rfl⟩
 ·exact h
 ·exact h
theorem mS.fn{F:Fence}(hF:mS F)(f:FuncId):F.fn f:=by
 rcases hF with rfl|⟨l,rfl⟩<;>exact trivial
theorem mS.deep{F:Fence}(hF:mS F):F.depth=none:=by
 rcases hF with rfl|⟨l,rfl⟩<;>rfl
theorem r9.wpIn{P:Program}{F:Fence}(hF:mS F){o:Oper}{a:Act}{w:World}{Rr:Value->World->Prop}(hd:∀c,o.op≠ .defer c)
  (h:r9 P ((execOp a.eval o).run P w) Rr) {next:Act->World->Prop} {Q:Exit->Act->World->Prop} (hn:∀cv w',Rr cv w'->next (a.put o.dst cv) w'):
  o.wpIn F 0 P a w next Q:=by
 unfold Oper.wpIn;refine⟨fun f _=>hF.fn f,?_⟩;rw[Oper.semAt_eq _ _ _ hd];have Sa:F.depth.isSome=true->1<=0:=by rw[hF.deep];simp
 rcases h with⟨v,w',h1,h2⟩|⟨f,args,w1,h1,h2⟩|⟨l,f,tmps,assign,body,w1,h1,h2⟩
 ·rw[h1,Oper.uponIn_value];exact hn _ _ h2
 ·rw[h1,Oper.uponIn_enter];refine⟨Sa,hF.aer (CallsIn.mono h2 fun e w' he=>?_)⟩;cases e with
  |returned v=>exact hn _ _ he
  |panicked _=>exact he.elim
  |outgrown=>exact he.elim
 ·rw[h1,Oper.uponIn_round];refine⟨Sa,hF.aeA (RoundIn.mono h2 fun e w' he=>?_)⟩;cases e with
  |returned v=>exact hn _ _ he
  |panicked _=>exact he.elim
  |outgrown=>exact he.elim
section
variable{E:Env}{P:Program}{ι:eg}{w:World}{L L':Nat->Prop}{Lo:Nat->Prop}{w0:World}{H:Hp}
def AN(E:Env)(Lo:Nat->Prop)(w0:World)(ι:eg)(H:Hp)(w:World)(v:AV)(H2:Hp)(cv:Value)(w':World):Prop:=
 ∃ι':eg,ι.le ι'/\iZ E Lo w0 ι' H2 w'/\Ext w (Live Lo ι H) w' (Live Lo ι' H2)/\R ι' w' (Live Lo ι' H2) v cv
def DV(E:Env)(L:Nat->Prop)(w:World):Prop:=∀g cs,E.glob g=some cs->∃c e f,w.heap[g]?=some (.cells c e f)/\¬L g/\kN cS w L c 0 cs/\c.size=cs.length
def p9(E:Env)(P:Program)(pc:Pc):Prop:=∀f as r,pc f as=some r->∀(L:Nat->Prop) (w:World) (vs:Array Value),(∀c,L c->c<w.heap.size)->DV E L w->
 Rs cS w L as vs.toList->r9 P ((callFunc f vs).run P w) (fun v w'=>Below w.heap.size w w'/\R cS w' L r v)
def vU(E:Env)(P:Program)(ic:Ic):Prop:=∀f as H v H2,ic f as H=some (v,H2)->∀(Lo:Nat->Prop) (w0:World) (ι:eg) (w:World) (vs:Array Value),iZ E Lo w0 ι H w->
 Rs ι w (Live Lo ι H) as vs.toList->r9 P ((callFunc f vs).run P w) (AN E Lo w0 ι H w v H2)
def uE(E:Env)(P:Program)(yc:Ic):Prop:=∀l as H v H2,yc l as H=some (v,H2)->∀(Lo:Nat->Prop) (w0:World) (ι:eg) (w:World) (vs:Array Value) (cb co:Nat),iZ E Lo w0 ι H w->
 Rs ι w (Live Lo ι H) as vs.toList->ι l=some (cb,co)->r9 P ((Instr.yield cb vs).run P w) (AN E Lo w0 ι H w v H2)
theorem r9.mono{r:Result Next}{R1 R2:Value->World->Prop}(h:r9 P r R1)(hm:∀v w,R1 v w->R2 v w):r9 P r R2:=by
 have hr:∀e w,SZ R1 e w->SZ R2 e w:=fun e w he=>by
  cases e with
  |returned v=>exact hm _ _ he
  |panicked _=>exact he.elim
  |outgrown=>exact he.elim
 rcases h with⟨v,w',h1,h2⟩|⟨f,args,w1,h1,h2⟩|⟨l,f,tmps,assign,body,w1,h1,h2⟩
 ·exact .inl ⟨v,w',h1,hm _ _ h2⟩
 ·exact .inr (.inl ⟨f,args,w1,h1,CallsIn.mono h2 hr⟩)
 ·exact .inr (.inr ⟨l,f,tmps,assign,body,w1,h1,RoundIn.mono h2 hr⟩)
theorem RT(S:iZ E Lo w0 ι H w):∀c,Live Lo ι H c->c<w.heap.size:=by
 rintro c (hc|⟨b,bk,co,h1,h2,h3⟩)
 ·exact aNt (S.lo c hc) S.below.size
 ·exact(S.Pr b _ h3).2
theorem iZ.later(S:iZ E Lo w0 ι H w){w':World}(hb:Below w.heap.size w w'):iZ E Lo w0 ι H w'/\Ext w (Live Lo ι H) w' (Live Lo ι H):=by
 have hx:Ext w (Live Lo ι H) w' (Live Lo ι H):=by refine⟨hb.size,fun c hc hn=>⟨hb.block c hc,hn⟩,fun c cs e f hc=>⟨cs,f,?_,rfl⟩⟩;rw[hb.block c (ie hc)];exact hc
 refine⟨⟨S.below.trans (hb.mono S.below.size),S.lo,?_,?_,S.inj,?_,S.uc,S.res⟩,hx⟩
 ·intro b p hp
  have:=S.Pr b p hp
  exact⟨this.1,aNt this.2 hb.size⟩
 ·intro b bk Ho hd;obtain⟨c1,k1,ob,h1,h2,h3,h4,h5⟩:=S.obj b bk Ho hd;exact⟨c1,k1,ob,h1,by rw[hb.block c1 (ie h2)];exact h2,h3.ext hx (eg.le_refl _),h4,h5⟩
 ·intro g cs hg;obtain⟨c,e,f,h1,h2,h3,hz⟩:=S.glob g cs hg
  have:=hx.keep h1 h2
  exact⟨c,e,f,this.1,this.2,kN.ext hx _ _ _ _ _ (eg.le_refl _) h3,hz⟩
mutual
theorem I2{ι':eg}{w':World}:∀(av:AV) (v:Value),bR av=true->R ι w L av v->R ι' w' L' av v
 |.bool _,_,_,h=>by simpa[R]using h
 |.int _ _,_,_,h=>by simpa[R]using h
 |.str _,_,_,h=>by simpa[R]using h
 |.jF,_,_,h=>by simpa[R]using h
 |.b9 _ _,_,p,_=>by simp[bR]at p
 |.eX _ _,_,p,_=>by simp[bR]at p
 |.sf _ _,_,p,_=>by simp[bR]at p
 |.aH,_,_,h=>by simpa[R]using h
 |.eW,_,_,h=>by simpa[R]using h
 |.aI _ _ _ _ _,_,p,_=>by simp[bR]at p
 |.aK _ _,_,p,_=>by simp[bR]at p
 |.jV,_,_,h=>by simpa[R]using h
 |.jt _,_,p,_=>by simp[bR]at p
 |.tO _ _,_,p,_=>by simp[bR]at p
 |.jk,_,_,h=>by simpa[R]using h
 |.func _ _ _,_,p,_=>by simp[bR]at p
 |.nilIface,_,_,h=>by simpa[R]using h
 |.iface _ _,_,p,_=>by simp[bR]at p
 |.agg cs,_,p,h=>by
  simp only[bR]at p;simp only[R]at h⊢;obtain⟨y,h1,h2⟩:=h;exact⟨y,h1,zS _ _ p h2⟩
 |.tuple cs,_,p,h=>by
  simp only[bR]at p;simp only[R]at h⊢;obtain⟨y,h1,h2⟩:=h;exact⟨y,h1,zS _ _ p h2⟩
 |.yield _,_,p,_=>by simp[bR]at p
theorem zS{ι':eg}{w':World}:∀(xs:List AV) (vs:List Value),bR.wT xs=true->Rs ι w L xs vs->Rs ι' w' L' xs vs
 |[],_,_,h=>by simpa[Rs]using h
 |x::xs,_,p,h=>by
  simp only[bR.wT,aLR]at p;simp only[Rs]at h⊢;obtain⟨y,ys,h1,h2,h3⟩:=h;exact⟨y,ys,h1,I2 _ _ p.1 h2,zS _ _ p.2 h3⟩
end
theorem UE{pc:Pc}{ic yc:Ic}(hp:p9 E P pc)(hi:vU E P ic)(hy:uE E P yc)(S:iZ E Lo w0 ι H w){dr:Bool}{fv v:AV}{e:cE}{cfv:Value}{args:List AV}{FZ:Array Value}
  (hf:R ι w (Live Lo ι H) fv cfv) (ha:Rs ι w (Live Lo ι H) args FZ.toList) (h:pA E pc ic yc dr H fv args=some (v,e)):
  r9 P ((do let d<-Deferred.ofValue cfv FZ;invoke d.target d.args:Sem Next).run P w) (AN E Lo w0 ι H w v (e.app H)):=by
 unfold pA at h;split at h
 ·
  rename_i l;rw[aKP]at h;obtain⟨⟨v',H2⟩,h1,h2⟩:=h;cases h2;simp only[R]at hf;obtain⟨cb,co,g1,rfl⟩:=hf
  have:=hy l args H v H2 h1 Lo w0 ι w FZ cb co S ha g1
  simpa[Deferred.ofValue,invoke,cE.app]using this
 ·rename_i f first cap
  simp only[R]at hf;obtain⟨cf,cc,rfl,r1,r2⟩:=hf;have wj:Rs ι w (Live Lo ι H) (first++args++cap) (cf++FZ++cc).toList:=by rw[aNg,aNg];exact(r1.append ha).append r2
  have hinv:(do let d<-Deferred.ofValue (.func (.func f) cf cc) FZ;invoke d.target d.args:Sem Next).run P w=(callFunc f (cf++FZ++cc)).run P w:=by simp[Deferred.ofValue,invoke]
  rw[hinv];have h':(match bW H (first++args++cap)with
    |some (as,bs)=>(pc f as).map fun v=>(v,if bR v then cE.looks bs else cE.marks bs)
    |none=>none)=some (v,e)∨((ic f (first++args++cap) H).map fun(v,h)=>(v,cE.Ee h))=some (v,e):=by
   simp only at h;split at h<;>(try simp only at h)<;>split at h
   all_goals first|exact .inl h|exact .inr h
  clear h;rcases h' with h|h
  ·
   split at h
   case h_2=>cases h
   rename_i as bs hfr;rw[aKP]at h;obtain⟨r,h1,h2⟩:=h;cases h2;have M:=S.mark bs;have G:=th S wj hfr;have C:=hp f as v h1 (Live Lo ι (mark H bs)) w (cf++FZ++cc) (RT M.1) M.1.glob G;refine C.mono fun cv w' hc=>?_
   by_cases Av:bR v=true
   ·simp only[Av,if_true,cE.app];have T:=S.later hc.1;exact⟨ι,eg.le_refl _,T.1,T.2,I2 _ _ Av hc.2⟩
   ·simp only[Av,aKT,if_false,cE.app];have T:=M.1.later hc.1;exact⟨ι,eg.le_refl _,T.1,M.2.trans T.2,R.ext (Ext.refl _ _) _ _ _ _ (tP ι) hc.2⟩
  ·rw[aKP]at h;obtain⟨⟨v',H2⟩,h1,h2⟩:=h;cases h2;simp only[cE.app];exact hi f _ H v H2 h1 Lo w0 ι w _ S wj
 ·cases h
theorem aaa(V:Valid E P){pc:Pc}{ic yc:Ic}(hp:p9 E P pc)(hi:vU E P ic)(hy:uE E P yc)(S:iZ E Lo w0 ι H w){dr:Bool}{aL:Nat}(hf:pI ι H aL)
  {ts:List AV} {a:Act} (ht:Rs ι w (Live Lo ι H) ts a.tmps.toList) {o:Oper} {v:AV} {e:cE} (h:eL E pc ic yc dr ts H aL o=some (v,e)):
  ∀{F:Fence},mS F->∀{next:Act->World->Prop} {Q:Exit->Act->World->Prop},(∀cv w',AN E Lo w0 ι H w v (e.app H) cv w'->next (a.put o.dst cv) w')->o.wpIn F 0 P a w next Q:=by
 intro F hF next Q hn;have hd:∀c,o.op≠ .defer c:=by intro c q;unfold eL at h;rw[q]at h;cases h
 by_cases hc:uU o=true
 ·refine r9.wpIn (Rr:=AN E Lo w0 ι H w v (e.app H)) hF hd ?_ hn;unfold uU at hc;unfold eL at h;unfold execOp;cases ho:o.op<;>simp only[ho]at h hc⊢<;>try (cases hc;done)
  rename_i c;cases pU:c.callee<;>simp only[pU]at h hc⊢<;>try (cases hc;done)
  rename_i f;split at h
  case h_2=>cases h
  rename_i fv as hfv has;have hr:Rs ι w (Live Lo ι H) as (c.args.map a.eval).toList:=by
   have:=LI ht has
   simpa using this
  have:=UE hp hi hy S (fK ht hfv) hr h
  simpa[resolve,pU]using this
 ·obtain⟨nx,cv,w',h1,h2,h3⟩:=acv V S hf ht (by simpa using hc) h;unfold Oper.wpIn;refine⟨fun f _=>hF.fn f,?_⟩;rw[Oper.semAt_eq _ _ _ hd,h1];rcases h2 with rfl|⟨rfl,rfl⟩
  ·rw[Oper.uponIn_value];exact hn _ _ h3
  ·rw[Oper.uponIn_skip];exact hn _ _ h3
end
def EP(B:Nat)(a:Act)(w:World)(L:Nat->Prop):Prop:=
 ∃ks:List Nat,ks.Nodup/\a.defers=ks.map (fun k=>{target:=.collected k,args:=#[]})/\∀k,k∈ks->w.heap[k]?=some (.deferred (some []))/\¬L k/\B<=k
structure St(E:Env)(B:Nat)(Lo:Nat->Prop)(w0:World)(ι:eg)(H:Hp)(ts:List AV)(a:Act)(w:World):Prop where
 PS:iZ E Lo w0 ι H w
 tm:Rs ι w (Live Lo ι H) ts a.tmps.toList
 mks:EP B a w (Live Lo ι H)
theorem EP.ext{B:Nat}{a a':Act}{w w':World}{L L':Nat->Prop}(h:EP B a w L)(hx:Ext w L w' L')(hd:a'.defers=a.defers):EP B a' w' L':=by
 obtain⟨ks,h1,h2,h3⟩:=h;refine⟨ks,h1,by rw[hd,h2],fun k hk=>?_⟩;obtain⟨g1,g2,g3⟩:=h3 k hk
 have:=hx.keep g1 g2
 exact⟨this.1,this.2,g3⟩
def D9(E:Env)(B:Nat)(Lo:Nat->Prop)(w0:World)(ι:eg)(H:Hp)(w:World)(dx:List AV)(H':Hp)(K:Act->World->Prop):Prop:=
 ∀(a':Act) (w':World) (ι':eg),ι.le ι'->Ext w (Live Lo ι H) w' (Live Lo ι' H')->St E B Lo w0 ι' H' dx a' w'->K a' w'
theorem D9.chain{E:Env}{B:Nat}{Lo:Nat->Prop}{w0:World}{ι ι':eg}{H H' H2:Hp}{w w':World}{JA:List AV}{K:Act->World->Prop}(h:D9 E B Lo w0 ι H w JA H2 K)
  (hle:ι.le ι') (hx:Ext w (Live Lo ι H) w' (Live Lo ι' H')):D9 E B Lo w0 ι' H' w' JA H2 K:=
 fun a2 w2 ι2 h1 h2 h3=>h a2 w2 ι2 (eg.le_trans hle h1) (hx.trans h2) h3
def Ex.up:Ex->Exit
 |.normal=>.normal
 |.exit id=>.exit id
 |.ret=>.ret
def r8(E:Env)(P:Program)(rec:Cd):Prop:=∀c ts H ex dx H',rec c ts H=some (ex,dx,H')->codeOk E c=true->∀(F:Fence),mS F->(F=Fence.wide∨flat c=true)->∀(B:Nat) (Lo:Nat->Prop) (w0:World) (ι:eg) (w:World) (a:Act),
 w0.heap.size<=B->B<=w.heap.size->St E B Lo w0 ι H ts a w->∀Q:Exit->Act->World->Prop,D9 E B Lo w0 ι H w dx H' (Q ex.up)->c.wpIn F 0 P Q a w
section
variable{E:Env}{P:Program}{ι:eg}{w:World}{L L':Nat->Prop}{Lo:Nat->Prop}{w0:World}{H:Hp}{ts:List AV}{a:Act}{B:Nat}
theorem ajG{x:AV}{b:Bool}(h:R ι w L x (.bool b)):x=.bool b:=by
 cases x<;>simp[R]at h⊢
 exact h.symm
theorem To{ops:Array Oper}(ht:Rs ι w L ts a.tmps.toList)(o:Oper):Region.wanted o (yielded ops a.tmps)=b6 ops.toList ts o:=by
 unfold Region.wanted b6 yielded;cases o.guard with
 |none=>rfl
 |some p=>
  obtain⟨j,want⟩:=p;simp only[aKX];cases (ops[j]?).bind (·.dst)with
  |none=>rfl
  |some d=>
   simp only[Option.bind_some];have hl:=ht.length;simp only[aMd]at hl;cases hd:ts[d]? with
   |none=>
    have:a.tmps[d]?=none:=by rw[Array.getElem?_eq_none_iff,hl];exact List.getElem?_eq_none_iff.1 hd
    simp[this]
   |some x=>
    obtain⟨v,h1,h2⟩:=ht.get d x hd;rw[aKX]at h1;rw[h1];by_cases hb:∃b,v=.bool b
    ·obtain⟨b,rfl⟩:=hb;rw[ajG h2];cases b<;>cases want<;>rfl
    ·have h3:∀b,v≠ .bool b:=fun b q=>hb ⟨b,q⟩
     have h4:∀b,x≠ .bool b:=fun b q=>by subst q;simp only[R]at h2;exact h3 b h2
     cases v<;>first|exact absurd rfl (h3 _)|skip
     all_goals (cases x<;>first|exact absurd rfl (h4 _)|rfl)
theorem ae4(ht:Rs ι w L ts a.tmps.toList){v:AV}{cv:Value}(hv:R ι w L v cv)(dst:Option Nat):Rs ι w L (bK dst v ts) (a.put dst cv).tmps.toList:=by
 cases dst with
 |none=>exact ht
 |some d=>
  simp only[bK,Act.put,aNp];exact ht.set d hv
theorem put_defers(a:Act)(dst:Option Nat)(v:Value):(a.put dst v).defers=a.defers:=by
 cases dst<;>rfl
theorem Md(V:Valid E P){pc:Pc}{ic yc:Ic}(hp:p9 E P pc)(hi:vU E P ic)(hy:uE E P yc){dr:Bool}{aL:Nat}{ops:Array Oper}{o:Oper}{dx:List AV}{e:cE}
  (S:St E B Lo w0 ι H ts a w) (hf:pI ι H aL) (h:cK E pc ic yc dr ops.toList aL o ts H=some (dx,e)) {F:Fence} (hF:mS F) {K:Act->World->Prop} {Q:Exit->Act->World->Prop}
  (hk:D9 E B Lo w0 ι H w dx (e.app H) K):
  if Region.wanted o (yielded ops a.tmps)then o.wpIn F 0 P a w K Q else(∀f,o.about P w a.eval=some f->F.fn f)/\K (a.put o.dst undef) w:=by
 unfold cK at h;rw[To S.tm o];split at h
 ·rename_i hw;rw[if_pos hw];split at h
  ·rename_i v e' Vu;cases h;refine aaa V hp hi hy S.PS hf S.tm Vu hF fun cv w' asM=>?_
   obtain⟨ι',h1,h2,h3,h4⟩:=asM;refine hk _ _ ι' h1 h3 ⟨h2,?_,S.mks.ext h3 (put_defers _ _ _)⟩;exact ae4 (Rs.ext h3 _ _ _ _ h1 S.tm) h4 _
  ·cases h
 ·rename_i hw;rw[if_neg hw];cases h;refine⟨fun f _=>hF.fn f,?_⟩;refine hk _ _ ι (eg.le_refl _) (Ext.refl _ _) ⟨S.PS,ae4 S.tm RZ _,S.mks.ext (Ext.refl _ _) (put_defers _ _ _)⟩
theorem Te(V:Valid E P){pc:Pc}{ic yc:Ic}(hp:p9 E P pc)(hi:vU E P ic)(hy:uE E P yc){ops:Array Oper}{F:Fence}(hF:mS F){Q:Exit->Act->World->Prop}:
  ∀(l:List Oper) (ts:List AV) (H:Hp) (dx:List AV) (H':Hp) (ι:eg) (w:World) (a:Act),Cq E pc ic yc ops.toList l ts H=some (dx,H')->St E B Lo w0 ι H ts a w->
   D9 E B Lo w0 ι H w dx H' (Q .normal)->wpListIn F 0 P ops Q l a w
 |[],ts,H,dx,H',ι,w,a,h,S,hk=>by
  simp only[Cq,aKV.injEq,Prod.mk.injEq]at h;obtain⟨rfl,rfl⟩:=h;exact hk _ _ ι (eg.le_refl _) (Ext.refl _ _) S
 |o::rest,ts,H,dx,H',ι,w,a,h,S,hk=>by
  unfold Cq at h;split at h
  ·rename_i Ad e h1;unfold wpListIn;exact Md V hp hi hy S (FQ S.PS) h1 hF fun a1 w1 ι1 k1 k2 k3=>Te V hp hi hy hF rest Ad (e.app H) dx H' ι1 w1 a1 h k3 (hk.chain k1 k2)
  ·cases h
theorem Ur(V:Valid E P){pc:Pc}{ic yc:Ic}(hp:p9 E P pc)(hi:vU E P ic)(hy:uE E P yc){id:Nat}{ops:Array Oper}{F:Fence}(hF:mS F){Q:Exit->Act->World->Prop}
  {dx:List AV} {H':Hp} (h:Cq E pc ic yc ops.toList ops.toList ts H=some (dx,H')) (S:St E B Lo w0 ι H ts a w) (hk:D9 E B Lo w0 ι H w dx H' (Q .normal)):
  (Code.region id ops false).wpIn F 0 P Q a w:=
 wpIn_region_list (Te V hp hi hy hF _ _ _ _ _ _ _ _ h S hk)
end
section
variable{E:Env}{P:Program}{ι:eg}{w:World}{L L':Nat->Prop}{Lo:Nat->Prop}{w0:World}{H:Hp}{ts:List AV}{a:Act}{B:Nat}
theorem TG(V:Valid E P)(S:iZ E Lo w0 ι H w){t:Nat}{p av:AV}{v:Value}(hp:R ι w (Live Lo ι H) p v)(h:gT E H t p=some av):
  ∃cv,((do loadVar t (<-asAddr v):Sem Value)).run P w=.ok cv w/\R ι w (Live Lo ι H) av cv:=by
 unfold gT at h;split at h
 case h_2=>cases h
 rename_i cs off hpt;obtain⟨cb,o,c,e,f,rfl,h2,h3⟩:=aah S hp hpt;obtain⟨cv,g1,g2⟩:=N0 V h2 h3 h;exact⟨cv,by simpa[asAddr]using g1,g2⟩
def OS(tmps:Array Value):ResultVar->Sem Value
 |.tmp t=>pure (tmps.getD t undef)
 |.cell a t=>do loadVar t (<-asAddr (tmps.getD a undef))
theorem EN(V:Valid E P)(S:iZ E Lo w0 ι H w){tmps:Array Value}(ht:Rs ι w (Live Lo ι H) ts tmps.toList):∀(rs:List ResultVar) (vs:List AV),iW H E ts rs=some vs->
  ∃Ss,(rs.mapM (OS tmps)).run P w=.ok Ss w/\Rs ι w (Live Lo ι H) vs Ss
 |[],vs,h=>by
  simp only[iW,aKV.injEq]at h;subst h
  exact⟨[],by simp,by simp[Rs]⟩
 |.tmp t::rs,vs,h=>by
  simp only[iW,aKP]at h;obtain⟨Hh,h1,rfl⟩:=h;obtain⟨Ss,g1,g2⟩:=EN V S ht rs Hh h1;have hg:=ht.getD t;refine⟨tmps.getD t undef::Ss,?_,?_⟩
  ·simp only[List.mapM_cons,OS,Sem.run_bind,Sem.run_pure,Result.andThen_ok,g1]
  ·simp only[Rs];exact⟨_,_,rfl,by simpa using hg,g2⟩
 |.cell x t::rs,vs,h=>by
  simp only[iW]at h;split at h
  ·rename_i v Hh h1 h2;cases h;obtain⟨Ss,g1,g2⟩:=EN V S ht rs Hh h2;have hg:=ht.getD x;have hx:R ι w (Live Lo ι H) (ts[x]?.getD aZ) (tmps.getD x undef):=by simpa using hg
   obtain⟨cv,k1,k2⟩:=TG V S hx h1;refine⟨cv::Ss,?_,?_⟩
   ·rw[List.mapM_cons,Sem.run_bind];unfold OS;rw[k1];simp only[Result.andThen_ok,Sem.run_bind]
    have:(rs.mapM (OS tmps)).run P w=.ok Ss w:=g1
    unfold OS at this;rw[this];simp only[Result.andThen_ok,Sem.run_pure]
   ·simp only[Rs];exact⟨_,_,rfl,k2,g2⟩
  ·cases h
theorem LF(V:Valid E P)(S:iZ E Lo w0 ι H w){tmps:Array Value}(ht:Rs ι w (Live Lo ι H) ts tmps.toList){fn:Func}{vs:List AV}(h:iW H E ts fn.results.toList=some vs):
  ∃cv,(results fn tmps).run P w=.ok cv w/\R ι w (Live Lo ι H) (kU vs) cv:=by
 obtain⟨Ss,g1,g2⟩:=EN V S ht _ _ h;have hm:(fn.results.mapM (OS tmps)).run P w=.ok Ss.toArray w:=by rw[Array.mapM_eq_mapM_toList,map_eq_pure_bind];simp only[Sem.run_bind,g1,Result.andThen_ok,Sem.run_pure]
 have kg:results fn tmps=(do let vs<-fn.results.mapM (OS tmps);pure (if h:vs.size=1 then vs[0]else .tuple vs)):=by unfold results;congr 2
 rw[kg,Sem.run_bind,hm];simp only[Result.andThen_ok,Sem.run_pure];refine⟨_,rfl,?_⟩;have hl:=g2.length
 match vs,Ss,g2,hl with
 |[],[],_,_=>simp[kU,R,Rs]
 |[v],[c],g,_=>
  simp only[Rs]at g;obtain⟨y,ys,h1,h2,_⟩:=g;cases h1;simpa[kU]using h2
 |v::v'::vs,c::c'::cs,g,_=>
  simp only[kU,R];refine⟨(c::c'::cs).toArray,?_,by simpa using g⟩
  simp
end
section
variable{E:Env}{P:Program}{ι:eg}{w:World}{L L':Nat->Prop}{Lo:Nat->Prop}{w0:World}{H:Hp}{ts:List AV}{a:Act}{B:Nat}
theorem qK(V:Valid E P){fn:Func}{tmps:Array Value}{vs:List AV}(kg:iW H E ts fn.results.toList=some vs){K:Value->World->Prop}:
  ∀(ks:List Nat) (w:World),iZ E Lo w0 ι H w->Rs ι w (Live Lo ι H) ts tmps.toList->ks.Nodup->(∀k,k∈ks->w.heap[k]?=some (.deferred (some []))/\¬Live Lo ι H k/\B<=k)->w0.heap.size<=B->
   (∀w' cv,Below B w w'->iZ E Lo w0 ι H w'->(∀c,w.heap.size<=c->w'.heap[c]?=none)->(∀(c:Nat) (cs:Array Value) (e:TypeId) (f:Nat×Nat),w.heap[c]?=some (.cells cs e f)->w'.heap[c]?=some (.cells cs e f))->
    R ι w' (Live Lo ι H) (kU vs) cv->K cv w')->
   LeavesInM Fence.wide 0 P fn tmps (SZ K) (ks.map fun k=>{target:=.collected k,args:=#[]}) .returning w
 |[],w,S,ht,_,_,_,hk=>by
  obtain⟨cv,g1,g2⟩:=LF V S ht kg;exact⟨cv,g1,hk w cv (Below.refl B w) S (fun c hc=>Array.getElem?_eq_none hc) (fun _ _ _ _ h=>h) g2⟩
 |k::ks,w,S,ht,hn,hks,hB,hk=>by
  obtain⟨g1,g2,g3⟩:=hks k (by simp);have X:=S.other (o':=.deferred none) g1 (aNm hB g3);have O:=oT (o:=(.deferred none:Obj)) (w1:=w) rfl rfl rfl rfl g1;rw[List.nodup_cons]at hn;refine⟨by simp,.inl ⟨k,sC w k (.deferred none),rfl,run_takeDeferred g1,?_⟩⟩;refine qK V kg ks _ X.1 (Rs.rz X.2 _ _ _ _ (eg.le_refl _) ht) hn.2 (fun k' zz=>?_) hB fun w' cv h1 h2 h3 h5 h4=>hk w' cv ((O.below g3).trans h1) h2 ?_ ?_ h4
  ·obtain⟨q1,q2,q3⟩:=hks k' (by simp[zz]);refine⟨?_,q2,q3⟩;rw[O.there k' (fun e=>hn.1 (e▸zz))];exact q1
  ·intro c hc;refine h3 c ?_;rw[O.size];exact hc
  ·intro c cs e f hc;refine h5 c cs e f ?_;rw[O.there c (fun q=>by subst q;rw[g1]at hc;cases hc)];exact hc
theorem uQ(n:Nat):Rs ι w L (aK3 n aZ) (aK3 n undef):=by
 induction n with
 |zero=>simp[Rs]
 |succ n ih=>
  simp only[List.replicate_succ,Rs];exact⟨_,_,rfl,RZ,ih⟩
theorem Dr(V:Valid E P){rec:Cd}(lN:r8 E P rec){f:Nat}{args:List AV}{v:AV}{H':Hp}(h:vh E rec f args H=some (v,H'))(S:iZ E Lo w0 ι H w){vs:Array Value}
  (ha:Rs ι w (Live Lo ι H) args vs.toList):CallsIn Fence.wide 0 P f vs w (SZ (AN E Lo w0 ι H w v H')):=by
 unfold vh at h;split at h
 case h_2=>cases h
 rename_i fi mI;obtain⟨fn,f1,f2,f3,f4,f5,f6⟩:=V.fn f fi mI;have main:∀ex ts H2,rec fi.code (args++aK3 (fi.ntmps-args.length) aZ) H=some (ex,ts,H2)->(∀id,ex≠ .exit id)->∀rs,iW H2 E ts fi.results=some rs->v=kU rs->H'=H2->
   CallsIn Fence.wide 0 P f vs w (SZ (AN E Lo w0 ι H w v H')):=by
  intro ex ts H2 hr hex rs kg hv hH;subst hv hH;refine callsIn_of_wp_marks f1 f2 trivial ?_;have hl:=ha.length;simp only[aMd]at hl;refine lN _ _ _ _ _ _ hr f6 Fence.wide (.inl rfl) (.inl rfl) w.heap.size Lo w0 ι w _ S.below.size (aKR _) ⟨S,?_,⟨[],by simp,rfl,by simp⟩⟩ _ fun a' w' ι' k1 k2 k3=>?_
  ·simp only[aNg,aNr];rw[f3,<-hl];exact ha.append (uQ _)
  ·obtain⟨ks,n1,n2,n3⟩:=k3.mks;have nW:LeavesInM Fence.wide 0 P fn a'.tmps (SZ (AN E Lo w0 ι H w (kU rs) H')) a'.defers .returning w':=by
    rw[n2];refine qK V (by rw[f4];exact kg) ks w' k3.PS k3.tm n1 n3 S.below.size fun w2 cv b1 b2 b3 b4 b5=>?_
    refine⟨ι',k1,b2,?_,b5⟩;refine⟨aNm k2.size b1.size,fun c hc Mf=>?_,fun c cs e fr hc=>?_⟩
    ·have:=k2.old c hc Mf
     exact⟨(b1.block c hc).trans this.1,this.2⟩
    ·obtain⟨vK,f',q1,q2⟩:=k2.shape c cs e fr hc;exact⟨vK,f',b4 c vK e f' q1,q2⟩
   cases ex with
   |normal=>exact nW
   |ret=>exact nW
   |exit id=>exact absurd rfl (hex id)
 split at h
 ·cases h
 ·rename_i ex ts H2 dY hr;rw[aKP]at h;obtain⟨rs,h1,h2⟩:=h;cases h2;exact main ex ts H' hr (fun id q=>dY id q) rs h1 rfl rfl
 ·cases h
theorem O5(V:Valid E P){rec:Cd}(lN:r8 E P rec){f:Nat}{args:List AV}{r:AV}{fi:FnI}(mI:E.fn f=some fi){ex:Ex}{JA:List AV}{H2:Hp}
  (hr:rec fi.code (args++aK3 (fi.ntmps-args.length) aZ) []=some (ex,JA,H2)) (hex:∀id,ex≠ .exit id) {rs:List AV} (kg:iW H2 E JA fi.results=some rs)
  {bs:List Nat} (gg:bW H2 [kU rs]=some ([r],bs)) {vs:Array Value} (kO:∀c,L c->c<w.heap.size) (hg:DV E L w) (ha:Rs cS w L args vs.toList):
  CallsIn Fence.wide 0 P f vs w (SZ fun v w'=>Below w.heap.size w w'/\R cS w' L r v):=by
 obtain⟨fn,f1,f2,f3,f4,f5,f6⟩:=V.fn f fi mI;have hL:Live L cS ([]:Hp)=L:=by
  funext c;refine propext ⟨?_,.inl⟩;rintro(h|⟨b,eN,co,h,_⟩)
  ·exact h
  ·simp at h
 have S:iZ E L w cS [] w:=by
  refine⟨Below.refl _ _,kO,?_,?_,?_,?_,?_,?_⟩
  ·intro b p h;cases h
  ·intro b eN h;simp at h
  ·intro b b' eN blk' c co co' h;simp at h
  ·rw[hL];exact hg
  ·intro b eN h;simp at h
  ·intro b p h;cases h
 refine callsIn_of_wp_marks f1 f2 trivial ?_;have hl:=ha.length;simp only[aMd]at hl;refine lN _ _ _ _ _ _ hr f6 Fence.wide (.inl rfl) (.inl rfl) w.heap.size L w cS w _ (aKR _) (aKR _) ⟨S,?_,⟨[],by simp,rfl,by simp⟩⟩ _ fun a' w' ι' k1 k2 k3=>?_
 ·simp only[aNg,aNr];rw[f3,<-hl,hL];exact ha.append (uQ _)
 ·obtain⟨ks,n1,n2,n3⟩:=k3.mks;have nW:LeavesInM Fence.wide 0 P fn a'.tmps (SZ fun v w'=>Below w.heap.size w w'/\R cS w' L r v) a'.defers .returning w':=by
   rw[n2];refine qK V (by rw[f4];exact kg) ks w' k3.PS k3.tm n1 n3 (aKR _) fun w2 cv b1 b2 b3 b4 b5=>?_
   refine⟨b2.below,?_⟩;have so:Rs ι' w2 (Live L ι' H2) [kU rs] [cv]:=by simp only[Rs];exact⟨_,_,rfl,b5,rfl⟩
   have:=th b2 so gg
   simp only[Rs]at this;obtain⟨y,ys,q1,q2,_⟩:=this;cases q1;exact R.ext (xy fun c hc=>.inl hc) _ _ _ _ (eg.le_refl _) q2
  cases ex with
  |normal=>exact nW
  |ret=>exact nW
  |exit id=>exact absurd rfl (hex id)
end
section
variable{E:Env}{P:Program}{ι:eg}{w:World}{L L':Nat->Prop}{Lo:Nat->Prop}{w0:World}{H:Hp}{ts:List AV}{a:Act}{B:Nat}
theorem ZN:∀(ps:List Nat) (as:List AV) (ts dx:List AV) (vs:List Value) (tmps:Array Value),Ms ts ps as=some dx->Rs ι w L ts tmps.toList->Rs ι w L as vs->
  vs.length=ps.length/\Rs ι w L dx ((ps.zip vs).foldl (fun t (p,v)=>t.setIfInBounds p v) tmps).toList
 |[],[],ts,dx,vs,tmps,h,ht,ha=>by
  simp only[Rs]at ha;subst ha
  simp only[Ms,aKV.injEq]at h;subst h
  exact⟨rfl,ht⟩
 |[],_::_,_,_,_,_,h,_,_=>by simp[Ms]at h
 |_::_,[],_,_,_,_,h,_,_=>by simp[Ms]at h
 |p::ps,x::as,ts,dx,vs,tmps,h,ht,ha=>by
  simp only[Rs]at ha;obtain⟨y,ys,rfl,h1,h2⟩:=ha;simp only[Ms]at h
  have:=ZN ps as (ts.set p x) dx ys (tmps.setIfInBounds p y) h (by rw[aNp];exact ht.set p h1) h2
  exact⟨by simp[this.1],by simpa using this.2⟩
theorem xw(S:iZ E Lo w0 ι H w){l cb co:Nat}{st st':LoopState}{nV pend':Option Code}{lts:List AV}{ps:List Nat}{as bd:Code}{r:Loop}
  (hb:H[l]?=some (.loop st nV lts ps as bd)) (hi:ι l=some (cb,co)) (hr:w.heap[cb]?=some (.loop r)) (hp:∀c,pend'=some c->codeOk E c=true):
  iZ E Lo w0 ι (H.set l (.loop st' pend' lts ps as bd)) (w.putObj cb (.loop {r with state:=st',pending:=pend'}))/\
   Ext w (Live Lo ι H) (w.putObj cb (.loop {r with state:=st',pending:=pend'})) (Live Lo ι (H.set l (.loop st' pend' lts ps as bd))):=by
 obtain⟨Re,co',o,g1,g2,g3,g4,g5⟩:=S.obj l _ hb (by simp[cz.st]);rw[hi]at g1;cases g1
 rw[hr]at g2;cases g2
 have F:=S.uc l _ hb rfl;simp only[jH]at g3;obtain⟨r',q0,q1,q2,q3,q4,q5,q6⟩:=g3;cases q0;have O:Ko w (w.putObj cb (.loop {r with state:=st',pending:=pend'})) cb (.loop {r with state:=st',pending:=pend'}):=
  oT (o:=.loop {r with state:=st',pending:=pend'}) (w1:=w) rfl rfl rfl rfl hr
 have F2:nG (.loop r) (.loop {r with state:=st',pending:=pend'}):=fun cs e f q=>by cases q
 have X:Ext w (Live Lo ι H) (w.putObj cb (.loop {r with state:=st',pending:=pend'})) (Live Lo ι H):=O.ext hr F2 (.inr ⟨l,_,co,hb,rfl,hi⟩) (fun _ h=>h);exact S.update (blk':=.loop st' pend' lts ps as bd) hb rfl rfl hi hr F2 O
  (by
   simp only[jH];exact⟨_,rfl,rfl,rfl,Rs.ext X _ _ _ _ (eg.le_refl _) q3,q4,q5,q6⟩)
  ⟨F.1,F.2.1,F.2.2.1,F.2.2.2.1,hp⟩
theorem Au(S:iZ E Lo w0 ι H w){l cb co:Nat}{st:LoopState}{nV:Option Code}{lts:List AV}{ps:List Nat}{as bd:Code}
  (hb:H[l]?=some (.loop st nV lts ps as bd)) (hi:ι l=some (cb,co)):
  ∃r:Loop,w.heap[cb]?=some (.loop r)/\r.state=st/\r.pending=nV/\Rs ι w (Live Lo ι H) lts r.tmps.toList/\r.params.toList=ps/\r.assign=as/\r.body=bd:=by
 obtain⟨Re,co',o,g1,g2,g3,g4,g5⟩:=S.obj l _ hb (by simp[cz.st]);rw[hi]at g1;cases g1
 simp only[jH]at g3;obtain⟨r,q0,q1,q2,q3,q4,q5,q6⟩:=g3;exact⟨r,by rw[g2,q0],q1,q2,q3,q4,q5,q6⟩
theorem Fk(V:Valid E P){rec:Cd}(lN:r8 E P rec):uE E P (yI rec):=by
 intro l as H v H2 h Lo w0 ι w vs cb co S ha hi;unfold yI at h;split at h
 case h_2=>cases h
 rename_i aDr ts ps assign body hb;split at h
 case h_2=>cases h
 rename_i dx oc;split at h
 case h_2=>cases h
 rename_i t1 H1 axg;split at h
 case h_2=>cases h
 rename_i nV JA ps2 as2 b2 vO;split at h
 case h_2=>cases h
 rename_i e t2 H2' ama;split at h
 case h_2=>cases h
 rename_i st3 aCq Oq Ou OC b3 Ao;obtain⟨r,r1,r2,r3,r4,r5,r6,r7⟩:=Au S hb hi;have Fi:=S.uc l _ hb rfl;obtain⟨z1,z2⟩:=ZN ps as ts dx vs.toList r.tmps oc r4 ha;have Eb:vs.size=r.params.size:=by rw[<-aMd,<-aMd,z1,r5]
 refine .inr (.inr ⟨cb,r.fn,_,r.assign,r.body,w,run_yield r1 Eb,?_⟩);have hW:mS (Fence.wide.inRound cb):=.inr ⟨cb,rfl⟩;refine roundIn_of_wpIn trivial ?_;rw[r6];refine lN assign dx H _ t1 H1 axg Fi.1 _ hW (.inr Fi.2.2.1) w.heap.size Lo w0 ι w _ S.below.size (aKR _) ⟨S,?_,⟨[],by simp,rfl,by simp⟩⟩ _ fun a1 w1 ι1 k1 k2 k3=>?_
 ·have:((r.params.zip vs).foldl (fun tmps (x:Tmp×Value)=>tmps.setIfInBounds x.1 x.2) r.tmps)=((ps.zip vs.toList).foldl (fun t (p,v)=>t.setIfInBounds p v) r.tmps):=by rw[<-r5,<-Array.toList_zip,Array.foldl_toList]
  simp only;rw[this];exact z2
 ·
  have QI:=k1 l _ hi;obtain⟨q,q1,q2,q3,q4,q5,q6,q7⟩:=Au k3.PS vO QI;have Fp:=k3.PS.uc l _ vO rfl;have U:=xw (st':=.busy) (pend':=nV) k3.PS vO QI q1 Fp.2.2.2.2;have axr:({q with state:=.busy,pending:=nV}:Loop)={q with state:=.busy}:=by rw[<-q3]
  rw[axr]at U;refine⟨_,run_beginRound q1 q2,?_⟩;rw[r7];refine lN body t1 _ _ t2 H2' ama Fi.2.1 _ hW (.inr Fi.2.2.2.1) w.heap.size Lo w0 ι1 _ a1 S.below.size (by rw[World.putObj_size];exact k2.size) ⟨U.1,Rs.ext U.2 _ _ _ _ (eg.le_refl _) k3.tm,k3.mks.ext U.2 rfl⟩ _
   fun a2 w2 ι2 l1 l2 l3=>?_
  have Sn:=l1 l _ QI;obtain⟨p,p1,p2,p3,p4,p5,p6,p7⟩:=Au l3.PS Ao Sn;have fin:∀(jump:Option Code) (st':LoopState),st'=(if jump.isNone then .ready else .done)->(∀c,jump=some c->codeOk E c=true)->v=.bool jump.isNone->H2=H2'.set l (.loop st' jump Oq Ou OC b3)->
    ∃v' w',(Instr.endRound cb jump).run P w2=.ok v' w'/\SZ (AN E Lo w0 ι H w v H2) (.returned v') w':=by
   intro jump st' fZ hj hv hH;subst hv hH;have U2:=xw (st':=st') (pend':=jump) l3.PS Ao Sn p1 hj;rw[fZ]at U2⊢;refine⟨_,_,run_endRound jump p1,?_⟩;exact⟨ι2,eg.le_trans k1 l1,U2.1,k2.trans (U.2.trans (l2.trans U2.2)),by simp only[R]⟩
  cases e with
  |normal=>
   simp only[aKV.injEq,Prod.mk.injEq]at h;exact fin none .ready rfl (fun c q=>by cases q) h.1.symm h.2.symm
  |ret=>
   simp only[aKV.injEq,Prod.mk.injEq]at h;exact fin (some .ret) .done rfl (fun c q=>by cases q;rfl) h.1.symm h.2.symm
  |exit id=>
   simp only[aKV.injEq,Prod.mk.injEq]at h;exact fin (some (.exit id)) .done rfl (fun c q=>by cases q;rfl) h.1.symm h.2.symm
end
structure Eg(E:Env)(P:Program):Prop where
 ov:p9 E P E.ov
 sj:vU E P E.sj
def PG(E:Env)(P:Program)(rec:Cd):Prop:=∀(id:Nat) (ops:Array Oper) ts H dx H',Br E (pK E rec) (ue E rec) (yI rec) id ops.toList ts H=some (dx,H')->Ah E (E.pairs id ops.size) ops=true->
 ∀(F:Fence),mS F->∀(B:Nat) (Lo:Nat->Prop) (w0:World) (ι:eg) (w:World) (a:Act),w0.heap.size<=B->B<=w.heap.size->St E B Lo w0 ι H ts a w->
 ∀Q:Exit->Act->World->Prop,D9 E B Lo w0 ι H w dx H' (Q .normal)->(Code.region id ops true).wpIn F 0 P Q a w
def JJ(E:Env)(P:Program)(rec:Cd)(k:Nat):Prop:=∀c ts H ex dx H',rec (.loop c) ts H=some (ex,dx,H')->codeOk E c=true->∀(F:Fence),mS F->(F=Fence.wide∨flat c=true)->∀(B:Nat) (Lo:Nat->Prop) (w0:World) (ι:eg) (w:World) (a:Act),
 w0.heap.size<=B->B<=w.heap.size->St E B Lo w0 ι H ts a w->∀Q:Exit->Act->World->Prop,D9 E B Lo w0 ι H w dx H' (Q ex.up)->Code.roundsIn F 0 P c Q k a w
section
variable{E:Env}{P:Program}{ι:eg}{w:World}{L L':Nat->Prop}{Lo:Nat->Prop}{w0:World}{H:Hp}{ts:List AV}{a:Act}{B:Nat}
theorem mh(V:Valid E P){f:Nat}{fi:FnI}(h:E.fn f=some fi)(vs:Array Value)(w:World):(callFunc f vs).run P w=.ok (.enter f vs) w:=by
 obtain⟨fn,f1,f2,f3,f4,f5,f6⟩:=V.fn f fi h;unfold callFunc;simp only[Sem.run_bind,run_program,Result.andThen_ok,f1]
 have:(fn.name== "runtime.NumGoroutine")=false:=by simpa using f5
 simp[this,f2]
theorem Jw(V:Valid E P)(O:Eg E P){rec:Cd}(lN:r8 E P rec):p9 E P (pK E rec):=by
 intro f as r h L w vs kO hg ha;unfold pK at h;split at h
 ·rename_i r' mP;cases h;exact O.ov f as r mP L w vs kO hg ha
 ·rename_i mP;split at h
  case h_2=>cases h
  rename_i fi mI;split at h
  ·cases h
  split at h
  ·cases h
  ·rename_i ex ts H dY hr;split at h
   case h_2=>cases h
   rename_i rs kg;split at h
   case h_2=>cases h
   rename_i v bs gg;cases h;exact .inr (.inl ⟨f,vs,w,mh V mI vs w,O5 V lN mI hr (fun id q=>dY id q) kg gg kO hg ha⟩)
  ·cases h
theorem Sg(V:Valid E P)(O:Eg E P){rec:Cd}(lN:r8 E P rec):vU E P (ue E rec):=by
 intro f as H v H2 h Lo w0 ι w vs S ha;unfold ue at h;split at h
 ·rename_i r mP;cases h;exact O.sj f as H v H2 mP Lo w0 ι w vs S ha
 ·have h0:=h;unfold vh at h0;split at h0
  case h_2=>cases h0
  rename_i fi mI;exact .inr (.inl ⟨f,vs,w,mh V mI vs w,Dr V lN h S ha⟩)
theorem aaZ(S:iZ E Lo w0 ι H w){c:Nat}(h:Live Lo ι H c):c<w.heap.size:=RT S c h
theorem Kl(V:Valid E P){rec:Cd}(lN:r8 E P rec){g:Operand}{ps:Array Nat}{assign body:Code}{fv:AV}{f:Nat}{first cap:List AV}
  (hg:cn ts g=some (.func f first cap)) {v:AV} {H2:Hp} (xd:vh E rec f (first++[.yield H.length]++cap) (H++[.loop .ready none ts ps.toList assign body])=some (v,H2))
  {st:LoopState} {nV:Option Code} {Oq:List AV} {Ou:List Nat} {OC b3:Code} (fZ:st≠ .busy)
  {ex:Ex} {dx:List AV} {H':Hp} (Nw:(match nV with
   |none=>some (Ex.normal,ts,H2.set H.length (.loop .exhausted nV Oq Ou OC b3))
   |some c=>rec c ts (H2.set H.length (.loop .exhausted nV Oq Ou OC b3)))=some (ex,dx,H')) (hl:H2[H.length]?=some (.loop st nV Oq Ou OC b3))
  (c1:codeOk E assign=true) (c2:codeOk E body=true) (c3:flat assign=true) (c4:flat body=true)
  (hB:w0.heap.size<=B) (Ja:B<=w.heap.size) (S:St E B Lo w0 ι H ts a w) {Q:Exit->Act->World->Prop} (hk:D9 E B Lo w0 ι H w dx H' (Q ex.up)):
  (Code.rangeFunc g ps assign body).wpIn Fence.wide 0 P Q a w:=by
 refine wpIn_rangeFunc fun fn jE=>?_
 have mI:∃fi,E.fn f=some fi:=by
  have h0:=xd;unfold vh at h0;split at h0
  ·rename_i fi mI;exact⟨fi,mI⟩
  ·cases h0
 obtain⟨fi,mI⟩:=mI;have hgR:=fK S.tm hg;simp only[R]at hgR;obtain⟨cf,cc,hgv,r1,r2⟩:=hgR;have vO:Below w.heap.size w (w.alloc (.deferred (some []))):=
  ⟨rfl,rfl,rfl,by show w.heap.size<=(w.heap.push _).size;simp,fun k hk=>by show(w.heap.push _)[k]?=_;rw[aKW,if_neg (by omega)]⟩
 obtain⟨S1,X1⟩:=S.PS.later vO;have amv:(w.alloc (.deferred (some []))).heap.size=w.heap.size+1:=by show(w.heap.push _).size=_;simp
 have lM:=FQ S1
 let rc:Loop:={state:=.ready,pending:=none,fn,tmps:=a.tmps,params:=ps,assign,body,defers:=w.heap.size}
 let nb:cz:=.loop .ready none ts ps.toList assign body
 have Vi:eE H H.length nb=H++[nb]:=by simp[eE]
 have X2:=xO S1 (eN:=nb) lM rfl (.loop rc) (w1:=w.alloc (.deferred (some []))) rfl;have hle:=eg.C9 (p:=((w.alloc (.deferred (some []))).heap.size,0)) lM.1;have X12:=X1.trans X2;have S2:=S1.alloc (eN:=nb) lM rfl (o:=.loop rc) (w1:=w.alloc (.deferred (some []))) rfl rfl rfl rfl
  (by
   simp only[jH,nb];exact⟨rc,rfl,rfl,rfl,Rs.ext X12 _ _ _ _ hle S.tm,rfl,rfl,rfl⟩)
  ⟨c1,c2,c3,c4,fun c q=>by cases q⟩
 rw[Vi]at S2 X12;have ah9:=Dr V lN xd S2 (vs:=cf++#[.func (.yield (w.heap.size+1)) #[] #[]]++cc) (by
  rw[aNg,aNg];refine((Rs.ext X12 _ _ _ _ hle r1).append ?_).append (Rs.ext X12 _ _ _ _ hle r2);simp only[Rs];refine⟨_,_,rfl,?_,rfl⟩;simp only[R];exact⟨w.heap.size+1,0,by simp[eg.put,amv],rfl⟩)
 have kg:(resolve a.eval (rangeCall g (w.heap.size+1)) 0).run P ((w.alloc (.deferred (some []))).alloc (.loop rc))=
   .ok {target:=.fn (.func f) cc,args:=cf++#[.func (.yield (w.heap.size+1)) #[] #[]]} ((w.alloc (.deferred (some []))).alloc (.loop rc)):=by
  have hc:∀v:Value,a.eval (.const v)=v:=fun _=>rfl
  simp[resolve,hgv,Deferred.ofValue,hc]
 have hinv:(invoke (.fn (.func f) cc) (cf++#[.func (.yield (w.heap.size+1)) #[] #[]])).run P ((w.alloc (.deferred (some []))).alloc (.loop rc))=
   .ok (.enter f (cf++#[.func (.yield (w.heap.size+1)) #[] #[]]++cc)) ((w.alloc (.deferred (some []))).alloc (.loop rc)):=by
  simpa[invoke]using mh V mI _ _
 have Gy:(Instr.enterLoop fn a.tmps ps assign body none).run P w=.ok (w.heap.size+1,[{target:=.collected w.heap.size,args:=#[]}]) ((w.alloc (.deferred (some []))).alloc (.loop rc)):=
  run_enterLoop_outer _ _ _ _ _
 refine⟨_,_,_,_,_,_,_,_,Gy,kg,fun f' _=>mS.fn (.inl rfl) f',hinv,by rw[mS.deep (.inl rfl)];simp,?_⟩;refine CallsIn.mono ah9 fun e w3 he=>?_
 ·cases e with
  |panicked _=>exact he.elim
  |outgrown=>exact he.elim
  |returned v'=>
   obtain⟨ι3,q1,q2,q3,q4⟩:=he;have hi3:ι3 H.length=some (w.heap.size+1,0):=q1 _ _ (by simp[eg.put,amv]);obtain⟨r,l1,l2,l3,l4,l5,l6,l7⟩:=Au q2 hl hi3;have F3:=q2.uc _ _ hl rfl;have U:=xw (st':=.exhausted) (pend':=nV) q2 hl hi3 l1 F3.2.2.2.2;have avl:({r with state:=.exhausted,pending:=nV}:Loop)={r with state:=.exhausted}:=by rw[<-l3]
   rw[avl]at U;refine⟨r.pending,_,run_endLoop l1 (by rw[l2];exact fZ),?_⟩;have X3:=X12.trans (q3.trans U.2);have ahy:=eg.le_trans hle q1;have M3:EP B {a with defers:=[{target:=.collected w.heap.size,args:=#[]}]++a.defers} (w3.putObj (w.heap.size+1) (.loop {r with state:=.exhausted}))
     (Live Lo ι3 (H2.set H.length (.loop .exhausted nV Oq Ou OC b3))):=by
    obtain⟨ks,n1,n2,n3⟩:=S.mks;refine⟨w.heap.size::ks,?_,by simp[n2],fun k hk=>?_⟩
    ·rw[List.nodup_cons];refine⟨fun hm=>?_,n1⟩
     have:=ie (n3 _ hm).1
     omega
    ·rcases aMc.1 hk with rfl|hk
     ·have g1:((w.alloc (.deferred (some []))).alloc (.loop rc)).heap[w.heap.size]?=some (.deferred (some [])):=by simp only[World.alloc];rw[aKW,if_neg (by simp),aKW,if_pos rfl]
      have g2:¬Live Lo (ι.put H.length ((w.alloc (.deferred (some []))).heap.size,0)) (H++[nb]) w.heap.size:=by
       rw[<-Vi,GA lM rfl];rintro(hq|hq)
       ·exact absurd (aaZ S.PS hq) (by omega)
       ·omega
      have:=(q3.trans U.2).keep g1 g2
      exact⟨this.1,this.2,Ja⟩
     ·obtain⟨g1,g2,g3⟩:=n3 k hk
      have:=X3.keep g1 g2
      exact⟨this.1,this.2,g3⟩
   have S3:St E B Lo w0 ι3 (H2.set H.length (.loop .exhausted nV Oq Ou OC b3)) ts {a with defers:=[{target:=.collected w.heap.size,args:=#[]}]++a.defers}
     (w3.putObj (w.heap.size+1) (.loop {r with state:=.exhausted})):=⟨U.1,Rs.ext X3 _ _ _ _ ahy S.tm,M3⟩
   clear U;generalize(w3.putObj (w.heap.size+1) (.loop {r with state:=.exhausted}))=w4 at*;rw[l3];cases nV with
   |none=>
    simp only[aKV.injEq,Prod.mk.injEq]at Nw;obtain⟨rfl,rfl,rfl⟩:=Nw;exact hk _ _ ι3 ahy X3 S3
   |some c=>
    exact lN c _ _ _ _ _ Nw (F3.2.2.2.2 c rfl) Fence.wide (.inl rfl) (.inl rfl) B Lo w0 ι3 _ _ hB (aNm Ja X3.size) S3 Q (hk.chain ahy X3)
theorem Xo(V:Valid E P)(O:Eg E P){rec:Cd}{k:Nat}(lN:r8 E P rec)(anV:JJ E P rec k)(IW:PG E P rec):r8 E P (dI E rec)/\JJ E P (dI E rec) (k+1):=by
 have hl:JJ E P (dI E rec) (k+1):=by
  intro c ts H ex dx H' h hc F hF Vw B Lo w0 ι w a hB Ja S Q hk;simp only[dI]at h;rw[roundsIn_succ];cases hb:rec c ts H with
  |none=>rw[hb]at h;cases h
  |some r=>
   obtain⟨e1,Ad,H1⟩:=r;rw[hb]at h;refine lN c ts H e1 Ad H1 hb hc F hF Vw B Lo w0 ι w a hB Ja S _ fun a1 w1 ι1 k1 k2 k3=>?_
   cases e1 with
   |normal=>exact anV c Ad H1 ex dx H' h hc F hF Vw B Lo w0 ι1 w1 a1 hB (aNm Ja k2.size) k3 Q (hk.chain k1 k2)
   |exit id=>cases h;exact hk _ _ _ k1 k2 k3
   |ret=>cases h;exact hk _ _ _ k1 k2 k3
 refine⟨?_,hl⟩;intro c ts H ex dx H' h hc F hF Vw B Lo w0 ι w a hB Ja S Q hk;cases c with
 |skip=>simp only[dI,aKV.injEq,Prod.mk.injEq]at h;obtain⟨rfl,rfl,rfl⟩:=h;exact wpIn_skip (hk _ _ _ (eg.le_refl _) (Ext.refl _ _) S)
 |label l=>simp only[dI,aKV.injEq,Prod.mk.injEq]at h;obtain⟨rfl,rfl,rfl⟩:=h;exact wpIn_label (hk _ _ _ (eg.le_refl _) (Ext.refl _ _) S)
 |exit id=>simp only[dI,aKV.injEq,Prod.mk.injEq]at h;obtain⟨rfl,rfl,rfl⟩:=h;exact wpIn_exit (hk _ _ _ (eg.le_refl _) (Ext.refl _ _) S)
 |ret=>simp only[dI,aKV.injEq,Prod.mk.injEq]at h;obtain⟨rfl,rfl,rfl⟩:=h;exact wpIn_ret (hk _ _ _ (eg.le_refl _) (Ext.refl _ _) S)
 |scope body=>simp[dI]at h
 |goto l=>simp[dI]at h
 |refuse why=>simp[dI]at h
 |region id ops draw=>
  simp only[dI,aKP]at h;obtain⟨⟨t1,h1⟩,hr,he⟩:=h;simp only[Prod.mk.injEq]at he;obtain⟨rfl,rfl,rfl⟩:=he;cases draw with
  |false=>
   simp only[aKT,if_false]at hr;exact Ur V (Jw V O lN) (Sg V O lN) (Fk V lN) hF hr S hk
  |true=>
   simp only[if_true]at hr;simp only[codeOk,Bool.not_true,Bool.false_or]at hc;exact IW id ops ts H _ _ hr hc F hF B Lo w0 ι w a hB Ja S Q hk
 |seq x y=>
  simp only[codeOk,aLR]at hc;have Kj:(F=Fence.wide∨flat x=true)/\(F=Fence.wide∨flat y=true):=by
   rcases Vw with q|q
   ·exact⟨.inl q,.inl q⟩
   ·simp only[flat,aLR]at q;exact⟨.inr q.1,.inr q.2⟩
  simp only[dI]at h;cases hb:rec x ts H with
  |none=>rw[hb]at h;cases h
  |some r=>
   obtain⟨e1,Ad,H1⟩:=r;rw[hb]at h;refine wpIn_seq (lN x ts H e1 Ad H1 hb hc.1 F hF Kj.1 B Lo w0 ι w a hB Ja S _ fun a1 w1 ι1 k1 k2 k3=>?_);cases e1 with
   |normal=>exact lN y Ad H1 ex dx H' h hc.2 F hF Kj.2 B Lo w0 ι1 w1 a1 hB (aNm Ja k2.size) k3 Q (hk.chain k1 k2)
   |exit id=>cases h;exact hk _ _ _ k1 k2 k3
   |ret=>cases h;exact hk _ _ _ k1 k2 k3
 |cond c x y=>
  simp only[codeOk,aLR]at hc;have Kj:(F=Fence.wide∨flat x=true)/\(F=Fence.wide∨flat y=true):=by
   rcases Vw with q|q
   ·exact⟨.inl q,.inl q⟩
   ·simp only[flat,aLR]at q;exact⟨.inr q.1,.inr q.2⟩
  simp only[dI]at h;split at h
  case h_2=>cases h
  rename_i t ht;have hev:=fK S.tm ht;simp only[R]at hev;refine wpIn_cond hev ?_;cases t with
  |true=>exact lN x ts H ex dx H' h hc.1 F hF Kj.1 B Lo w0 ι w a hB Ja S Q hk
  |false=>exact lN y ts H ex dx H' h hc.2 F hF Kj.2 B Lo w0 ι w a hB Ja S Q hk
 |block id body=>
  simp only[codeOk]at hc;have Kj:F=Fence.wide∨flat body=true:=by
   rcases Vw with q|q
   ·exact .inl q
   ·simp only[flat]at q;exact .inr q
  simp only[dI]at h;cases hb:rec body ts H with
  |none=>rw[hb]at h;cases h
  |some r=>
   obtain⟨e1,Ad,H1⟩:=r;rw[hb]at h;refine wpIn_block (lN body ts H e1 Ad H1 hb hc F hF Kj B Lo w0 ι w a hB Ja S _ fun a1 w1 ι1 k1 k2 k3=>?_);cases e1 with
   |normal=>cases h;exact hk _ _ _ k1 k2 k3
   |ret=>cases h;exact hk _ _ _ k1 k2 k3
   |exit BB=>
    simp only[Ex.up,Exit.inBlock];simp only at h;split at h
    ·rename_i q;rw[if_pos q];cases h;exact hk _ _ _ k1 k2 k3
    ·rename_i q;rw[if_neg q];cases h;exact hk _ _ _ k1 k2 k3
 |loop body=>
  simp only[codeOk]at hc;have Kj:F=Fence.wide∨flat body=true:=by
   rcases Vw with q|q
   ·exact .inl q
   ·simp only[flat]at q;exact .inr q
  exact wpIn_loop_rounds (k+1) (hl body ts H ex dx H' h hc F hF Kj B Lo w0 ι w a hB Ja S Q hk)
 |rangeFunc g ps assign body=>
  simp only[codeOk,aLR]at hc;have hFw:F=Fence.wide:=by
   rcases Vw with q|q
   ·exact q
   ·simp[flat]at q
  subst hFw;simp only[dI]at h;split at h
  case h_2=>cases h
  rename_i f first cap hg
  split at h
  case h_2=>cases h
  rename_i v H2 xd;split at h
  case h_2=>cases h
  rename_i st nV Oq Ou OC b3 hl3;split at h
  ·cases h
  rename_i fZ;exact Kl V lN (fv:=.jF) hg xd fZ h hl3 hc.1.1.1 hc.1.1.2 hc.1.2 hc.2 hB Ja S hk
theorem AW(V:Valid E P)(O:Eg E P)(IW:∀rec,r8 E P rec->PG E P rec):∀n,r8 E P (dK E n)/\JJ E P (dK E n) n
 |0=>⟨fun _ _ _ _ _ _ h=>by simp[dK]at h,fun _ _ _ _ _ _ h=>by simp[dK]at h⟩
 |n+1=>Xo V O (AW V O IW n).1 (AW V O IW n).2 (IW _ (AW V O IW n).1)
end
section
variable{E:Env}{pc:Pc}{ic yc:Ic}{dr:Bool}{ts dx:List AV}{H H':Hp}{aL nid':Nat}{o:Oper}
theorem xH:∀(xs:List Operand),(∀x,x∈xs->cn ts x=cn dx x)->oa ts xs=oa dx xs
 |[],_=>rfl
 |x::xs,h=>by
  simp only[oa,h x (by simp),xH xs fun y hy=>h y (by simp[hy])]
theorem Ch:∀(ps:List (Nat×Operand)),(∀x,x∈ps.map (·.2)->cn ts x=cn dx x)->xT ts ps=xT dx ps
 |[],_=>rfl
 |(i,x)::ps,h=>by
  simp only[xT,h x (by simp),Ch ps fun y hy=>h y (by simp only[List.map_cons,aMc];exact .inr hy)]
theorem vY(x:Option Operand)(h:∀y,y∈x.toList->cn ts y=cn dx y):jd ts x=jd dx x:=by
 cases x with
 |none=>rfl
 |some x=>simp only[jd,h x (by simp)]
theorem TL(h:∀x,x∈o.op.operands.toList->cn ts x=cn dx x):eL E pc ic yc dr ts H aL o=eL E pc ic yc dr dx H aL o:=by
 unfold eL;cases ho:o.op<;>simp only[ho,Op.operands]at h⊢
 case move x=>rw[h x (by simp)]
 case assign x=>rw[h x (by simp)]
 case pick c a b=>
  rw[h c (by simp)]
  split
  ·split<;>rw[h _ (by simp)]
  ·rfl
 case box t x=>rw[h x (by simp)]
 case build t ps=>rw[Ch ps.toList (fun x hx=>h x (by simpa using hx))]
 case buildSlice t len ps=>rw[Ch ps.toList (fun x hx=>h x (by simpa using hx))]
 case load t x=>rw[h x (by simp)]
 case store t x y=>rw[h x (by simp),h y (by simp)]
 case nilCheck x=>rw[h x (by simp)]
 case binOp op t x y _=>rw[h x (by simp),h y (by simp)]
 case unOp op t x=>rw[h x (by simp)]
 case convert s d x=>rw[h x (by simp)]
 case makeInterface t x=>rw[h x (by simp)]
 case makeFunc fn first cap=>
  cases fn<;>try rfl
  simp only;rw[xH first.toList (fun x hx=>h x (by simp at hx⊢;exact .inl hx)),xH cap.toList (fun x hx=>h x (by simp at hx⊢;exact .inr hx))]
 case makeMap t r=>rw[vY r (fun x hx=>h x (by simpa using hx))]
 case makeSlice t x y=>rw[h x (by simp),h y (by simp)]
 case slice t x lo hi mx=>
  rw[h x (by simp),vY lo (fun x hx=>h x (by simp at hx⊢;simp[hx])),vY hi (fun x hx=>h x (by simp at hx⊢;simp[hx]))]
 case fieldAddr t x f=>rw[h x (by simp)]
 case field t x f=>rw[h x (by simp)]
 case indexAddr t x i=>rw[h x (by simp),h i (by simp)]
 case index t x i=>rw[h x (by simp),h i (by simp)]
 case lookup t x i ok=>rw[h x (by simp),h i (by simp)]
 case mapUpdate t m k x=>rw[h m (by simp),h k (by simp),h x (by simp)]
 case insert t m k x=>rw[h m (by simp),h k (by simp),h x (by simp)]
 case sliceToArrayPointer t x=>rw[h x (by simp)]
 case range t x=>rw[h x (by simp)]
 case next it s=>
  cases s<;>try rfl
  simp only;rw[h it (by simp)]
 case extract t i=>rw[h t (by simp)]
 case call c=>
  rw[xH c.args.toList (fun x hx=>h x (by simp only[Call.operands,aNg,aLV];exact .inr hx))];cases hc:c.callee with
  |builtin b=>rfl
  |invoke r m=>rfl
  |value f=>simp only;rw[h f (by simp[Call.operands,hc])]
theorem K6{b:Builtin}(h:b≠ .append)(eO:List Nat)(as:List AV):aV E H aL b eO as=aV E H nid' b eO as:=by
 unfold aV;cases b<;>first|exact absurd rfl h|skip
 all_goals rcases eO with _|⟨t,_|⟨u,r⟩⟩<;>rcases as with _|⟨x,_|⟨y,s⟩⟩<;>first|rfl|(cases x<;>rfl)
theorem Ej(h:cu E o=false):eL E pc ic yc dr ts H aL o=eL E pc ic yc dr ts H nid' o:=by
 unfold eL;unfold cu at h;cases ho:o.op<;>simp only[ho]at h⊢<;>try (cases h;done)
 case convert s d x=>
  split<;>rename_i h1<;>try rfl
  all_goals (simp[*]at h)
 case call c=>
  cases hc:c.callee with
  |invoke r m=>rfl
  |value f=>rfl
  |builtin b=>
   simp only[hc]at h;have hb:b≠ .append:=fun q=>by subst q;simp at h
   simp only
   split
   ·rw[K6 (aL:=aL) (nid':=nid') hb]
   ·rfl
 case makeFunc fn first cap=>cases fn<;>rfl
 case next it s=>cases s<;>rfl
theorem Qa{b:Builtin}(hb:b=.cap∨b=.max∨b=.min){eO:List Nat}{as:List AV}{y:AV}{l:List (Nat×cz)}(h:aV E H aL b eO as=some (y,l)):
  l=[]/\∀H' nid',aV E H' nid' b eO as=some (y,l):=by
 have key:∀{r:Option AV},(r.map fun v=>(v,([]:List (Nat×cz))))=some (y,l)->l=[]:=fun{r} h=>by
  rw[aKP]at h;obtain⟨_,_,q⟩:=h;cases q;rfl
 rcases hb with rfl|rfl|rfl
 ·rcases eO with _|⟨t,eO⟩
  ·cases h
  rcases as with _|⟨x,as⟩
  ·cases h
  cases x<;>try (cases h;done)
  have h':(match E.ty t with
   |some {cV:=.slice _,..}=>some (AV.int .i64 0,([]:List (Nat×cz)))
   |_=>none)=some (y,l):=h
  refine⟨?_,fun _ _=>h⟩;split at h'
  ·cases h';rfl
  ·cases h'
 ·rcases as with _|⟨x,as⟩
  ·rcases eO with _|⟨t,_|⟨u,r⟩⟩<;>cases h
  ·have e1:∀H aL,aV E H aL .max eO (x::as)=((wX Fq x as).map fun v=>(v,[])):=fun H aL=>by
    rcases eO with _|⟨t,_|⟨u,r⟩⟩<;>rcases as with _|⟨y,s⟩<;>cases x<;>rfl
   rw[e1]at h;exact⟨key h,fun _ _=>by rw[e1];exact h⟩
 ·rcases as with _|⟨x,as⟩
  ·rcases eO with _|⟨t,_|⟨u,r⟩⟩<;>cases h
  ·have e1:∀H aL,aV E H aL .min eO (x::as)=((wX SO x as).map fun v=>(v,[])):=fun H aL=>by
    rcases eO with _|⟨t,_|⟨u,r⟩⟩<;>rcases as with _|⟨y,s⟩<;>cases x<;>rfl
   rw[e1]at h;exact⟨key h,fun _ _=>by rw[e1];exact h⟩
theorem amP(hc:ka E o=.n){v:AV}{e:cE}(h:eL E pc ic yc dr ts H aL o=some (v,e)):e=.bU []/\∀H' nid',eL E pc ic yc dr ts H' nid' o=some (v,e):=by
 have key:∀{r:Option AV},(r.map fun x=>(x,cE.bU []))=some (v,e)->e=.bU []:=fun{r} h=>by
  rw[aKP]at h;obtain⟨_,_,q⟩:=h;cases q;rfl
 unfold eL at h;unfold ka at hc;unfold eL;cases ho:o.op<;>simp only[ho]at hc h⊢<;>try (cases hc;done)
 case move x=>exact⟨key h,fun _ _=>h⟩
 case assign x=>exact⟨key h,fun _ _=>h⟩
 case pick c a b=>
  split at h
  ·exact⟨key h,fun _ _=>h⟩
  ·cases h
 case build t ps=>
  split at h
  ·exact⟨key h,fun _ _=>h⟩
  ·cases h
 case nilCheck x=>
  split at h<;>first|exact⟨key h,fun _ _=>h⟩|(cases h;done)
 case binOp op t x y _=>
  split at h
  ·exact⟨key h,fun _ _=>h⟩
  ·cases h
 case unOp op t x=>
  split at h
  ·exact⟨key h,fun _ _=>h⟩
  ·cases h
 case makeInterface t x=>
  split at h
  ·split at h
   ·cases h
   ·exact⟨key h,fun _ _=>h⟩
  ·cases h
 case makeFunc fn first cap=>
  cases fn<;>simp only at h⊢<;>try (cases h;done)
  split at h
  ·exact⟨key h,fun _ _=>h⟩
  ·cases h
 case fieldAddr t x f=>
  split at h
  ·exact⟨key h,fun _ _=>h⟩
  ·cases h
 case field t x f=>
  split at h
  ·exact⟨key h,fun _ _=>h⟩
  ·cases h
 case indexAddr t x i=>
  split at h
  ·exact⟨key h,fun _ _=>h⟩
  ·cases h
 case index t x i=>
  split at h
  ·exact⟨key h,fun _ _=>h⟩
  ·cases h
 case sliceToArrayPointer t x=>
  split at h
  ·split at h
   ·cases h
   ·rename_i iH;rw[if_neg iH];exact⟨key h,fun _ _=>h⟩
  ·split at h
   ·cases h
   ·rename_i iH;rw[if_neg iH];exact⟨key h,fun _ _=>h⟩
  ·cases h
 case extract t i=>
  split at h
  ·exact⟨key h,fun _ _=>h⟩
  ·cases h
 case slice t x lo hi mx=>
  split at h
  ·split at h
   ·simp[*]at hc
   ·rename_i dY;refine⟨key h,fun _ _=>?_⟩;exact h
  ·cases h
 case convert s d x=>
  split at hc<;>cases hc
 case call c=>
  cases pU:c.callee with
  |invoke r m=>simp only[pU]at h;cases h
  |value f=>
   simp only[pU]at hc;cases f<;>simp only at hc<;>try (cases hc;done)
   split at hc<;>cases hc
  |builtin b=>
   simp only[pU]at h⊢;split at h
   case h_2=>cases h
   rename_i as has;rw[aKP]at h;obtain⟨⟨y,l⟩,h1,h2⟩:=h;cases h2;have hb:b=.cap∨b=.max∨b=.min:=by
    simp only[pU]at hc;cases b<;>simp at hc⊢
   obtain⟨g1,g2⟩:=Qa hb h1;subst g1;exact⟨rfl,fun H' nid'=>by rw[g2 H' nid'];rfl⟩
end
def td(H H':Hp)(b:Nat):Prop:=(H'[b]?).map cz.nL=(H[b]?).map cz.nL
section
variable{E:Env}{pc:Pc}{ic yc:Ic}{dr:Bool}{ts dx:List AV}{H H':Hp}{aL nid':Nat}{o:Oper}{b:Nat}
theorem td.cells(h:td H H' b){st:gu}{cs:List AV}(hb:H[b]?=some (.cells st cs))(hd:st≠ .dead):∃st',H'[b]?=some (.cells st' cs)/\st'≠ .dead:=by
 unfold td at h;rw[hb]at h;simp only[aLT,aKP]at h;obtain⟨k,h1,h2⟩:=h;cases k<;>cases st<;>simp only[cz.nL]at h2<;>try (exact absurd rfl hd)
 case cells.live st' vK=>cases st'<;>simp only[cz.cells.injEq,true_and]at h2<;>first|(subst h2;exact⟨_,h1,by simp⟩)|(cases h2.1)
 case cells.ro st' vK=>cases st'<;>simp only[cz.cells.injEq,true_and]at h2<;>first|(subst h2;exact⟨_,h1,by simp⟩)|(cases h2.1)
 case map.live st' a b=>cases st'<;>simp[]at h2
 case map.ro st' a b=>cases st'<;>simp[]at h2
 all_goals cases h2
theorem td.map(h:td H H' b){st:gu}{ks vs:List AV}(hb:H[b]?=some (.map st ks vs))(hd:st≠ .dead):∃st',H'[b]?=some (.map st' ks vs)/\st'≠ .dead:=by
 unfold td at h;rw[hb]at h;simp only[aLT,aKP]at h;obtain⟨k,h1,h2⟩:=h;cases k<;>cases st<;>simp only[cz.nL]at h2<;>try (exact absurd rfl hd)
 case map.live st' a b=>cases st'<;>simp only[cz.map.injEq,true_and]at h2<;>first|(obtain⟨rfl,rfl⟩:=h2;exact⟨_,h1,by simp⟩)|(cases h2.1)
 case map.ro st' a b=>cases st'<;>simp only[cz.map.injEq,true_and]at h2<;>first|(obtain⟨rfl,rfl⟩:=h2;exact⟨_,h1,by simp⟩)|(cases h2.1)
 case cells.live st' a=>cases st'<;>simp[]at h2
 case cells.ro st' a=>cases st'<;>simp[]at h2
 all_goals cases h2
theorem td.kT(h:td H H' b){s:List UInt8}{p:Nat}(hb:H[b]?=some (.kT s p)):H'[b]?=some (.kT s p):=by
 unfold td at h;rw[hb]at h;simp only[aLT,aKP]at h;obtain⟨k,h1,h2⟩:=h;cases k<;>simp only[cz.nL]at h2
 case cells st' a=>cases st'<;>simp[]at h2
 case map st' a b=>cases st'<;>simp[]at h2
 case kT=>rw[h1,h2]
 all_goals cases h2
theorem Q8{p:AV}{r:List AV×Nat}(hr:∀b,b∈fS p->td H H' b)(h:HP E H p=some r):HP E H' p=some r:=by
 unfold HP at h⊢;cases p<;>simp only at h⊢<;>try exact h
 case b9 b off=>
  split at h
  case h_2=>cases h
  rename_i st cs hb;split at h
  ·cases h
  rename_i hd;obtain⟨st',g1,g2⟩:=(hr b (by simp[fS])).cells hb hd;rw[g1];simp only[g2,if_false];exact h
theorem Bj{n:Nat}{x:AV}{r:List AV}(hr:∀b,b∈fS x->td H H' b)(h:kJ H n x=some r):kJ H' n x=some r:=by
 unfold kJ at h⊢;cases x<;>simp only at h⊢<;>try exact h
 case aI b off len e kc=>
  split at h
  ·cases h
  rename_i he;rw[if_neg he];split at h
  case h_2=>cases h
  rename_i st cs hb;split at h
  ·cases h
  rename_i hd;obtain⟨st',g1,g2⟩:=(hr b (by simp[fS])).cells hb (fun q=>hd (.inl q));rw[g1];simp only;rw[if_neg (by
   rintro(q|q)
   ·exact g2 q
   ·exact hd (.inr q))]
  exact h
theorem GL{x:AV}{r:List AV×List AV}(hr:∀b,b∈fS x->td H H' b)(h:FJ H x=some r):FJ H' x=some r:=by
 unfold FJ at h⊢;cases x<;>simp only at h⊢<;>try exact h
 case jt b=>
  split at h
  case h_2=>cases h
  rename_i st ks vs hb;split at h
  ·cases h
  rename_i hd;obtain⟨st',g1,g2⟩:=(hr b (by simp[fS])).map hb hd;rw[g1];simp only[g2,if_false];exact h
theorem LJ{t:Nat}{p v:AV}(hr:∀b,b∈fS p->td H H' b)(h:gT E H t p=some v):gT E H' t p=some v:=by
 unfold gT at h⊢;split at h
 case h_2=>cases h
 rename_i cs off hp;rw[Q8 hr hp];exact h
theorem Hl{t:Nat}{m k v:AV}{ok:Bool}(hr:∀b,b∈fS m->td H H' b)(h:gL E H t m k ok=some v):gL E H' t m k ok=some v:=by
 unfold gL at h⊢;split at h
 case h_2=>cases h
 split at h
 case h_2=>cases h
 rename_i ks vs hm;rw[GL hr hm];exact h
theorem JI{t:Nat}{x v:AV}(hr:∀b,b∈fS x->td H H' b)(h:rS E H t x=some v):rS E H' t x=some v:=by
 unfold rS at h⊢;split at h<;>try exact h
 rw[aKP]at h;obtain⟨r,h1,h2⟩:=h;rw[GL hr h1];simp only[aLT,aKV.injEq];exact h2
theorem Ef{t:Nat}{x v:AV}{lo hi:Option AV}(hr:∀b,b∈fS x->td H H' b)(h:jQ E H t x lo hi=some v):jQ E H' t x lo hi=some v:=by
 unfold jQ at h⊢;split at h
 case h_2=>cases h
 split at h
 case h_2=>cases h
 cases x<;>simp only at h⊢<;>try exact h
 case b9 b off=>
  split at h
  case h_2=>cases h
  rename_i st cs hb;split at h
  ·cases h
  rename_i hd;obtain⟨st',g1,g2⟩:=(hr b (by simp[fS])).cells hb (fun q=>hd (.inl q));rw[g1];simp only;rw[if_neg (by
   rintro(q|q)
   ·exact g2 q
   ·exact hd (.inr q))]
  exact h
theorem zW{f g:AV->Option (AV×List Nat)}{J:Nat->Prop}(hf:∀x r bs,f x=some (r,bs)->(∀b,b∈bs->J b)->g x=some (r,bs)):
  ∀(xs:List AV) (rs:List (AV×List Nat)),dP f xs=some rs->(∀b,b∈rs.flatMap (·.2)->J b)->dP g xs=some rs
 |[],rs,h,_=>h
 |x::xs,rs,h,hj=>by
  unfold dP at h⊢;split at h
  ·cases h
  rename_i y hy;split at h
  ·cases h
  rename_i ys hys;cases h;obtain⟨r,bs⟩:=y;rw[hf x r bs hy (fun b hb=>hj b (by simp[hb])),zW hf xs ys hys (fun b hb=>hj b (by
   rw[aMk];exact aNj _ hb))]
theorem EU:∀(n:Nat) (x r:AV) (bs:List Nat),fz H n x=some (r,bs)->(∀b,b∈bs->td H H' b)->fz H' n x=some (r,bs)
 |0,_,_,_,h,_=>by cases h
 |n+1,x,r,bs,h,hj=>by
  have hl:∀(cs:List AV) (q:List AV×List Nat),((dP (fz H n) cs).map fun r=>(r.map (·.1),r.flatMap (·.2)))=some q->(∀b,b∈q.2->td H H' b)->
    ((dP (fz H' n) cs).map fun r=>(r.map (·.1),r.flatMap (·.2)))=some q:=fun cs q h1 h2=>by
   rw[aKP]at h1;obtain⟨rs,g1,rfl⟩:=h1;rw[zW (fun x r bs=>EU n x r bs) cs rs g1 h2];rfl
  unfold fz at h⊢;simp only at h⊢;cases x<;>simp only at h⊢<;>try exact h
  case b9 b off=>
   split at h
   case h_2=>cases h
   rename_i st cs hb;split at h
   ·cases h
   rename_i hd;rw[aKP]at h;obtain⟨q,g1,g2⟩:=h;cases g2;obtain⟨st',k1,k2⟩:=(hj b (by simp)).cells hb hd;rw[k1];simp only[k2,if_false];rw[hl cs q g1 (fun c hc=>hj c (by simp[hc]))];rfl
  case aI b off len esz kc=>
   split at h
   case h_2=>cases h
   rename_i st cs hb;split at h
   ·cases h
   rename_i hd;rw[aKP]at h;obtain⟨q,g1,g2⟩:=h;cases g2;simp only[aLP,decide_eq_true_eq,not_or]at hd;obtain⟨st',k1,k2⟩:=(hj b (by simp)).cells hb hd.1;rw[k1];simp only;rw[if_neg (by simp only[aLP,decide_eq_true_eq,not_or];exact⟨k2,hd.2⟩)];rw[hl _ q g1 (fun c hc=>hj c (by simp[hc]))];rfl
  case jt b=>
   split at h
   case h_2=>cases h
   rename_i st ks vs hb;split at h
   ·cases h
   rename_i hd;split at h
   case h_2=>cases h
   rename_i k b1 v b2 g1 g2;cases h;obtain⟨st',k1,k2⟩:=(hj b (by simp)).map hb hd;rw[k1];simp only[k2,if_false];rw[hl _ _ g1 (fun c hc=>hj c (by simp at hc⊢;exact .inr (.inl hc))),hl _ _ g2 (fun c hc=>hj c (by simp at hc⊢;exact .inr (.inr hc)))]
  case agg cs=>
   rw[aKP]at h;obtain⟨q,g1,g2⟩:=h;cases g2;rw[hl cs q g1 hj];rfl
  case tuple cs=>
   rw[aKP]at h;obtain⟨q,g1,g2⟩:=h;cases g2;rw[hl cs q g1 hj];rfl
  case iface t v=>
   rw[aKP]at h;obtain⟨q,g1,g2⟩:=h;cases g2;rw[EU n v q.1 q.2 g1 hj];rfl
  case func f a c=>
   split at h
   case h_2=>cases h
   rename_i a' b1 c' b2 g1 g2;cases h;rw[hl _ _ g1 (fun c hc=>hj c (aNn _ hc)),hl _ _ g2 (fun c hc=>hj c (aNj _ hc))]
theorem Ht{vs r:List AV}{bs:List Nat}(h:bW H vs=some (r,bs))(hj:∀b,b∈bs->td H H' b):bW H' vs=some (r,bs):=by
 unfold bW at h⊢;split at h
 ·rename_i hp;rw[if_pos hp];exact h
 ·rename_i hp;rw[if_neg hp];split at h
  ·cases h
  rename_i rs hrs;cases h;rw[zW (fun x r bs=>EU 40 x r bs) vs rs hrs hj]
theorem IG{x:Operand}(hx:x∈o.op.operands.toList){v:AV}(hv:cn ts x=some v){b:Nat}(hb:b∈fS v):b∈nh ts o:=by
 unfold nh;rw[List.mem_flatMap];exact⟨x,hx,by rw[hv];exact hb⟩
theorem JN:∀{xs:List Operand} {vs:List AV},oa ts xs=some vs->∀v,v∈vs->∃x,x∈xs/\cn ts x=some v
 |[],vs,h,v,hv=>by
  simp only[oa,aKV.injEq]at h;subst h;simp at hv
 |x::xs,vs,h,v,hv=>by
  unfold oa at h;split at h
  ·cases h
  rename_i y hy;split at h
  ·cases h
  rename_i ys hys;cases h;rcases aMc.1 hv with rfl|hv
  ·exact⟨x,by simp,hy⟩
  ·obtain⟨z,h1,h2⟩:=JN hys v hv;exact⟨z,by simp[h1],h2⟩
theorem ar4(hc:ka E o=.r){v:AV}{e:cE}(h:eL E pc ic yc true ts H aL o=some (v,e)):
  (e=.bU []/\∀H',(∀b,b∈nh ts o->td H H' b)->eL E pc ic yc true ts H' aL o=some (v,e))∨
  ∃bs,(e=.looks bs∨e=.marks bs)/\∀H',(∀b,b∈bs->td H H' b)->eL E pc ic yc true ts H' aL o=some (v,e):=by
 have key:∀{r:Option AV},(r.map fun x=>(x,cE.bU []))=some (v,e)->e=.bU []/\r=some v:=fun{r} h=>by
  rw[aKP]at h;obtain⟨_,q1,q⟩:=h;cases q;exact⟨rfl,q1⟩
 unfold eL at h;unfold ka at hc;unfold eL;have Dq:∀(H':Hp),(∀b,b∈nh ts o->td H H' b)->∀x,x∈o.op.operands.toList->∀v,cn ts x=some v->∀b,b∈fS v->td H H' b:=
  fun H' hr x hx v hv b hb=>hr b (IG hx hv hb)
 cases ho:o.op<;>simp only[ho]at hc h⊢<;>try (cases hc;done)
 case load t x=>
  split at h
  case h_2=>cases h
  rename_i p hp;obtain⟨rfl,h1⟩:=key h;refine .inl ⟨rfl,fun H' hr=>?_⟩;rw[LJ (Dq H' hr x (by simp[ho,Op.operands]) p hp) h1];rfl
 case lookup t x i ok=>
  split at h
  case h_2=>cases h
  rename_i m k hm hk;obtain⟨rfl,h1⟩:=key h;refine .inl ⟨rfl,fun H' hr=>?_⟩;rw[Hl (Dq H' hr x (by simp[ho,Op.operands]) m hm) h1];rfl
 case slice t x lo hi mx=>
  split at h
  case h_2=>cases h
  rename_i a l hh hx _ _;split at h
  ·obtain⟨rfl,h1⟩:=key h;refine .inl ⟨rfl,fun H' hr=>?_⟩;rw[Ef (Dq H' hr x (by simp[ho,Op.operands]) a hx) h1];rfl
  ·obtain⟨rfl,h1⟩:=key h;exact .inl ⟨rfl,fun H' hr=>h⟩
 case convert s d x=>
  split at h
  ·simp[*]at hc
  ·rename_i z1 hx q1 q2;split at h
   case h_2=>cases h
   rename_i cs hty sd;obtain⟨rfl,h1⟩:=key h;refine .inl ⟨rfl,fun H' hr=>?_⟩;rw[Bj (Dq H' hr x (by simp[ho,Op.operands]) _ ‹_›) sd,hty];exact h
  ·obtain⟨rfl,h1⟩:=key h;exact .inl ⟨rfl,fun H' hr=>h⟩
  ·cases h
 case call c=>
  cases pU:c.callee with
  |invoke r m=>simp only[pU]at h;cases h
  |builtin bi=>
   simp only[pU]at hc h⊢;cases bi<;>simp only at hc<;>try (cases hc;done)
   split at h
   case h_2=>cases h
   rename_i as has;rw[aKP]at h;obtain⟨⟨y,l⟩,h1,h2⟩:=h;cases h2;rcases vE:c.argTypes.toList with _|⟨t,eO⟩
   ·rw[vE]at h1;rcases as with _|⟨x,as⟩<;>cases h1
   rw[vE]at h1;rcases as with _|⟨x,as⟩
   ·rcases eO with _|⟨u,r⟩<;>cases h1
   have e1:∀H aL,aV E H aL .len (t::eO) (x::as)=((rS E H t x).map fun v=>(v,[])):=fun H aL=>by
    rcases eO with _|⟨u,r⟩<;>rcases as with _|⟨y,s⟩<;>cases x<;>rfl
   rw[e1,aKP]at h1;obtain⟨z,g1,g2⟩:=h1;cases g2;refine .inl ⟨rfl,fun H' hr=>?_⟩;obtain⟨xo,k1,k2⟩:=JN has x (by simp)
   have:=JI (Dq H' hr xo (by rw[ho];simp only[Op.operands,Call.operands,aNg,aLV];exact .inr k1) x k2) g1
   rw[e1,this];rfl
  |value f=>
   simp only[pU]at hc h⊢;cases f<;>simp only at hc<;>try (cases hc;done)
   rename_i f;split at h
   case h_2=>cases h
   rename_i fv as hfv has;simp only[cn,aKV.injEq]at hfv;subst hfv;have main:∀(h:(match bW H as with
     |some (as,bs)=>(pc f as).map fun v=>(v,if bR v then cE.looks bs else cE.marks bs)
     |none=>none)=some (v,e)),∃bs,(e=.looks bs∨e=.marks bs)/\∀H',(∀b,b∈bs->td H H' b)->(match bW H' as with
     |some (as,bs)=>(pc f as).map fun v=>(v,if bR v then cE.looks bs else cE.marks bs)
     |none=>none)=some (v,e):=fun h=>by
    split at h
    case h_2=>cases h
    rename_i as' bs gg;rw[aKP]at h;obtain⟨r,g1,g2⟩:=h;cases g2;refine⟨bs,?_,fun H' hr=>?_⟩
    ·by_cases Av:bR v=true
     ·exact .inl (by simp[Av])
     ·exact .inr (by simp[Av])
    ·rw[Ht gg hr];simp only;rw[g1];rfl
   unfold pA at h⊢;simp only[List.nil_append,List.append_nil]at h⊢;right
   rcases jE:E.fn f with _|⟨code,nt,rs,p,d⟩
   ·rw[jE]at h;exact main h
   ·rw[jE]at h hc;cases p
    ·cases d
     ·cases hc
     ·exact main h
    ·exact main h
end
section
variable{E:Env}{pc:Pc}{ic yc:Ic}{dr:Bool}{ts dx:List AV}{H H':Hp}{aL nid':Nat}{o:Oper}{b:Nat}
def mJ(H:Hp)(aL:Nat)(l:List (Nat×cz)):Prop:=∀p,p∈l->p.2≠eP/\(p.1=aL∨∃eN,H[p.1]?=some eN/\eN.st=.live)
theorem mJ.new{eN:cz}(h:eN.st=.live):mJ H aL [(aL,eN)]:=fun p hp=>by
 simp only[aMh]at hp;subst hp
 exact⟨fun q=>(by rw[show eN=eP from q]at h;cases h),.inl rfl⟩
theorem mJ.nil:mJ H aL []:=fun p hp=>by simp at hp
theorem mJ.one{k:Nat}{eN blk':cz}(h:eN.st=.live)(hk:H[k]?=some blk')(hl:blk'.st=.live):mJ H aL [(k,eN)]:=fun p hp=>by
 simp only[aMh]at hp;subst hp
 exact⟨fun q=>(by rw[show eN=eP from q]at h;cases h),.inr ⟨blk',hk,hl⟩⟩
theorem J2{t:Nat}{p x:AV}{l:List (Nat×cz)}(h:iO E H t p x=some l):mJ H aL l/\∀H',(∀q,q∈l->H'[q.1]?=H[q.1]?)->iO E H' t p x=some l:=by
 unfold iO at h;split at h
 case h_2=>cases h
 rename_i b off i hi;split at h
 case h_2=>cases h
 rename_i cs hb;split at h
 ·cases h
 rename_i hc;cases h;refine⟨.one rfl hb rfl,fun H' hw=>?_⟩;unfold iO;rw[hi];simp only;rw[hw _ (aMh.2 rfl),hb];simp only;rw[if_neg hc]
theorem tU{t:Nat}{m k x:AV}{l:List (Nat×cz)}(h:fP E H t m k x=some l):mJ H aL l/\∀H',(∀q,q∈l->H'[q.1]?=H[q.1]?)->fP E H' t m k x=some l:=by
 have h0:=h;unfold fP at h;split at h
 case h_2=>cases h
 rename_i kt et _ _ _ _ _ b hi;split at h
 case h_2=>cases h
 rename_i ks vs hb;have main:(∃eN:cz,eN.st=.live/\l=[(b,eN)])->mJ H aL l/\∀H',(∀q,q∈l->H'[q.1]?=H[q.1]?)->fP E H' t (.jt b) k x=some l:=by rintro⟨eN,hl,rfl⟩;refine⟨.one hl hb rfl,fun H' hw=>?_⟩;unfold fP at h0⊢;rw[hi]at h0⊢;simp only at h0⊢;rw[hw (b,eN) (by simp)];exact h0
 split at h
 ·cases h
 split at h
 ·split at h
  ·split at h
   ·cases h;exact main ⟨_,rfl,rfl⟩
   ·cases h
  ·cases h
 ·cases h;exact main ⟨_,rfl,rfl⟩
 ·cases h
theorem Fl{n:Nat}{x:AV}{r:List AV}(hr:∀b,b∈fS x->td H H' b)(h:sV H n x=some r):sV H' n x=some r:=by
 unfold sV at h⊢;split at h
 ·exact h
 ·exact Bj hr h
theorem Pj{ei:Bn}{x:AV}{r:Nat×List AV}(hr:∀b,b∈fS x->td H H' b)(h:vD H ei false x=some r):vD H' ei false x=some r:=by
 unfold vD at h⊢;simp only[aKT,if_false]at h⊢;split at h
 case h_2=>cases h
 rename_i n xs h1 h2;rw[h1,Fl hr h2];exact h
theorem Hz{t:Nat}{s x v:AV}{l:List (Nat×cz)}(h:fQ E H aL false t s x=some (v,l)):
  mJ H aL l/\∀H',(∀b,b∈fS x->td H H' b)->(∀q,q∈l->H'[q.1]?=H[q.1]?)->fQ E H' aL false t s x=some (v,l):=by
 unfold fQ at h;split at h
 case h_2=>cases h
 rename_i e _ _ _ _ _ ht;split at h
 case h_2=>cases h
 rename_i ei he;split at h
 case h_2=>cases h
 rename_i n xs uO;have red:∀H',(∀b,b∈fS x->td H H' b)->fQ E H' aL false t s x=
   (if n=0 then(match s with|.aH|.eW|.aI .. |.aK .. =>some (s,[])|_=>none)else
    if ei.size=0||!xs.all df||ei.zero.isNone then none else
    match s with
    |.aH=>
     if n*ei.bytes<=gO/\n<=4611686018427387904 then some (.aI aL 0 n ei.size n,[(aL,.cells .live xs)])else none
    |.aI b off len esz kc=>match H'[b]? with
     |some (.cells .live cs)=>
      if len+n<=kc then(if esz=ei.size/\off+(len+n)*esz<=cs.length then
       some (.aI b off (len+n) esz kc,[(b,.cells .live (cH cs (off+len*esz) xs))])else none)else
      if esz=ei.size/\off+len*esz<=cs.length/\(len+n)*ei.bytes<=gO/\len+n<=4611686018427387904 then
       some (.aI aL 0 (len+n) esz (len+n),[(b,.cells .dead []),(aL,.cells .live ((cs.drop off).take (len*esz)++xs))])
      else none
     |_=>none
    |_=>none):=fun H' hr=>by
  unfold fQ;rw[ht];simp only;rw[he];simp only;rw[Pj hr uO];cases s<;>rfl
 split at h
 ·rename_i hn;have hl:l=[]:=by
   split at h<;>first|(cases h;rfl)|cases h
  subst hl;refine⟨.nil,fun H' hr _=>?_⟩;rw[red H' hr,if_pos hn,<-h];cases s<;>rfl
 rename_i hn;split at h
 ·cases h
 rename_i hc;cases s<;>simp only at h<;>try (cases h;done)
 case aH=>
  have hl:l=[(aL,.cells .live xs)]:=by
   split at h
   ·cases h;rfl
   ·cases h
  subst hl;refine⟨.new rfl,fun H' hr _=>?_⟩;rw[red H' hr,if_neg hn,if_neg hc];exact h
 case aI b off len esz kc=>
  split at h
  case h_2=>cases h
  rename_i cs hb;have fin:∀eN,(b,eN)∈l->∀H',(∀b,b∈fS x->td H H' b)->(∀q,q∈l->H'[q.1]?=H[q.1]?)->fQ E H' aL false t (.aI b off len esz kc) x=some (v,l):=by intro eN hm H' hr hw;rw[red H' hr,if_neg hn,if_neg hc];simp only;rw[hw (b,eN) hm,hb];exact h
  split at h
  ·split at h
   ·cases h;exact⟨.one rfl hb rfl,fin _ (aMh.2 rfl)⟩
   ·cases h
  ·split at h
   ·cases h;refine⟨fun p hp=>?_,fin (.cells .dead []) (by simp)⟩;simp only[aMc,List.not_mem_nil,or_false]at hp;rcases hp with rfl|rfl
    ·exact⟨by simp[eP],.inr ⟨_,hb,rfl⟩⟩
    ·exact⟨by simp[eP],.inl rfl⟩
   ·cases h
theorem Bc{t:Nat}{s x v:AV}{l:List (Nat×cz)}(h:nI E aL t s x=some (v,l)):mJ H aL l:=by
 unfold nI at h;split at h
 case h_2=>cases h
 split at h
 case h_2=>cases h
 split at h
 case h_2=>cases h
 split at h
 ·cases h;exact .new rfl
 ·cases h
theorem MA{t:Nat}{d x v:AV}{l:List (Nat×cz)}(h:AG E H t d x=some (v,l)):
  mJ H aL l/\∀H',(∀b,b∈fS x->td H H' b)->(∀q,q∈l->H'[q.1]?=H[q.1]?)->AG E H' t d x=some (v,l):=by
 unfold AG at h;split at h
 case h_2=>cases h
 rename_i e _ _ _ _ _ ht;split at h
 case h_2=>cases h
 rename_i ei he;split at h
 case h_2=>cases h
 rename_i dn xn xs h1 h2 h3;have red:∀d',d'=d->∀H',(∀b,b∈fS x->td H H' b)->AG E H' t d x=
   (let n:=min xn dn
    if n=0 then(match d' with|.aH|.eW|.aI .. =>some (.int .i64 0,[])|_=>none)else
    match d' with
    |.aI b off _ esz _=>match H'[b]? with
     |some (.cells .live cs)=>
      if esz=ei.size/\off+n*esz<=cs.length/\xs.all df then
       some (.int .i64 n,[(b,.cells .live (cH cs off (xs.take (n*esz))))])
      else none
     |_=>none
    |_=>none):=fun d' hd H' hr=>by
  subst hd;unfold AG;rw[ht];simp only;rw[he];simp only;rw[h1,h2,Fl hr h3];cases d'<;>rfl
 simp only at h red;split at h
 ·rename_i hn;have hl:l=[]:=by
   split at h<;>first|(cases h;rfl)|cases h
  subst hl;refine⟨.nil,fun H' hr _=>?_⟩;rw[red d rfl H' hr,if_pos hn,<-h];cases d<;>rfl
 rename_i hn;cases d<;>simp only at h<;>try (cases h;done)
 case aI b off len esz kc=>
  split at h
  case h_2=>cases h
  rename_i cs hb;split at h
  case isFalse=>cases h
  rename_i hc;cases h;refine⟨.one rfl hb rfl,fun H' hr hw=>?_⟩;rw[red _ rfl H' hr,if_neg hn];simp only;rw[hw _ (aMh.2 rfl),hb];simp only;rw[if_pos hc]
theorem afW(hc:ka E o=.s){v:AV}{e:cE}(h:eL E pc ic yc true ts H aL o=some (v,e)):
  ∃l,e=.bU l/\mJ H aL l/\∀H',(∀b,b∈nh ts o->td H H' b)->(∀q,q∈l->H'[q.1]?=H[q.1]?)->eL E pc ic yc true ts H' aL o=some (v,e):=by
 have key:∀{r:Option (AV×List (Nat×cz))},(r.map fun x=>(x.1,cE.bU x.2))=some (v,e)->∃l,e=.bU l/\r=some (v,l):=fun{r} h=>by
  rw[aKP]at h;obtain⟨⟨a,l⟩,q1,q⟩:=h;cases q;exact⟨l,rfl,q1⟩
 have ahm:∀{r:Option (List (Nat×cz))},(r.map fun l=>(aZ,cE.bU l))=some (v,e)->∃l,e=.bU l/\v=aZ/\r=some l:=fun{r} h=>by
  rw[aKP]at h;obtain⟨l,q1,q⟩:=h;cases q;exact⟨l,rfl,rfl,q1⟩
 have Jz:∀{r:Option (AV×List (Nat×cz))},(r.map fun x=>(x.1,cE.bU x.2))=some (v,e)->(∀a l,r=some (a,l)->mJ H aL l)->∃l,e=.bU l/\mJ H aL l:=fun{r} h hk=>by
  obtain⟨l,h1,h2⟩:=key h;exact⟨l,h1,hk _ _ h2⟩
 have Dq:∀(H':Hp),(∀b,b∈nh ts o->td H H' b)->∀x,x∈o.op.operands.toList->∀v,cn ts x=some v->∀b,b∈fS v->td H H' b:=
  fun H' hr x hx v hv b hb=>hr b (IG hx hv hb)
 unfold eL at h;unfold ka at hc;unfold eL;cases ho:o.op<;>simp only[ho]at hc h⊢<;>try (cases hc;done)
 case alloc t=>
  obtain⟨l,h1,h2⟩:=Jz h (fun a l q=>by
   rw[aKP]at q;obtain⟨_,_,q⟩:=q;cases q;exact .new rfl)
  exact⟨l,h1,h2,fun _ _ _=>h⟩
 case box t x=>
  obtain⟨l,h1,h2⟩:=Jz h (fun a l q=>by
   rw[aKP]at q;obtain⟨_,_,q⟩:=q;cases q;exact .new rfl)
  exact⟨l,h1,h2,fun _ _ _=>h⟩
 case buildSlice t len ps=>
  split at h
  case h_2=>cases h
  split at h
  case h_2=>cases h
  split at h
  case h_2=>cases h
  split at h
  case isFalse=>cases h
  rename_i uf;obtain⟨l,h1,h2⟩:=Jz h (fun a l q=>by
   rw[aKP]at q;obtain⟨_,_,q⟩:=q;cases q;exact .new rfl)
  exact⟨l,h1,h2,fun _ _ _=>by rw[if_pos uf];exact h⟩
 case makeMap t r=>
  split at h
  ·obtain⟨l,h1,h2⟩:=Jz h (fun a l q=>by cases q;exact .new rfl);exact⟨l,h1,h2,fun _ _ _=>h⟩
  ·obtain⟨l,h1,h2⟩:=Jz h (fun a l q=>by cases q;exact .new rfl);exact⟨l,h1,h2,fun _ _ _=>h⟩
  ·cases h
 case makeSlice t x y=>
  split at h
  case h_2=>cases h
  obtain⟨l,h1,h2⟩:=Jz h (fun a l q=>by
   unfold fM at q;split at q
   case h_2=>cases q
   split at q
   case h_2=>cases q
   split at q
   case h_2=>cases q
   split at q
   ·cases q;exact .new rfl
   ·cases q)
  exact⟨l,h1,h2,fun _ _ _=>h⟩
 case range t x=>
  split at h
  case h_2=>cases h
  obtain⟨l,h1,h2⟩:=Jz h (fun a l q=>by cases q;exact .new rfl);exact⟨l,h1,h2,fun _ _ _=>h⟩
 case convert s d x=>
  split at h
  ·split at h
   ·obtain⟨l,h1,h2⟩:=Jz h (fun a l q=>by cases q;exact .new rfl);exact⟨l,h1,h2,fun _ _ _=>h⟩
   ·cases h
  ·simp[*]at hc
  ·rename_i z hx q1 q2 q3;rw[aKP]at h;obtain⟨y,h1,h2⟩:=h;cases h2;exact⟨[],rfl,.nil,fun _ _ _=>by rw[h1];rfl⟩
  ·cases h
 case next it s=>
  cases s
  ·cases h
  simp only at h⊢;split at h
  case h_2=>cases h
  rename_i i hit;split at h
  case h_2=>cases h
  rename_i z pos hi;have fin:∀H',(∀b,b∈nh ts o->td H H' b)->H'[i]?=some (.kT z pos):=fun H' hr=>
   (Dq H' hr it (by simp[ho,Op.operands]) _ hit i (by simp[fS])).kT hi
  split at h
  ·rename_i hp;obtain⟨l,h1,h2⟩:=Jz h (fun a l q=>by cases q;exact .one rfl hi rfl);exact⟨l,h1,h2,fun H' hr _=>by rw[fin H' hr];simp only;rw[if_pos hp];exact h⟩
  ·rename_i hp;have h':=h;simp only[aLT,aKV.injEq,Prod.mk.injEq]at h';exact⟨[],h'.2.symm,.nil,fun H' hr _=>by rw[fin H' hr];simp only;rw[if_neg hp];exact h⟩
 case store t p x=>
  split at h
  case h_2=>cases h
  rename_i a z hp hx;obtain⟨l,rfl,rfl,h2⟩:=ahm h;obtain⟨g1,g2⟩:=J2 (aL:=aL) h2;exact⟨l,rfl,g1,fun H' hr hw=>by rw[g2 H' hw];rfl⟩
 case mapUpdate t m k x=>
  split at h
  case h_2=>cases h
  rename_i a b c hp hx hy;obtain⟨l,rfl,rfl,h2⟩:=ahm h;obtain⟨g1,g2⟩:=tU (aL:=aL) h2;exact⟨l,rfl,g1,fun H' hr hw=>by rw[g2 H' hw];rfl⟩
 case insert t m k x=>
  split at h
  case h_2=>cases h
  rename_i a b c hp hx hy;obtain⟨l,rfl,rfl,h2⟩:=ahm h;obtain⟨g1,g2⟩:=tU (aL:=aL) h2;exact⟨l,rfl,g1,fun H' hr hw=>by rw[g2 H' hw];rfl⟩
 case slice t x lo hi mx=>
  split at hc<;>cases hc
 case call c=>
  cases pU:c.callee with
  |invoke r m=>simp only[pU]at h;cases h
  |value f=>
   simp only[pU]at hc;cases f<;>simp only at hc<;>try (cases hc;done)
   split at hc<;>cases hc
  |builtin bi=>
   simp only[pU]at hc h⊢;split at h
   case h_2=>cases h
   rename_i as has;obtain⟨l,rfl,h1⟩:=key h;have aro:∀H',(∀b,b∈nh ts o->td H H' b)->∀x,x∈as->∀b,b∈fS x->td H H' b:=fun H' hr x hx=>by
    obtain⟨xo,k1,k2⟩:=JN has x hx;exact Dq H' hr xo (by rw[ho];simp only[Op.operands,Call.operands,aNg,aLV];exact .inr k1) x k2
   cases bi<;>simp only at hc<;>try (cases hc;done)
   case append=>
    rcases vE:c.argTypes.toList with _|⟨t,_|⟨u,eO⟩⟩
    ·rw[vE]at h1;rcases as with _|⟨x,_|⟨y,as⟩⟩<;>cases h1
    ·rw[vE]at h1;rcases as with _|⟨x,_|⟨y,as⟩⟩<;>cases h1
    rw[vE]at h1;rcases as with _|⟨s,_|⟨x,as⟩⟩
    ·cases h1
    ·cases h1
    have e1:∀H,aV E H aL .append (t::u::eO) (s::x::as)=(match E.ty u with
     |some {cV:=.int _,..}=>nI E aL t s x
     |some _=>fQ E H aL false t s x
     |none=>none):=fun H=>rfl
    rw[e1]at h1;split at h1
    ·rename_i hu;refine⟨l,rfl,Bc h1,fun H' hr hw=>?_⟩;rw[e1,hu];simp only;rw[h1];rfl
    ·rename_i ui dY hu;obtain⟨g1,g2⟩:=Hz h1;refine⟨l,rfl,g1,fun H' hr hw=>?_⟩;rw[e1]
     split
     ·rename_i hu2;exact absurd (hu.symm.trans hu2) (by intro q;injection q with q;exact dY _ _ _ _ _ _ q)
     ·rw[g2 H' (aro H' hr x (by simp)) hw];rfl
     ·rename_i hu2;rw[hu]at hu2;cases hu2
    ·cases h1
   case copy=>
    rcases vE:c.argTypes.toList with _|⟨t,eO⟩
    ·rw[vE]at h1;rcases as with _|⟨x,_|⟨y,as⟩⟩<;>cases h1
    rw[vE]at h1;rcases as with _|⟨d,_|⟨x,as⟩⟩
    ·rcases eO with _|⟨u,r⟩<;>cases h1
    ·rcases eO with _|⟨u,r⟩<;>cases d<;>cases h1
    have e1:∀H,aV E H aL .copy (t::eO) (d::x::as)=AG E H t d x:=fun H=>by
     rcases eO with _|⟨u,r⟩<;>cases d<;>rfl
    rw[e1]at h1;obtain⟨g1,g2⟩:=MA (aL:=aL) h1;refine⟨l,rfl,g1,fun H' hr hw=>?_⟩;rw[e1,g2 H' (aro H' hr x (by simp)) hw];rfl
end
section
variable{E:Env}{pc:Pc}{ic yc:Ic}{dr:Bool}{ts dx:List AV}{H H':Hp}{aL nid':Nat}{o:Oper}{b:Nat}
def od(H:Hp)(l:List (Nat×cz)):Hp:=l.foldl (fun H p=>eE H p.1 p.2) H
theorem kD{k:Nat}{x:cz}(h:k<H.length):eE H k x=H.set k x:=by simp[eE,h]
theorem A4:∀(l:List (Nat×cz)) (H:Hp),(∀p,p∈l->p.1<H.length)->(od H l).length=H.length
 |[],_,_=>rfl
 |p::l,H,h=>by
  simp only[od,aMa];rw[kD (h p (by simp))]
  have:=A4 l (H.set p.1 p.2) (fun q hq=>by simpa using h q (by simp[hq]))
  simp only[od]at this;rw[this];simp
theorem kK:∀(l:List (Nat×cz)) (H:Hp) (b:Nat),(∀p,p∈l->p.1<H.length)->(∀p,p∈l->p.1≠b)->(od H l)[b]?=H[b]?
 |[],_,_,_,_=>rfl
 |p::l,H,b,h,hb=>by
  simp only[od,aMa];rw[kD (h p (by simp))]
  have:=kK l (H.set p.1 p.2) b (fun q hq=>by simpa using h q (by simp[hq])) (fun q hq=>hb q (by simp[hq]))
  simp only[od]at this;rw[this,aNh (hb p (by simp))]
theorem NI:∀(l:List (Nat×cz)) (H:Hp) (b:Nat),(∀p,p∈l->p.1<H.length)->(od H l)[b]?=H[b]?∨∃x,(b,x)∈l/\(od H l)[b]?=some x
 |[],_,_,_=>.inl rfl
 |p::l,H,b,h=>by
  have hl:∀q,q∈l->q.1<(H.set p.1 p.2).length:=fun q hq=>by simpa using h q (by simp[hq])
  have e:od H (p::l)=od (H.set p.1 p.2) l:=by simp only[od,aMa];rw[kD (h p (by simp))]
  rw[e];rcases NI l (H.set p.1 p.2) b hl with g|⟨x,g1,g2⟩
  ·by_cases hb:p.1=b
   ·right
    refine⟨p.2,by subst hb;simp,?_⟩;rw[g,<-hb,aNl (h p (by simp))]
   ·left;rw[g,aNh hb]
  ·exact .inr ⟨x,by simp[g1],g2⟩
theorem xV:∀(l:List (Nat×cz)) (H H':Hp) (b:Nat),H.length=H'.length->(∀p,p∈l->p.1<H.length)->(H[b]?=H'[b]?∨∃x,(b,x)∈l)->(od H l)[b]?=(od H' l)[b]?
 |[],_,_,_,_,_,h=>by
  rcases h with h|⟨x,h⟩
  ·exact h
  ·simp at h
 |p::l,H,H',b,hlen,hl,h=>by
  have e:∀(H:Hp),p.1<H.length->od H (p::l)=od (H.set p.1 p.2) l:=fun H hp=>by simp only[od,aMa];rw[kD hp]
  rw[e H (hl p (by simp)),e H' (by have:=hl p (by simp);omega)];refine xV l _ _ b (by simpa using hlen) (fun q hq=>by simpa using hl q (by simp[hq])) ?_;by_cases hb:p.1=b
  ·left
   have:=hl p (by simp)
   subst hb;rw[aNl this,aNl (by omega)]
  ·rw[aNh hb,aNh hb];rcases h with h|⟨x,h⟩
   ·exact .inl h
   ·rcases aMc.1 h with h|h
    ·exact absurd (by rw[<-h]) hb
    ·exact .inr ⟨x,h⟩
theorem Vj{l m:List (Nat×cz)}(hl:∀p,p∈l->p.1<H.length)(hm:∀p,p∈m->p.1<H.length)(hd:∀p,p∈l->∀q,q∈m->p.1≠q.1):
  od (od H l) m=od (od H m) l:=by
 have l1:=A4 l H hl;have m1:=A4 m H hm;apply aMj;intro b;by_cases hb:∃x,(b,x)∈m
 ·obtain⟨x,hx⟩:=hb
  have:∀p,p∈l->p.1≠b:=fun p hp=>hd p hp (b,x) hx
  rw[kK l (od H m) b (by rw[m1];exact hl) this];exact xV m _ _ b l1 (by rw[l1];exact hm) (.inr ⟨x,hx⟩)
 ·have hn:∀p,p∈m->p.1≠b:=fun p hp q=>hb ⟨p.2,by rw[<-q];exact hp⟩
  rw[kK m (od H l) b (by rw[l1];exact hm) hn];exact xV l _ _ b m1.symm hl (.inl (kK m H b hm hn).symm)
theorem Um(l m:List Nat):mark (mark H l) m=mark (mark H m) l:=by
 apply aMj;intro b;simp only[ik];by_cases h1:b∈l<;>by_cases h2:b∈m<;>simp[h1,h2]
theorem Jn{l:List (Nat×cz)}{m:List Nat}(hl:∀p,p∈l->p.1<H.length)(hd:∀p,p∈l->p.1∉m):mark (od H l) m=od (mark H m) l:=by
 apply aMj;intro b;rw[ik];have ml:(mark H m).length=H.length:=lX m H;by_cases hb:∃x,(b,x)∈l
 ·obtain⟨x,hx⟩:=hb;rw[if_neg (hd _ hx)];exact xV l _ _ b ml.symm hl (.inr ⟨x,hx⟩)
 ·have hn:∀p,p∈l->p.1≠b:=fun p hp q=>hb ⟨p.2,by rw[<-q];exact hp⟩
  rw[kK l H b hl hn,kK l (mark H m) b (by rw[ml];exact hl) hn,ik]
theorem TE(k:cz):k.nL.nL=k.nL:=by
 cases k
 case cells st c=>cases st<;>rfl
 case map st a b=>cases st<;>rfl
 all_goals rfl
theorem Mv(l:List Nat)(b:Nat):td (mark H l) H b/\td H (mark H l) b:=by
 have:(mark H l)[b]?.map cz.nL=H[b]?.map cz.nL:=by
  rw[ik]
  split
  ·rw[Option.map_map];congr 1;funext k;exact TE k
  ·rfl
 exact⟨this.symm,this⟩
theorem T5{k:cz}(h:k.nL=eP):k=eP:=by
 cases k
 case cells st c=>cases st<;>simp[cz.nL,eP]at h⊢;exact h
 case map st a b=>cases st<;>simp[cz.nL,eP]at h
 all_goals cases h
theorem IK{l:List Nat}:(mark H l)[b]?=some eP↔H[b]?=some eP:=by
 rw[ik]
 split
 ·rw[aKP];constructor
  ·rintro⟨k,h1,h2⟩;rw[h1,T5 h2]
  ·intro h;exact⟨_,h,rfl⟩
 ·rfl
theorem nH{x:Option cz}:mD x=true↔x=some eP:=by
 unfold mD eP aZ
 split
 ·simp
 ·rename_i h;simp only[aKT,false_iff];exact fun q=>h q
theorem zD{a b:List Nat}:zN a b=true↔∀x,x∈a->x∉b:=by simp[zN]
theorem S7{dst:Option Nat}{v:AV}{x:Operand}(h:∀d,dst=some d->x≠ .tmp d):cn (bK dst v ts) x=cn ts x:=by
 cases dst with
 |none=>rfl
 |some d=>
  cases x with
  |tmp t=>
   have:t≠d:=fun q=>h d rfl (by rw[q])
   simp only[cn,bK];rw[aNh (fun q=>this q.symm)]
  |_=>rfl
theorem Ip{ops:Array Oper}{d:Nat}(h:Operand.tmp d∈o.op.operands.toList):d∈o.looksAt ops:=
 aNn _ (List.mem_filterMap.2 ⟨.tmp d,h,rfl⟩)
theorem abp{ops:Array Oper}{dst:Option Nat}{u:AV}(h:∀d,dst=some d->d∉o.looksAt ops):eL E pc ic yc dr (bK dst u ts) H aL o=eL E pc ic yc dr ts H aL o:=
 TL fun x hx=>S7 fun d hd q=>h d hd (Ip (by rw[<-q];exact hx))
theorem Tv{ops:Array Oper}{dst:Option Nat}{u:AV}(h:∀d,dst=some d->d∉o.looksAt ops):nh (bK dst u ts) o=nh ts o:=by
 unfold nh
 have:∀(l:List Operand),(∀x,x∈l->x∈o.op.operands.toList)->(l.flatMap fun x=>match cn (bK dst u ts) x with|some v=>fS v|none=>[])=(l.flatMap fun x=>match cn ts x with|some v=>fS v|none=>[]):=by
  intro l;induction l with
  |nil=>intro _;rfl
  |cons x l ih=>
   intro hl;rw[aMk,aMk,ih (fun y hy=>hl y (by simp[hy]))];rw[S7 fun d hd q=>h d hd (Ip (by rw[<-q];exact hl x (by simp)))]
 exact this _ (fun _ h=>h)
theorem BU{ops:Array Oper}{dst:Option Nat}{u:AV}{e:cE}(h:∀d,dst=some d->d∉o.looksAt ops):bH E (bK dst u ts) o e=bH E ts o e:=by unfold bH;rw[Tv h]
theorem M6{ops:Array Oper}{dst:Option Nat}{u:AV}(h:∀d,dst=some d->d∉o.looksAt ops):b6 ops.toList (bK dst u ts) o=b6 ops.toList ts o:=by
 unfold b6
 split
 ·rfl
 ·rename_i j want hg
  split
  ·rfl
  ·rename_i d hd;cases dst with
   |none=>rfl
   |some d'=>
    have:d'≠d:=fun q=>h d' rfl (by
     unfold Oper.looksAt;rw[hg];refine aNj _ ?_;simp only[aKX]at hd;simp[hd,q])
    simp only[bK];rw[aNh this]
theorem put_comm{d1 d2:Option Nat}{v1 v2:AV}(h:∀d,d1=some d->d2≠some d):bK d1 v1 (bK d2 v2 ts)=bK d2 v2 (bK d1 v1 ts):=by
 cases d1<;>cases d2<;>simp only[bK]
 rename_i a b;rw[List.set_comm];exact fun q=>h a rfl (by rw[q])
end
section
variable{E:Env}{pc:Pc}{ic yc:Ic}{dr:Bool}{ts dx:List AV}{H H':Hp}{aL nid':Nat}{o:Oper}{b:Nat}{ops:Array Oper}
def pJ(E:Env)(pc:Pc)(ic yc:Ic)(ops:Array Oper)(aL:Nat)(o:Oper)(ts:List AV)(H:Hp):Option (AV×cE):=
 if cu E o&&!mD H[aL]? then none else if b6 ops.toList ts o then eL E pc ic yc true ts H aL o else some (aZ,.bU [])
theorem Oo{dst:Option Nat}{u:AV}(h:∀d,dst=some d->d∉o.looksAt ops):pJ E pc ic yc ops aL o (bK dst u ts) H=pJ E pc ic yc ops aL o ts H:=by unfold pJ;rw[M6 h,abp h]
theorem aiT(h:cu E o=true):ka E o=.s:=by
 unfold cu at h;unfold ka;cases ho:o.op<;>simp only[ho]at h⊢<;>try (cases h;done)
 case convert s d x=>
  split at h
  ·rfl
  ·cases h
 case call c=>
  cases hc:c.callee with
  |builtin bi=>
   simp only[hc]at h;cases bi<;>first|rfl|(cases h;done)
  |value f=>simp only[hc]at h;cases h
  |invoke r m=>simp only[hc]at h;cases h
theorem W3(hc:ka E o=.n){v:AV}{e:cE}(h:pJ E pc ic yc ops aL o ts H=some (v,e)):e=.bU []/\∀H',pJ E pc ic yc ops aL o ts H'=some (v,e):=by
 have hl:cu E o=false:=by
  cases hq:cu E o with
  |false=>rfl
  |true=>rw[aiT hq]at hc;cases hc
 unfold pJ at h⊢;simp only[hl,Bool.false_and,aKT,if_false]at h⊢;split at h
 ·rename_i hw;obtain⟨h1,h2⟩:=amP hc h;exact⟨h1,fun H'=>by rw[if_pos hw];exact h2 H' aL⟩
 ·rename_i hw;cases h;exact⟨rfl,fun H'=>by rw[if_neg hw]⟩
inductive Shape(E:Env)(H:Hp)(aL:Nat)(o:Oper)(t:List Nat×List Nat):cE->Prop where
 |bU (l:List (Nat×cz)) (hk:∀p,p∈l->p.2≠eP/\p.1<H.length/\(cu E o=true/\p.1=aL∨∃eN,H[p.1]?=some eN/\eN.st=.live)) (ht:t.2=l.map (·.1)) (hr:ka E o=.r->l=[]):Shape E H aL o t (.bU l)
 |looks (m:List Nat) (ht:t=(m,[])):Shape E H aL o t (.looks m)
 |marks (m:List Nat) (ht:t=(m,[])):Shape E H aL o t (.marks m)
theorem acQ{l:List (Nat×cz)}(hs:ka E o=.s)(kg:cu E o=true->mD H[aL]?=true){v:AV}(h:eL E pc ic yc true ts H aL o=some (v,.bU l)):
  ∀p,p∈l->p.2≠eP/\p.1<H.length/\(cu E o=true/\p.1=aL∨∃eN,H[p.1]?=some eN/\eN.st=.live):=by
 intro p hp;have get:∀{aL},eL E pc ic yc true ts H aL o=some (v,.bU l)->mJ H aL l:=fun{aL} h=>by
  obtain⟨l',h1,h2,_⟩:=afW hs h;cases h1;exact h2
 cases hl:cu E o with
 |true=>
  have:=get h p hp
  refine⟨this.1,?_,?_⟩
  ·rcases this.2 with q|⟨eN,q,_⟩
   ·rw[q]
    have:=nH.1 (kg hl)
    exact(aKS.1 this).1
   ·exact(aKS.1 q).1
  ·rcases this.2 with q|q
   ·exact .inl ⟨rfl,q⟩
   ·exact .inr q
 |false=>
  have a1:=get ((Ej (nid':=H.length+1) hl).symm.trans h) p hp;have a2:=get ((Ej (nid':=H.length+2) hl).symm.trans h) p hp
  have:∃eN,H[p.1]?=some eN/\eN.st=.live:=by
   rcases a1.2 with q|q
   ·rcases a2.2 with q'|q'
    ·omega
    ·exact q'
   ·exact q
  obtain⟨eN,g1,g2⟩:=this;exact⟨a1.1,(aKS.1 g1).1,.inr ⟨eN,g1,g2⟩⟩
theorem EK(hc:ka E o=.r∨ka E o=.s){v:AV}{e:cE}(h:pJ E pc ic yc ops aL o ts H=some (v,e)):
  Shape E H aL o (bH E ts o e) e/\(cu E o=true->H[aL]?=some eP)/\
  ∀H',(∀b,b∈(bH E ts o e).1->td H H' b)->(∀b,b∈(bH E ts o e).2->H'[b]?=H[b]?)->(cu E o=true->H'[aL]?=some eP)->pJ E pc ic yc ops aL o ts H'=some (v,e):=by
 have VT:ka E o≠ .n:=by rcases hc with q|q<;>rw[q]<;>simp
 have Cs:∀l,bH E ts o (.bU l)=(nh ts o,l.map (·.1)):=fun l=>by
  unfold bH
  split
  ·exact absurd ‹_› VT
  ·rfl
 have ZT:∀m,bH E ts o (.marks m)=(m,[]):=fun l=>by
  unfold bH
  split
  ·exact absurd ‹_› VT
  ·rfl
 have ZM:∀m,bH E ts o (.looks m)=(m,[]):=fun l=>by
  unfold bH
  split
  ·exact absurd ‹_› VT
  ·rfl
 unfold pJ at h;split at h
 ·cases h
 rename_i kg;have Jg:cu E o=true->mD H[aL]?=true:=fun q=>by
  rw[q]at kg;simpa using kg
 have cond:∀H':Hp,(cu E o=true->H'[aL]?=some eP)->¬(cu E o&&!mD H'[aL]?)=true:=fun H' hq=>by
  cases hl:cu E o with
  |false=>simp
  |true=>
   have:=nH.2 (hq hl)
   simp[this]
 split at h
 ·rename_i hw;have back:∀H',(cu E o=true->H'[aL]?=some eP)->eL E pc ic yc true ts H' aL o=some (v,e)->pJ E pc ic yc ops aL o ts H'=some (v,e):=fun H' h1 h2=>by
   unfold pJ;rw[if_neg (cond H' h1),if_pos hw];exact h2
  rcases hc with hc|hc
  ·rcases ar4 hc h with⟨rfl,hf⟩|⟨bs,he,hf⟩
   ·refine⟨.bU [] (fun p hp=>by simp at hp) (by rw[Cs]) (fun _=>rfl),fun q=>nH.1 (Jg q),fun H' h1 h2 h3=>back H' h3 (hf H' fun b hb=>h1 b (by rw[Cs];exact hb))⟩
   ·rcases he with rfl|rfl
    ·exact⟨.looks bs (ZM bs),fun q=>nH.1 (Jg q),fun H' h1 h2 h3=>back H' h3 (hf H' fun b hb=>h1 b (by rw[ZM];exact hb))⟩
    ·exact⟨.marks bs (ZT bs),fun q=>nH.1 (Jg q),fun H' h1 h2 h3=>back H' h3 (hf H' fun b hb=>h1 b (by rw[ZT];exact hb))⟩
  ·obtain⟨l,rfl,hk,hf⟩:=afW hc h;refine⟨.bU l (acQ hc Jg h) (by rw[Cs]) (fun q=>by rw[hc]at q;cases q),fun q=>nH.1 (Jg q),fun H' h1 h2 h3=>back H' h3 (hf H' (fun b hb=>h1 b (by rw[Cs];exact hb)) fun p hp=>h2 p.1 (by rw[Cs];exact aMg.2 ⟨p,hp,rfl⟩))⟩
 ·rename_i hw;cases h;refine⟨.bU [] (fun p hp=>by simp at hp) (by rw[Cs]) (fun _=>rfl),fun q=>nH.1 (Jg q),fun H' h1 h2 h3=>?_⟩;unfold pJ;rw[if_neg (cond H' h3),if_neg hw]
section
variable{t:List Nat×List Nat}{e:cE}
theorem Shape.len(h:Shape E H aL o t e):(e.app H).length=H.length:=by
 cases h with
 |bU l hk ht hr=>exact A4 l H fun p hp=>(hk p hp).2.1
 |looks m ht=>rfl
 |marks m ht=>exact lX m H
theorem Shape.agr(h:Shape E H aL o t e){b:Nat}(hb:b∉t.2):td H (e.app H) b/\td (e.app H) H b:=by
 cases h with
 |bU l hk ht hr=>
  have:(od H l)[b]?=H[b]?:=kK l H b (fun p hp=>(hk p hp).2.1) fun p hp q=>hb (by rw[ht];exact aMg.2 ⟨p,hp,q⟩)
  have e1:(cE.bU l).app H=od H l:=rfl;rw[e1];unfold td;rw[this];exact⟨rfl,rfl⟩
 |looks m ht=>exact⟨rfl,rfl⟩
 |marks m ht=>exact⟨(Mv m b).2,(Mv m b).1⟩
theorem Shape.same(h:Shape E H aL o t e){b:Nat}(h1:b∉t.1)(h2:b∉t.2):(e.app H)[b]?=H[b]?:=by
 cases h with
 |bU l hk ht hr=>exact kK l H b (fun p hp=>(hk p hp).2.1) fun p hp q=>h2 (by rw[ht];exact aMg.2 ⟨p,hp,q⟩)
 |looks m ht=>rfl
 |marks m ht=>
  subst ht;show(mark H m)[b]?=_
  rw[ik,if_neg h1]
theorem Shape.dead(h:Shape E H aL o t e){b:Nat}(hb:(e.app H)[b]?=some eP):H[b]?=some eP:=by
 cases h with
 |bU l hk ht hr=>
  rcases NI l H b (fun p hp=>(hk p hp).2.1)with g|⟨x,g1,g2⟩
  ·rw[<-g];exact hb
  ·have:some x=some eP:=g2.symm.trans hb
   cases this;exact absurd rfl (hk _ g1).1
 |looks m ht=>exact hb
 |marks m ht=>exact IK.1 hb
theorem Shape.aeJ(h:Shape E H aL o t e){b:Nat}(h2:b∉t.2)(hb:H[b]?=some eP):(e.app H)[b]?=some eP:=by
 cases h with
 |bU l hk ht hr=>
  have:(od H l)[b]?=H[b]?:=kK l H b (fun p hp=>(hk p hp).2.1) fun p hp q=>h2 (by rw[ht];exact aMg.2 ⟨p,hp,q⟩)
  show(od H l)[b]?=_
  rw[this];exact hb
 |looks m ht=>exact hb
 |marks m ht=>exact IK.2 hb
theorem Shape.keys(h:Shape E H aL o t e){b:Nat}(hb:b∈t.2):(cu E o=true/\b=aL)∨∃eN,H[b]?=some eN/\eN.st=.live:=by
 cases h with
 |bU l hk ht hr=>
  rw[ht]at hb;obtain⟨p,hp,rfl⟩:=aMg.1 hb;exact(hk p hp).2.2
 |looks m ht=>subst ht;simp at hb
 |marks m ht=>subst ht;simp at hb
theorem Shape.noW(h:Shape E H aL o t e)(hc:ka E o=.r):t.2=[]:=by
 cases h with
 |bU l hk ht hr=>rw[ht,hr hc];rfl
 |looks m ht=>subst ht;rfl
 |marks m ht=>subst ht;rfl
end
theorem Xn{o1 o2:Oper}{n1 n2:Nat}{t1 t2:List Nat×List Nat}{e1 e2:cE}{H1 H2:Hp}(h1:Shape E H1 n1 o1 t1 e1)(h2:Shape E H2 n2 o2 t2 e2)(l1:H1.length=H.length)(l2:H2.length=H.length)
  (d1:∀x,x∈t1.2->x∉t2.1) (d2:∀x,x∈t1.2->x∉t2.2) (d3:∀x,x∈t1.1->x∉t2.2):e2.app (e1.app H)=e1.app (e2.app H):=by
 cases h1 with
 |looks m ht=>rfl
 |bU l hk ht hr=>
  have hl:∀p,p∈l->p.1<H.length:=fun p hp=>by rw[<-l1];exact(hk p hp).2.1
  have hm:∀p,p∈l->p.1∈t1.2:=fun p hp=>by rw[ht];exact aMg.2 ⟨p,hp,rfl⟩
  cases h2 with
  |looks m ht=>rfl
  |bU l' zz ht' nw=>
   have EI:∀p,p∈l'->p.1<H.length:=fun p hp=>by rw[<-l2];exact(zz p hp).2.1
   exact Vj hl EI fun p hp q hq e=>d2 p.1 (hm p hp) (by rw[ht'];exact aMg.2 ⟨q,hq,e.symm⟩)
  |marks m' ht'=>
   subst ht';exact Jn hl fun p hp=>d1 p.1 (hm p hp)
 |marks m ht=>
  subst ht;cases h2 with
  |looks m ht=>rfl
  |bU l' zz ht' nw=>
   have EI:∀p,p∈l'->p.1<H.length:=fun p hp=>by rw[<-l2];exact(zz p hp).2.1
   exact(Jn EI fun p hp hx=>d3 p.1 hx (by rw[ht'];exact aMg.2 ⟨p,hp,rfl⟩)).symm
  |marks m' ht'=>exact Um m m'
theorem swap{x y:Oper}{nx ny:Nat}{vx vy:AV}{ex ey:cE}(ha:y.apart ops x=true)
  (h1:pJ E pc ic yc ops nx x ts H=some (vx,ex)) (h2:pJ E pc ic yc ops ny y (bK x.dst vx ts) (ex.app H)=some (vy,ey))
  (hf:ka E x=.n∨ka E y=.n∨((ka E x=.r∨ka E x=.s)/\(ka E y=.r∨ka E y=.s)/\
   (∀b,b∈(bH E ts x ex).2->b∉(bH E (bK x.dst vx ts) y ey).1)/\(∀b,b∈(bH E ts x ex).2->b∉(bH E (bK x.dst vx ts) y ey).2)/\
   (∀b,b∈(bH E ts x ex).1->b∉(bH E (bK x.dst vx ts) y ey).2)))
  (hn:cu E x=true->cu E y=true->nx≠ny):
  pJ E pc ic yc ops ny y ts H=some (vy,ey)/\pJ E pc ic yc ops nx x (bK y.dst vy ts) (ey.app H)=some (vx,ex)/\ey.app (ex.app H)=ex.app (ey.app H)/\
   bK y.dst vy (bK x.dst vx ts)=bK x.dst vx (bK y.dst vy ts)/\bH E (bK y.dst vy ts) x ex=bH E ts x ex/\bH E (bK x.dst vx ts) y ey=bH E ts y ey:=by
 obtain⟨a1,a2,a3⟩:=Oper.apart_spec ha;rw[Oo a3]at h2;rw[Oo a1,BU a1,BU a3];rw[BU a3]at hf;have Vi:bK y.dst vy (bK x.dst vx ts)=bK x.dst vx (bK y.dst vy ts):=put_comm a2;rcases hf with hc|hc|⟨hx,hy,d1,d2,d3⟩
 ·obtain⟨rfl,g⟩:=W3 hc h1;exact⟨h2,g _,rfl,Vi,rfl,rfl⟩
 ·obtain⟨rfl,g⟩:=W3 hc h2;exact⟨g _,h1,rfl,Vi,rfl,rfl⟩
 ·obtain⟨s1,r1,f1⟩:=EK hx h1;obtain⟨s2,r2,f2⟩:=EK hy h2;have l1:=s1.len;have hy':pJ E pc ic yc ops ny y ts H=some (vy,ey):=by refine f2 H (fun b hb=>(s1.agr fun q=>d1 b q hb).2) (fun b hb=>?_) (fun hl=>s1.dead (r2 hl));exact(s1.same (fun q=>d3 b q hb) (fun q=>d2 b q hb)).symm
  obtain⟨s2',_,_⟩:=EK hy hy';refine⟨hy',?_,Xn s1 s2' rfl rfl d1 d2 d3,Vi,rfl,rfl⟩;refine f1 _ (fun b hb=>(s2'.agr (d3 b hb)).1) (fun b hb=>s2'.same (d1 b hb) (d2 b hb)) fun hl=>?_
  refine s2'.aeJ (fun q=>?_) (r1 hl);rcases s2.keys q with⟨q1,q2⟩|⟨eN,q1,q2⟩
  ·exact hn hl q1 q2
  ·by_cases hw:nx∈(bH E ts x ex).2
   ·exact d2 nx hw q
   ·have:=s1.aeJ hw (r1 hl)
    rw[this]at q1;cases q1;cases q2
end
abbrev Item:=Nat×Nat×Oper
abbrev Touch:=List Nat×List Nat
section
variable{E:Env}{P:Program}{pc:Pc}{ic yc:Ic}{dr:Bool}{ts dx:List AV}{H H':Hp}{aL nid':Nat}{o:Oper}{b:Nat}{ops:Array Oper}
variable{ι:eg}{w:World}{Lo:Nat->Prop}{w0:World}{a:Act}{B:Nat}
def Co(E:Env)(pc:Pc)(ic yc:Ic)(ops:Array Oper):List Item->List AV->Hp->Option (List AV×Hp×List (Nat×Touch))
 |[],ts,H=>some (ts,H,[])
 |it::rest,ts,H=>match pJ E pc ic yc ops it.2.1 it.2.2 ts H with
  |some (v,e)=>match Co E pc ic yc ops rest (bK it.2.2.dst v ts) (e.app H)with
   |some (t,h,l)=>some (t,h,(it.1,bH E ts it.2.2 e)::l)
   |none=>none
  |none=>none
theorem IC{it:Item}{rest:List Item}{t:List AV}{h:Hp}{L:List (Nat×Touch)}(hr:Co E pc ic yc ops (it::rest) ts H=some (t,h,L)):
  ∃v e l,pJ E pc ic yc ops it.2.1 it.2.2 ts H=some (v,e)/\Co E pc ic yc ops rest (bK it.2.2.dst v ts) (e.app H)=some (t,h,l)/\L=(it.1,bH E ts it.2.2 e)::l:=by
 unfold Co at hr;split at hr
 case h_2=>cases hr
 rename_i v e h1;split at hr
 case h_2=>cases hr
 rename_i t' h' l h2;cases hr;exact⟨v,e,l,h1,h2,rfl⟩
theorem S9{it:Item}{rest:List Item}{t:List AV}{h:Hp}{l:List (Nat×Touch)}{v:AV}{e:cE}(h1:pJ E pc ic yc ops it.2.1 it.2.2 ts H=some (v,e))
  (h2:Co E pc ic yc ops rest (bK it.2.2.dst v ts) (e.app H)=some (t,h,l)):Co E pc ic yc ops (it::rest) ts H=some (t,h,(it.1,bH E ts it.2.2 e)::l):=by
 unfold Co;rw[h1];simp only;rw[h2]
def TOk(ps:List (Nat×Nat))(L:List (Nat×Touch)):Prop:=∀j i tj ti,(j,i)∈ps->(j,tj)∈L->(i,ti)∈L->
 (∀b,b∈tj.2->b∉ti.1)/\(∀b,b∈tj.2->b∉ti.2)/\(∀b,b∈tj.1->b∉ti.2)
def R5(E:Env)(x y:Item):Prop:=cu E x.2.2=true->cu E y.2.2=true->x.2.1≠y.2.1
theorem noW{x:Oper}{nx:Nat}{v:AV}{e:cE}(h:pJ E pc ic yc ops nx x ts H=some (v,e))(hc:ka E x=.r):(bH E ts x e).2=[]:=
 (EK (.inl hc) h).1.noW hc
theorem aab{ps:List (Nat×Nat)}{y:Item}{post:List Item}{t:List AV}{h:Hp}:∀(pre:List Item) (ts:List AV) (H:Hp) (L:List (Nat×Touch)),
  (∀x,x∈pre->y.2.2.apart ops x.2.2=true/\WD E ps x.1 y.1 x.2.2 y.2.2=true/\R5 E x y)->Co E pc ic yc ops (pre++y::post) ts H=some (t,h,L)->TOk ps L->
  ∃v e L',pJ E pc ic yc ops y.2.1 y.2.2 ts H=some (v,e)/\Co E pc ic yc ops (pre++post) (bK y.2.2.dst v ts) (e.app H)=some (t,h,L')/\(y.1,bH E ts y.2.2 e)∈L/\∀z,z∈L'->z∈L
 |[],ts,H,L,_,hr,_=>by
  obtain⟨v,e,l,h1,h2,rfl⟩:=IC hr;exact⟨v,e,l,h1,h2,by simp,fun z hz=>by simp[hz]⟩
 |x::pre,ts,H,L,hp,hr,ht=>by
  obtain⟨vx,ex,l,h1,h2,rfl⟩:=IC hr;obtain⟨vy,ey,L',g1,g2,g3,g4⟩:=aab pre _ _ l (fun z hz=>hp z (by simp[hz])) h2 (fun j i tj ti a b c=>ht j i tj ti a (by simp[b]) (by simp[c]));obtain⟨ha,hf,hn⟩:=hp x (by simp);have hf':ka E x.2.2=.n∨ka E y.2.2=.n∨((ka E x.2.2=.r∨ka E x.2.2=.s)/\(ka E y.2.2=.r∨ka E y.2.2=.s)/\
    (∀b,b∈(bH E ts x.2.2 ex).2->b∉(bH E (bK x.2.2.dst vx ts) y.2.2 ey).1)/\(∀b,b∈(bH E ts x.2.2 ex).2->b∉(bH E (bK x.2.2.dst vx ts) y.2.2 ey).2)/\
    (∀b,b∈(bH E ts x.2.2 ex).1->b∉(bH E (bK x.2.2.dst vx ts) y.2.2 ey).2)):=by
   have seen:ps.contains (x.1,y.1)=true->_:=fun q=>ht x.1 y.1 _ _ (by simpa using q) (aNu ..) (aNk _ g3)
   unfold WD at hf;cases cx:ka E x.2.2 with
   |n=>exact .inl rfl
   |w=>rw[cx]at hf;cases cy:ka E y.2.2<;>rw[cy]at hf<;>first|(cases hf;done)|exact .inr (.inl rfl)
   |r=>
    cases cy:ka E y.2.2 with
    |n=>exact .inr (.inl rfl)
    |w=>rw[cx,cy]at hf;cases hf
    |r=>exact .inr (.inr ⟨.inl rfl,.inl rfl,by rw[noW h1 cx];simp,by rw[noW h1 cx];simp,by rw[noW g1 cy];simp⟩)
    |s=>rw[cx,cy]at hf;exact .inr (.inr ⟨.inl rfl,.inr rfl,seen hf⟩)
   |s=>
    cases cy:ka E y.2.2 with
    |n=>exact .inr (.inl rfl)
    |w=>rw[cx,cy]at hf;cases hf
    |r=>rw[cx,cy]at hf;exact .inr (.inr ⟨.inr rfl,.inl rfl,seen hf⟩)
    |s=>rw[cx,cy]at hf;exact .inr (.inr ⟨.inr rfl,.inr rfl,seen hf⟩)
  obtain⟨s1,s2,s3,s4,s5,s6⟩:=swap ha h1 g1 hf' hn;refine⟨vy,ey,(x.1,bH E (bK y.2.2.dst vy ts) x.2.2 ex)::L',s1,?_,?_,fun z hz=>?_⟩
  ·refine S9 s2 ?_;rw[<-s3,<-s4];exact g2
  ·rw[<-s6];exact aNk _ g3
  ·rcases aMc.1 hz with rfl|hz
   ·rw[s5];simp
   ·exact aNk _ (g4 z hz)
theorem Kq(S:iZ E Lo w0 ι H w){v:AV}{e:cE}(h:pJ E pc ic yc ops aL o ts H=some (v,e)):
  ∃nid',pI ι H nid'/\cK E pc ic yc true ops.toList nid' o ts H=some (bK o.dst v ts,e):=by
 unfold pJ at h;split at h
 ·cases h
 rename_i kg;have main:∀nid',(if b6 ops.toList ts o then eL E pc ic yc true ts H nid' o else some (aZ,.bU []))=some (v,e)->cK E pc ic yc true ops.toList nid' o ts H=some (bK o.dst v ts,e):=fun nid' h=>by
  unfold cK;split at h
  ·rename_i hw;rw[if_pos hw,h]
  ·rename_i hw;rw[if_neg hw];cases h;rfl
 cases hl:cu E o with
 |true=>
  rw[hl]at kg;exact⟨aL,ZF S (nH.1 (by simpa using kg)),main aL h⟩
 |false=>
  refine⟨H.length,FQ S,main _ ?_⟩;rw[Ej (nid':=aL) hl];exact h
def Down(ops:Array Oper)(listed:Array Bool):Prop:=∀k o,ops[k]?=some o->listed.getD k false=true->∀e,e∈o.after->Region.binds .any e=true->listed.getD e.on false=true
theorem Dt{listed:Array Bool}(hd:Down ops listed){j:Nat}:∀(n i:Nat) (o:Oper),ops[i]?=some o->(∀e,e∈o.after->Region.binds .any e=true->listed.getD e.on false=true)->Io ops j n i=true->listed.getD j false=true
 |0,_,_,_,_,h=>by cases h
 |n+1,i,o,ho,he,h=>by
  unfold Io at h;rw[ho]at h;simp only at h;rw[Array.any_eq_true']at h;obtain⟨e,h1,h2⟩:=h;simp only[aLR,aLP,beq_iff_eq,decide_eq_true_eq]at h2;obtain⟨h2,h3⟩:=h2;have hl:=he e h1 h2;rcases h3 with h3|⟨_,h3⟩
  ·rw[<-h3];exact hl
  ·cases hk:ops[e.on]? with
   |none=>
    cases n with
    |zero=>cases h3
    |succ n=>unfold Io at h3;rw[hk]at h3;cases h3
   |some o'=>exact Dt hd n e.on o' hk (hd e.on o' hk hl) h3
theorem Fe{ps:List (Nat×Nat)}(h:Ah E ps ops=true){i:Nat}{oi:Oper}(hi:ops[i]?=some oi):
  (∀e,e∈oi.after->Region.binds .any e=true->e.on<i)/\∀j oj,j<i->ops[j]?=some oj->(oi.apart ops oj=true/\WD E ps j i oj oi=true)∨Io ops j ops.size i=true:=by
 unfold Ah at h;have iH:=(aNi.1 hi).1
 have:=aLN.1 h i (List.mem_range.2 iH)
 rw[hi]at this;simp only[aLR]at this;obtain⟨h1,h2⟩:=this;refine⟨fun e he hb=>?_,fun j oj hj hoj=>?_⟩
 ·rw[Array.all_eq_true_iff_forall_mem]at h1
  have:=h1 e he
  rw[hb]at this;simpa using this
 ·have:=aLN.1 h2 j (List.mem_range.2 hj)
  rw[hoj]at this;simpa using this
theorem ab5{listed:Array Bool}{j:Nat}(h1:listed.getD j true=false)(h2:listed.getD j false=true):False:=by
 cases hj:listed[j]?<;>simp[hj]at h1 h2
 rw[h1]at h2;cases h2
theorem RS(V:Valid E P)(hp:p9 E P pc)(hi:vU E P ic)(hy:uE E P yc){F:Fence}(hF:mS F){ps:List (Nat×Nat)}(Kd:Ah E ps ops=true){Q:Exit->Act->World->Prop}{t:List AV}{h:Hp}:
  ∀(fuel:Nat) (rest:List Item) (listed:Array Bool) (ts:List AV) (H:Hp) (L:List (Nat×Touch)) (ι:eg) (w:World) (a:Act),rest.length=fuel->listed.size=ops.size->
   (∀it,it∈rest->ops[it.1]?=some it.2.2/\listed.getD it.1 true=false)->(∀k o,ops[k]?=some o->listed.getD k true=false->∃it,it∈rest/\it.1=k)->
   rest.Pairwise (fun x y=>x.1<y.1/\R5 E x y)->Down ops listed->Co E pc ic yc ops rest ts H=some (t,h,L)->TOk ps L->St E B Lo w0 ι H ts a w->D9 E B Lo w0 ι H w t h (Q .normal)->
   wpAnyIn F 0 P .any ops Q fuel listed a w
 |0,rest,listed,ts,H,L,ι,w,a,hlen,Eb,hA,hB,hC,hD,hr,hT,S,hk=>by
  have:rest=[]:=List.length_eq_zero_iff.1 hlen
  subst this;unfold Co at hr;cases hr;refine⟨?_,hk _ _ ι (eg.le_refl _) (Ext.refl _ _) S⟩;rw[List.eq_nil_iff_forall_not_mem];intro j hj;obtain⟨h1,o,h2,_⟩:=mem_ready.1 hj;obtain⟨it,h3,_⟩:=hB j o h2 h1;simp at h3
 |fuel+1,rest,listed,ts,H,L,ι,w,a,hlen,Eb,hA,hB,hC,hD,hr,hT,S,hk=>by
  refine⟨fun KQ=>?_,fun i AK=>?_⟩
  ·
   exfalso
   match rest,hlen with
   |y::r,_=>
    obtain⟨y1,y2⟩:=hA y (by simp)
    have:y.1∈Region.ready .any ops listed:=by
     refine mem_ready.2 ⟨y2,_,y1,fun e he hb=>?_⟩;have iH:=(Fe Kd y1).1 e he hb;have hys:=(aNi.1 y1).1;have En:e.on<listed.size:=by omega
     cases hv:listed.getD e.on false with
     |true=>rfl
     |false=>
      exfalso;have hv':listed.getD e.on true=false:=by simp[En]at hv⊢;exact hv
      obtain⟨it,k1,k2⟩:=hB e.on _ (Array.getElem?_eq_getElem (by omega)) hv';rcases aMc.1 k1 with rfl|k1
      ·omega
      ·have:=(aNo.1 hC).1 it k1
       omega
    rw[KQ]at this;simp at this
  ·obtain⟨h1,o,h2,h3⟩:=mem_ready.1 AK;obtain⟨y,k1,k2⟩:=hB i o h2 h1;obtain⟨pre,post,rfl⟩:=List.append_of_mem k1;have hyo:y.2.2=o:=by
    have:=(hA y k1).1
    rw[k2,h2]at this;injection this with this;exact this.symm
   rw[aNs]at hC;obtain⟨c1,c2,c3⟩:=hC;rw[aNo]at c2;have axF:∀x,x∈pre->y.2.2.apart ops x.2.2=true/\WD E ps x.1 y.1 x.2.2 y.2.2=true/\R5 E x y:=by
    intro x hx;obtain⟨q1,q2⟩:=c3 x hx y (by simp);obtain⟨x1,x2⟩:=hA x (by simp[hx]);rcases(Fe Kd (by rw[hyo,k2];exact h2:ops[y.1]?=some y.2.2)).2 x.1 x.2.2 q1 x1 with q|q
    ·exact⟨q.1,q.2,q2⟩
    ·exfalso;rw[k2]at q;exact ab5 x2 (Dt hD _ i o h2 h3 q)
   obtain⟨v,e,L',g1,g2,g3,g4⟩:=aab pre ts H L axF hr hT;rw[hyo]at g1 g2;obtain⟨nid',f1,f2⟩:=Kq S.PS g1;unfold wpOpIn;rw[h2];simp only;refine Md V hp hi hy S f1 f2 hF fun a1 w1 ι1 m1 m2 m3=>?_
   have dY:∀it,it∈pre++post->it.1≠i:=fun it hit=>by
    rcases aLV.1 hit with hit|hit
    ·have:=(c3 it hit y (by simp)).1;omega
    ·have:=(c2.1 it hit).1;omega
   refine RS V hp hi hy hF Kd fuel (pre++post) (listed.setIfInBounds i true) _ _ L' ι1 w1 a1 ?_ (by simpa using Eb) (fun it hit=>?_) (fun k o' zz hl=>?_) ?_ ?_ g2 (fun j i tj ti a b c=>hT j i tj ti a (g4 _ b) (g4 _ c)) m3 (hk.chain m1 m2)
   ·simp only[List.length_append,List.length_cons]at hlen⊢;omega
   ·have hm:it∈pre++y::post:=by
     rcases aLV.1 hit with q|q<;>simp[q]
    obtain⟨q1,q2⟩:=hA it hm;exact⟨q1,by rw[getD_set_ne true (fun q=>dY it hit q.symm)];exact q2⟩
   ·have YN:i≠k:=by
     intro q;subst q
     have:i<listed.size:=by rw[Eb];exact(aNi.1 h2).1
     simp[this]at hl
    rw[getD_set_ne true YN]at hl;obtain⟨it,q1,q2⟩:=hB k o' zz hl;refine⟨it,?_,q2⟩;rcases aLV.1 q1 with q|q
    ·exact aNn _ q
    ·rcases aMc.1 q with q|q
     ·exact absurd (by rw[<-q2,q,k2]) YN.symm
     ·exact aNj _ q
   ·rw[aNs];exact⟨c1,c2.2,fun x hx z hz=>c3 x hx z (by simp[hz])⟩
   ·intro k o' zz hl e' he hb;by_cases YN:i=k
    ·subst YN;rw[h2]at zz;cases zz
     exact getD_set_true (h3 e' he hb)
    ·rw[getD_set_ne false YN]at hl;exact getD_set_true (hD k o' zz hl e' he hb)
end
section
variable{E:Env}{P:Program}{pc:Pc}{ic yc:Ic}{dr:Bool}{ts dx:List AV}{H H':Hp}{aL nid':Nat}{o:Oper}{b:Nat}{ops:Array Oper}
variable{ι:eg}{w:World}{Lo:Nat->Prop}{w0:World}{a:Act}{B:Nat}
def items(E:Env):Nat->Nat->List Oper->List Item
 |_,_,[]=>[]
 |k,aL,o::rest=>(k,aL,o)::items E (k+1) (if cu E o then aL+1 else aL) rest
def V0:Nat->List Touch->List (Nat×Touch)
 |_,[]=>[]
 |k,t::l=>(k,t)::V0 (k+1) l
theorem GK:∀{l:List Touch} {k j:Nat} {t:Touch},(j,t)∈V0 k l->∃d,j=k+d/\l[d]?=some t
 |[],_,_,_,h=>by simp[V0]at h
 |x::l,k,j,t,h=>by
  rcases aMc.1 h with h|h
  ·cases h;exact⟨0,rfl,rfl⟩
  ·obtain⟨d,h1,h2⟩:=GK h;exact⟨d+1,by omega,by simpa using h2⟩
theorem Iz:∀(rest:List Oper) (k aL:Nat) (ts:List AV) (H:Hp) (t:List AV) (h:Hp) (l:List Touch),s9 E pc ic yc ops.toList rest aL ts H=some (t,h,l)->
  Co E pc ic yc ops (items E k aL rest) ts H=some (t,h,V0 k l)
 |[],k,aL,ts,H,t,h,l,hr=>by
  unfold s9 at hr;cases hr;rfl
 |o::rest,k,aL,ts,H,t,h,l,hr=>by
  unfold s9 at hr;split at hr
  ·cases hr
  rename_i kg;split at hr
  case h_2=>cases hr
  rename_i Ad e fZ;split at hr
  case h_2=>cases hr
  rename_i t' h' l' jn;cases hr
  have:∃v,Ad=bK o.dst v ts/\pJ E pc ic yc ops aL o ts H=some (v,e):=by
   unfold cK at fZ;unfold pJ;rw[if_neg kg];split at fZ
   ·rename_i hw;rw[if_pos hw];split at fZ
    ·rename_i v e' Vu;cases fZ;exact⟨v,rfl,Vu⟩
    ·cases fZ
   ·rename_i hw;rw[if_neg hw];cases fZ;exact⟨aZ,rfl,rfl⟩
  obtain⟨v,rfl,hd⟩:=this;exact S9 (it:=(k,aL,o)) hd (Iz rest (k+1) _ _ _ _ _ _ jn)
theorem BK:∀{rest:List Oper} {k aL:Nat} {it:Item},it∈items E k aL rest->∃d,it.1=k+d/\rest[d]?=some it.2.2/\aL<=it.2.1
 |[],_,_,_,h=>by simp[items]at h
 |o::rest,k,aL,it,h=>by
  rcases aMc.1 h with h|h
  ·subst h;exact⟨0,rfl,rfl,aKR _⟩
  ·obtain⟨d,h1,h2,h3⟩:=BK h;refine⟨d+1,by omega,by simpa using h2,?_⟩;split at h3<;>omega
theorem Is:∀{rest:List Oper} {k aL d:Nat} {o:Oper},rest[d]?=some o->∃it,it∈items E k aL rest/\it.1=k+d
 |[],_,_,_,_,h=>by simp at h
 |x::rest,k,aL,0,o,h=>⟨_,aNu ..,rfl⟩
 |x::rest,k,aL,d+1,o,h=>by
  obtain⟨it,h1,h2⟩:=Is (k:=k+1) (aL:=if cu E x then aL+1 else aL) (d:=d) (rest:=rest) (by simpa using h);exact⟨it,aNk _ h1,by omega⟩
theorem IN:∀(rest:List Oper) (k aL:Nat),(items E k aL rest).length=rest.length
 |[],_,_=>rfl
 |_::rest,k,aL=>by simp[items,IN rest]
theorem FB:∀(rest:List Oper) (k aL:Nat),(items E k aL rest).Pairwise (fun x y=>x.1<y.1/\R5 E x y)
 |[],_,_=>.nil
 |o::rest,k,aL=>by
  refine aNo.2 ⟨fun y hy=>?_,FB rest _ _⟩;obtain⟨d,h1,h2,h3⟩:=BK hy;refine⟨by simp only;omega,fun l1 _=>?_⟩;simp only at l1⊢;rw[l1]at h3;simp only[if_true]at h3;omega
theorem aic{ps:List (Nat×Nat)}{l:List Touch}(h:ps.all (ur l)=true):TOk ps (V0 0 l):=by
 intro j i tj ti hm hj hi;obtain⟨d,h1,h2⟩:=GK hj;obtain⟨d',h3,h4⟩:=GK hi
 have:=aLN.1 h _ hm
 unfold ur at this;simp only[Nat.zero_add]at h1 h3;rw[h1,h3,h2,h4]at this;obtain⟨r1,w1⟩:=tj;obtain⟨r2,w2⟩:=ti;simp only[aLR]at this;obtain⟨⟨a1,a2⟩,a3⟩:=this;exact⟨zD.1 a1,zD.1 a2,zD.1 a3⟩
theorem aen(k b:Nat):(H++aK3 k eP)[b]?=H[b]?∨(H[b]?=none/\(H++aK3 k eP)[b]?=some eP):=by
 rw[List.getElem?_append]
 split
 ·exact .inl rfl
 ·rename_i hb;rw[List.getElem?_replicate]
  split
  ·exact .inr ⟨aK4 (by omega),rfl⟩
  ·exact .inl (aK4 (by omega)).symm
theorem xh{k b:Nat}{eN:cz}(h:(H++aK3 k eP)[b]?=some eN)(hs:eN.st≠ .dead):H[b]?=some eN:=by
 rcases aen (H:=H) k b with q|⟨_,q⟩
 ·rw[<-q];exact h
 ·rw[q]at h;cases h;exact absurd rfl hs
theorem F7(k:Nat):Live Lo ι (H++aK3 k eP)=Live Lo ι H:=by
 refine Live.congr fun c=>⟨?_,?_⟩
 ·rintro(h|⟨b,eN,co,h1,h2,h3⟩)
  ·exact .inl h
  ·exact .inr ⟨b,eN,co,xh h1 (by rw[h2];simp),h2,h3⟩
 ·rintro(h|⟨b,eN,co,h1,h2,h3⟩)
  ·exact .inl h
  ·refine .inr ⟨b,eN,co,?_,h2,h3⟩;rw[aNq (aKS.1 h1).1];exact h1
theorem iZ.pad(S:iZ E Lo w0 ι H w)(k:Nat):iZ E Lo w0 ι (H++aK3 k eP) w:=by
 refine⟨S.below,S.lo,fun b p hp=>?_,?_,?_,?_,?_,?_⟩
 ·have:=S.Pr b p hp
  exact⟨by simp;omega,this.2⟩
 ·intro b eN hb hd;rw[F7];exact S.obj b eN (xh hb hd) hd
 ·intro b b' eN blk' c co co' h1 h2 h3 h4 h5 h6;exact S.inj b b' eN blk' c co co' (xh h1 (by rw[h2];simp)) h2 (xh h3 (by rw[h4];simp)) h4 h5 h6
 ·rw[F7];exact S.glob
 ·intro b eN h1 h2;exact S.uc b eN (xh h1 (by rw[h2];simp)) h2
 ·intro b p hp;rw[aNq (S.Pr b p hp).1];exact S.res b p hp
theorem ahq(V:Valid E P)(O:Eg E P){rec:Cd}(lN:r8 E P rec):PG E P rec:=by
 intro id ops ts H dx H' h Kd F hF B Lo w0 ι w a hB Ja S Q hk;unfold Br at h;split at h
 case h_2=>cases h
 rename_i t hh l auZ;split at h
 case isFalse=>cases h
 rename_i XK;cases h;have S1:=S.PS.pad (ops.toList.countP (cu E));have D:=S1.drew (w':={w with drawn:=w.drawn+1}) rfl rfl rfl rfl;have X:Ext w (Live Lo ι H) {w with drawn:=w.drawn+1} (Live Lo ι (H++aK3 (ops.toList.countP (cu E)) eP)):=by
  have:=D.2
  rw[F7]at this⊢;exact this
 have asg:(Array.replicate ops.size false).size=ops.size:=by simp
 refine wpIn_region_any V.mixed ?_;refine RS V (Jw V O lN) (Sg V O lN) (Fk V lN) hF Kd ops.size (items E 0 H.length ops.toList) _ ts _ _ ι _ a ?_ asg (fun it hit=>?_) (fun k o zz _=>?_) (FB _ _ _) (fun k o zz hl=>?_)
  (Iz ops.toList 0 H.length _ _ _ _ _ auZ) (aic ?_) ⟨D.1,Rs.ext X _ _ _ _ (eg.le_refl _) S.tm,S.mks.ext X rfl⟩ (hk.chain (eg.le_refl _) X)
 ·rw[IN];simp
 ·obtain⟨d,h1,h2,_⟩:=BK hit;simp only[Nat.zero_add]at h1;rw[h1,<-aKX];refine⟨h2,?_⟩
  have:d<ops.size:=by
   have:=(aKS.1 h2).1
   simpa using this
  simp[this]
 ·obtain⟨it,h1,h2⟩:=Is (E:=E) (k:=0) (aL:=H.length) (d:=k) (rest:=ops.toList) (o:=o) (by rw[aKX];exact zz);exact⟨it,h1,by omega⟩
 ·exfalso
  have:=(aNi.1 zz).1
  simp[this]at hl
 ·have:ops.toList.length=ops.size:=by simp
  rw[this]at XK;exact XK
theorem JW(V:Valid E P)(O:Eg E P)(n:Nat):p9 E P (call E n):=
 Jw V O (AW V O (fun rec h=>ahq V O h) n).1
end
end Dv
