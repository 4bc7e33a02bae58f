/- Lemmas for AssemblyRefuses; no condition. -/
import Derived.Test.YtmkjgfnicfpjpaaGreatDoorRae
import Derived.Maps.RangeRun
import Derived.Lib.Bytealg
import Derived.Lib.BitFns
import Derived.Lib.Strings
import Derived.Lib.TrimByte
import Derived.Lib.SlTrimSet
import Derived.Lib.ParseIntB
import Derived.Lib.ItoaNum
import Derived.Lib.Repeat
import Derived.Lib.Join
set_option linter.all false
set_option maxHeartbeats 100000000
set_option maxRecDepth 100000
noncomputable section
open Bool renaming false_eq_true->aLT,false_and->aOn
open Option renaming map_some->aMi,getD_some->aNk
open List renaming getElem?_eq_getElem->aL6,getElem?_set_self->aOl,getElem?_set_ne->aOj,perm_ext_iff_of_nodup->aOP,mem_range->aOo,range->aOR,getElem?_map->aM4,nodup_range->aOT,mem_toArray->aOU,getElem_map->aOV
open Nat renaming le_max_right->aOs,le_trans->aNW,le_refl->aLt,le_max_left->aOt
open Array renaming getElem?_eq_getElem->aL2,contains_iff_mem->aOQ,getElem?_toList->aLR,getElem_toList->aOS,length_toList->aNf,getElem?_push->aLr
namespace Dv
open Go Go.RowKit
noncomputable section
def Ao(E:Env)(P:Program)(c:Code)(ts:List AV)(H:Hp)(Q:Ex->List AV->Hp->Prop):Prop:=
 ∀(F:Fence),ka F->∀(B:Nat) (Lo:Nat->Prop) (w0:World) (ι:cT) (w:World) (a:Act),w0.heap.size<=B->B<=w.heap.size->St E B Lo w0 ι H ts a w->
  ∀K:Exit->Act->World->Prop,(∀ex ts' H',Q ex ts' H'->A8 E B Lo w0 ι H w ts' H' (K ex.up))->c.wpIn F 0 P K a w
section
variable{E:Env}{P:Program}{ts:List AV}{H:Hp}{Q:Ex->List AV->Hp->Prop}
def rz(V:Valid E P)(O:o5 E P)(n:Nat):nj E P (bS E n):=(tu V O (fun rec h=>Wu V O h) n).1
def Ao.agW(V:Valid E P)(O:o5 E P){c:Code}(h:Cv E c ts H Q)(hc:codeOk E c=true)(hf:flat c=true):Ao E P c ts H Q:=by intro F hF B Lo w0 ι w a hB BF S K hK;obtain⟨n,ex,ts',H',h1,h2⟩:=h;exact rz V O n c ts H ex ts' H' h1 hc F hF (.inr hf) B Lo w0 ι w a hB BF S K (hK ex ts' H' h2)
def Ao.mono{c:Code}{Q':Ex->List AV->Hp->Prop}(h:Ao E P c ts H Q)(hq:∀ex ts' H',Q ex ts' H'->Q' ex ts' H'):Ao E P c ts H Q':=by
 intro F hF B Lo w0 ι w a hB BF S K hK;exact h F hF B Lo w0 ι w a hB BF S K fun ex ts' H' q=>hK ex ts' H' (hq _ _ _ q)
def Ao.seq{c d:Code}(h:Ao E P c ts H fun ex ts' H'=>match ex with|.normal=>Ao E P d ts' H' Q|e=>Q e ts' H'):Ao E P (.seq c d) ts H Q:=by
 intro F hF B Lo w0 ι w a hB BF S K hK;refine wpIn_seq (h F hF B Lo w0 ι w a hB BF S _ fun ex ts' H' q a1 w1 ι1 k1 k2 k3=>?_);cases ex with
 |normal=>exact q F hF B Lo w0 ι1 w1 a1 hB (aNW BF k2.size) k3 K fun ex2 oe H2 q2=>(hK ex2 oe H2 q2).chain k1 k2
 |exit id=>exact hK _ _ _ q _ _ _ k1 k2 k3
 |ret=>exact hK _ _ _ q _ _ _ k1 k2 k3
def Ao.pure(V:Valid E P){f:Nat}{fi:FnI}(lT:E.fn f=some fi){args:List AV}{r:AV}
  (h:Ao E P fi.code (args++List.replicate (fi.ntmps-args.length) bT) [] fun ex oe H2=>(∀id,ex≠ .exit id)/\∃rs bs,fL H2 E oe fi.results=some rs/\bX H2 [gV rs]=some ([r],bs))
  {L:Nat->Prop} {w:World} {vs:Array Value} (ik:∀c,L c->c<w.heap.size) (hg:xG E L w) (ha:Rs cg w L args vs.toList):
  lQ P ((callFunc f vs).run P w) (fun v w'=>Below w.heap.size w w'/\R cg w' L r v):=by
 refine .inr (.inl ⟨f,vs,w,jR V lT vs w,?_⟩);obtain⟨fn,f1,f2,f3,f4,f5,f6⟩:=V.fn f fi lT;have hL:Live L cg ([]:Hp)=L:=by
  funext c;refine propext ⟨?_,.inl⟩;rintro(h|⟨b,dI,co,h,_⟩)
  ·exact h
  ·simp at h
 have S:fT E L w cg [] w:=by
  refine⟨Below.refl _ _,ik,?_,?_,?_,?_,?_,?_⟩
  ·intro b p h;cases h
  ·intro b dI h;simp at h
  ·intro b b' dI blk' c co co' h;simp at h
  ·rw[hL];exact hg
  ·intro b dI h;simp at h
  ·intro b p h;cases h
 refine callsIn_of_wp_marks f1 f2 trivial ?_;have hl:=ha.length;simp only[aNf]at hl;refine h Fence.wide (.inl rfl) w.heap.size L w cg w _ (aLt _) (aLt _) ⟨S,?_,⟨[],by simp,rfl,by simp⟩⟩ _ fun ex oe H2 hq a' w' ι' k1 k2 k3=>?_
 ·simp only[Array.toList_append,Array.toList_replicate];rw[f3,<-hl,hL];exact ha.append (qY _)
 ·obtain⟨hex,rs,bs,il,gH⟩:=hq;obtain⟨ks,n1,n2,n3⟩:=k3.S8;have lE:LeavesInM Fence.wide 0 P fn a'.tmps (LK fun v w'=>Below w.heap.size w w'/\R cg w' L r v) a'.defers .returning w':=by
   rw[n2];refine nT V (by rw[f4];exact il) ks w' k3.Bs k3.tm n1 n3 (aLt _) fun w2 cv b1 b2 b3 b4 b5=>?_
   refine⟨b2.below,?_⟩;have vO:Rs ι' w2 (Live L ι' H2) [gV rs] [cv]:=by simp only[Rs];exact⟨_,_,rfl,b5,rfl⟩
   have:=qb b2 vO gH
   simp only[Rs]at this;obtain⟨y,ys,q1,q2,_⟩:=this;cases q1;exact R.ext (tv fun c hc=>.inl hc) _ _ _ _ (cT.le_refl _) q2
  cases ex with
  |normal=>exact lE
  |ret=>exact lE
  |exit id=>exact absurd rfl (hex id)
def SP{Lo:Nat->Prop}{w0:World}{ι:cT}{w:World}{B:Nat}{a:Act}(S:St E B Lo w0 ι H ts a w){r:Nat}{m:Option Nat}{si:Nat}{seen:Array Nat}{st:Nat}{o':Obj}
  (h:w.heap[r]?=some (.mapIter m si seen st)) (hk:w0.heap.size<=r) {w1:World} (hw:w1=w∨w1=w.drew):
  St E B Lo w0 ι H ts a (jO w1 r o')/\(∀c,c≠r->(jO w1 r o').heap[c]?=w.heap[c]?)/\(jO w1 r o').heap[r]?=some o'/\(jO w1 r o').heap.size=w.heap.size:=by
 have hh:w1.heap=w.heap:=by rcases hw with rfl|rfl<;>rfl
 have S1:fT E Lo w0 ι H w1/\Ext w (Live Lo ι H) w1 (Live Lo ι H):=by
  rcases hw with rfl|rfl
  ·exact⟨S.Bs,Ext.refl _ _⟩
  ·exact S.Bs.drew rfl rfl rfl rfl
 have h':w1.heap[r]?=some (.mapIter m si seen st):=by rw[hh];exact h
 have X:Ei w1 (Live Lo ι H) (jO w1 r o') (Live Lo ι H):=Dz h';have O:=kR (o:=o') (w1:=w1) rfl rfl rfl rfl h';have ne:∀(c:Nat) (ob:Obj),w1.heap[c]?=some ob->(∀m a b d,ob≠ .mapIter m a b d)->(jO w1 r o').heap[c]?=some ob:=fun c ob hc hd=>by
  rw[O.there c (fun q=>by subst q;rw[h']at hc;cases hc;exact hd _ _ _ _ rfl)];exact hc
 have Sm:fT E Lo w0 ι H (jO w1 r o'):=by
  refine⟨S1.1.below.trans (O.below hk),S1.1.lo,?_,?_,S1.1.inj,?_,S1.1.qa,S1.1.res⟩
  ·intro b p hp
   have:=S1.1.Ik b p hp
   exact⟨this.1,by rw[O.size];exact this.2⟩
  ·intro b dI hb hd;obtain⟨cb,co,ob,g1,g2,g3,g4,g5⟩:=S1.1.obj b dI hb hd;refine⟨cb,co,ob,g1,ne cb ob g2 ?_,g3.k7 X (cT.le_refl _),g4,g5⟩;intro ma mb mc md q;subst q;cases dI<;>simp only[fY]at g3
   case cells=>obtain⟨_,_,_,q,_⟩:=g3;cases q
   case map=>obtain⟨_,_,q,_⟩:=g3;cases q
   case iF=>cases g3.2
   case loop=>obtain⟨_,q,_⟩:=g3;cases q
  ·intro g cs hg;obtain⟨c,e,f,h1,h2,h3,hz⟩:=S1.1.glob g cs hg;exact⟨c,e,f,(X.QZ h1 h2).1,h2,iH.k7 X _ _ _ _ _ (cT.le_refl _) h3,hz⟩
 refine⟨⟨Sm,Rs.k7 X _ _ _ _ (cT.le_refl _) (Rs.ext S1.2 _ _ _ _ (cT.le_refl _) S.tm),?_⟩,fun c hc=>by rw[O.there c hc,hh],O.here,by rw[O.size,hh]⟩;obtain⟨ks,n1,n2,n3⟩:=S.S8;refine⟨ks,n1,n2,fun k sM=>?_⟩;obtain⟨g1,g2,g3⟩:=n3 k sM;exact⟨ne k _ (by rw[hh];exact g1) (by simp),g2,g3⟩
def Ext.iter{w w' w'':World}{L L':Nat->Prop}(X:Ext w L w' L'){r:Nat}(hr:w.heap.size<=r)(hs:w''.heap.size=w'.heap.size)(ej:∀c,c≠r->w''.heap[c]?=w'.heap[c]?):Ext w L w'' L':=by
 refine⟨by rw[hs];exact X.size,fun c hc hl=>?_,fun c cs e f hc=>?_⟩
 ·have:=X.old c hc hl
  exact⟨by rw[ej c (by omega)];exact this.1,this.2⟩
 ·obtain⟨As,f',h1,h2⟩:=X.shape c cs e f hc
  have:c<w.heap.size:=eF hc
  exact⟨As,f',by rw[ej c (by omega)];exact h1,h2⟩
structure Iter(w:World)(L:Nat->Prop)(r bm since:Nat)(es:Array MapEntry)(clock:Nat)(is:List Nat):Prop where
 it:w.heap[r]?=some (.mapIter (some bm) since (is.map fun i=>((es[i]?).map (·.born)).getD 0).toArray clock)
 mp:w.heap[bm]?=some (.map es clock)
 nr:¬L r
 nm:¬L bm
def Iter.ext{w w':World}{L L':Nat->Prop}{r bm since:Nat}{es:Array MapEntry}{clock:Nat}{is:List Nat}(h:Iter w L r bm since es clock is)(X:Ext w L w' L'):Iter w' L' r bm since es clock is:=
 ⟨(X.keep h.it h.nr).1,(X.keep h.mp h.nm).1,(X.keep h.it h.nr).2,(X.keep h.mp h.nm).2⟩
def KP{n:Nat}{is:List Nat}(hn:is.Nodup)(eh:∀i∈is,i<n)(qd:∀i,i<n->i∈is):is.Perm (aOR n):=by
 refine(aOP hn aOT).2 fun i=>⟨fun h=>aOo.2 (eh i h),fun h=>qd i (aOo.1 h)⟩
def yA{n:Nat}{l:List Nat}(hn:l.Nodup)(eh:∀i∈l,i<n):l.length<=n:=by
 have:l.Perm ((aOR n).filter fun i=>decide (i∈l)):=(aOP hn (aOT.filter _)).2 fun i=>by
  rw[List.mem_filter];exact⟨fun h=>⟨aOo.2 (eh i h),by simpa using h⟩,fun h=>by simpa using h.2⟩
 rw[this.length_eq];exact aNW (List.length_filter_le _ _) (by simp)
def Ob(V:Valid E P)(O:o5 E P){F:Fence}(hF:ka F){s d1 d2 d3 r20 r21 id b7:Nat}{Dx AM:Array Oper}{oN oX oE:Oper}{Ac:List Oper}{R0:Code}
  (h20:Dx.toList=[oN,oX]) (h21:AM.toList=oE::Ac)
  (hN:oN.op=.next (.tmp s) false) (hNd:oN.dst=some d1) (hNg:oN.guard=none)
  (hX:oX.op=.extract (.tmp d1) 0) (Sr:oX.dst=some d2) (hXg:oX.guard=none)
  (hEn:oE.op=.entry (.tmp s)) (hEd:oE.dst=some d3) (hEg:oE.guard=none)
  (wO:d1≠s) (lN:d2≠s) (aj9:codeOk E R0=true) (aki:flat R0=true)
  {N:Nat} (hN1:d1<N) (hN2:d2<N)
  {ks vs:List AV} {es:Array MapEntry} {clock since r bm:Nat} (hWf:Uh es since) (LU:since<=clock)
  (I:List Nat->List AV->Hp->Prop) (hIs:∀is ts H,I is ts H->ts[s]?=some (.ie r 0)/\ts.length=N)
  (Jj:∀is i k v ts H,i∉is->ks[i]?=some k->vs[i]?=some v->I is ts H->
   ∃n ts1 H1 oe H2,qi E (jF E (bS E n)) (kQ E (bS E n)) (lL (bS E n)) AM.toList Ac (((ts.set d1 (.tuple [.bool true,k,v])).set d2 (.bool true)).set d3 (.tuple [k,v])) H=some (ts1,H1)/\
    bS E n R0 ts1 H1=some (.normal,oe,H2)/\I (is++[i]) oe H2)
  {B:Nat} {Lo:Nat->Prop} {w0:World} (hB:w0.heap.size<=B) {ιS:cT} {wS:World} {LS:Nat->Prop} (hr:wS.heap.size<=r) (hBS:B<=wS.heap.size)
  {K:Exit->Act->World->Prop}
  (MS:∀is ts H,is.Perm (aOR es.size)->I is ts H->∀a' w' ι',ιS.le ι'->Ext wS LS w' (Live Lo ι' H)->St E B Lo w0 ι' H ((ts.set d1 (.tuple [.bool false])).set d2 (.bool false)) a' w'->K (.exit id) a' w'):
  ∀(k:Nat) (is:List Nat) (ts:List AV) (H:Hp) (a:Act) (w:World) (ι:cT),es.size-is.length<k->is.Nodup->(∀i∈is,i<es.size)->I is ts H->
   St E B Lo w0 ι H ts a w->ιS.le ι->Ext wS LS w (Live Lo ι H)->Iter w (Live Lo ι H) r bm since es clock is->
   Rs ι w (Live Lo ι H) ks (es.toList.map (·.key))->Rs ι w (Live Lo ι H) vs (es.toList.map (·.val))->
   Code.roundsIn F 0 P (.seq (.region r20 Dx false) (.seq (.cond (.tmp d2) .skip (.exit id)) (.block b7 (.seq (.region r21 AM false) R0)))) K k a w:=by
 intro k;induction k with
 |zero=>intro is ts H a w ι hk;omega
 |succ k ih=>
  intro is ts H a w ι hk hnd eh hI S hle X It hks hvs;rw[roundsIn_succ];obtain⟨hs,hlen⟩:=hIs is ts H hI;have Sn:w0.heap.size<=r:=by omega
  have Qs:=S.tm.length;simp only[aNf]at Qs;have hit:a.eval (.tmp s)=.pointer (some ⟨r,0,none⟩):=by
   have:=dS S.tm (x:=.tmp s) (av:=.ie r 0) (by simp[bU,hs])
   simpa[R]using this
  have SB:∀(o:Oper) (l:List AV) (H':Hp),dH E (jF E (bS E 0)) (kQ E (bS E 0)) (lL (bS E 0)) false l H' H'.length o=dH E (jF E (bS E 0)) (kQ E (bS E 0)) (lL (bS E 0)) false l H' H'.length o:=fun _ _ _=>rfl
  have aqQ:∀(b:Bool) (rest:List AV),qi E (jF E (bS E 0)) (kQ E (bS E 0)) (lL (bS E 0)) Dx.toList [oX] (ts.set d1 (.tuple (.bool b::rest))) H=
    some ((ts.set d1 (.tuple (.bool b::rest))).set d2 (.bool b),H):=by
   intro b rest;have hg:(ts.set d1 (.tuple (.bool b::rest)))[d1]?=some (.tuple (.bool b::rest)):=by rw[aOl (by omega)]
   simp only[qi,bV,bE,hXg,if_true,dH,hX,bU,hg,aNk,List.getElem?_cons_zero,aMi,bA,Sr,cF.app,List.foldl_nil]
  have yi:=rz V O 0;have hp:=vt V O yi;have hi:=yQ V O yi;have hy:=oJ V yi;have agz:(execOp a.eval oN).run P w=((Instr.next (.pointer (some ⟨r,0,none⟩)) false oN.type).run P w).andThen fun v w'=>.ok (.value v) w':=by simp only[execOp,hN,hit,Sem.run_bind,Sem.run_pure]
  have hdN:∀c,oN.op≠ .defer c:=by rw[hN];intro c q;cases q
  have hdE:∀c,oE.op≠ .defer c:=by rw[hEn];intro c q;cases q
  refine wpIn_seq (wpIn_region_list ?_);rw[h20];unfold wpListIn;have yq:Region.wanted oN (yielded Dx a.tmps)=true:=by unfold Region.wanted;rw[hNg]
  rw[if_pos yq];rcases run_next_at (P:=P) w oN.type r bm since clock _ es clock It.it It.mp hWf.1 LU with⟨h0,gy⟩|⟨e,he,w1,aAt,gy⟩
  ·
   refine lQ.wpIn (Rr:=fun cv w'=>cv=.tuple #[.bool false]/\w'=w) hF hdN (.inl ⟨.tuple #[.bool false],w,by rw[agz,gy];rfl,rfl,rfl⟩) ?_;rintro cv w' ⟨rfl,rfl⟩;rw[hNd];have hR:R ι w' (Live Lo ι H) (.tuple [.bool false]) (.tuple #[.bool false]):=by simp[R,Rs]
   have S1:St E B Lo w0 ι H (ts.set d1 (.tuple [.bool false])) (a.put (some d1) (.tuple #[.bool false])) w':=⟨S.Bs,Gk S.tm hR (some d1),S.S8.ext (Ext.refl _ _) (put_defers _ _ _)⟩;refine yH V hp hi hy hF [oX] _ H _ H ι w' _ (aqQ false []) S1 fun a2 w2 ι2 k1 k2 k3=>?_
   show Code.wpIn F 0 P _ _ a2 w2
   refine wpIn_seq (wpIn_cond_false ?_ (wpIn_exit ?_))
   ·have:=dS k3.tm (x:=.tmp d2) (av:=.bool false) (by simp only[bU];rw[aOl (by simp;omega)];rfl)
    simpa[R]using this
   ·refine MS is ts H (KP hnd eh fun i hi=>?_) hI a2 w2 ι2 (cT.le_trans hle k1) (X.trans k2) k3;have hb:(Array.filter (fun e=>!((is.map fun i=>((es[i]?).map (·.born)).getD 0).toArray).contains e.born) es).size=0:=h0;have hb:=Array.eq_empty_of_size_eq_zero hb;rw[Array.filter_eq_empty_iff]at hb
    have:=hb es[i] (Array.getElem_mem hi)
    have this:((is.map fun i=>((es[i]?).map (·.born)).getD 0).toArray).contains es[i].born=true:=by simpa using this
    rw[aOQ,aOU,List.mem_map]at this;obtain⟨j,hj,he⟩:=this;have hjl:=eh j hj;rw[aL2 hjl]at he;simp only[aMi,aNk]at he;have tJ:j=i:=by
     have hnn:=hWf.2;rw[List.nodup_iff_pairwise_ne,List.pairwise_iff_getElem]at hnn;rcases Nat.lt_trichotomy j i with q|q|q
     ·have q':=hnn j i (by simpa using hjl) (by simpa using hi) q;simp only[aOV,aOS]at q';exact absurd he q'
     ·exact q
     ·have q':=hnn i j (by simpa using hi) (by simpa using hjl) q;simp only[aOV,aOS]at q';exact absurd he.symm q'
    rw[<-tJ];exact hj
  ·
   have he':e∈Array.filter (fun e=>!((is.map fun i=>((es[i]?).map (·.born)).getD 0).toArray).contains e.born) es:=by simpa[leftOf]using he
   rw[Array.mem_filter]at he';obtain⟨hem,hen⟩:=he';obtain⟨i,qF,ku⟩:=Array.getElem_of_mem hem;have sA:es[i]?=some e:=by rw[aL2 qF,ku]
   have hni:i∉is:=by
    intro LM
    have:((is.map fun i=>((es[i]?).map (·.born)).getD 0).toArray).contains e.born=true:=by
     rw[aOQ,aOU,List.mem_map];exact⟨i,LM,by rw[sA];rfl⟩
    rw[this]at hen;simp at hen
   obtain⟨kA,hkA,hkR⟩:∃kA,ks[i]?=some kA/\R ι w (Live Lo ι H) kA e.key:=by
    have hl:=hks.length
    have:i<ks.length:=by simp at hl;omega
    obtain⟨v,g1,g2⟩:=hks.get i ks[i] (aL6 this);rw[aM4,aLR,sA]at g1;cases g1;exact⟨_,aL6 this,g2⟩
   obtain⟨vA,hvA,hvR⟩:∃vA,vs[i]?=some vA/\R ι w (Live Lo ι H) vA e.val:=by
    have hl:=hvs.length
    have:i<vs.length:=by simp at hl;omega
    obtain⟨v,g1,g2⟩:=hvs.get i vs[i] (aL6 this);rw[aM4,aLR,sA]at g1;cases g1;exact⟨_,aL6 this,g2⟩
   refine lQ.wpIn (Rr:=fun cv w'=>cv=.tuple #[.bool true,e.key,e.val]/\w'=jO w1 r (.mapIter (some bm) since ((is.map fun i=>((es[i]?).map (·.born)).getD 0).toArray.push e.born) clock)) hF hdN
    (.inl ⟨.tuple #[.bool true,e.key,e.val],_,by rw[agz,gy];rfl,rfl,rfl⟩) ?_
   rintro cv w' ⟨rfl,rfl⟩;rw[hNd];obtain⟨T,t1,t2,t3⟩:=SP S (o':=.mapIter (some bm) since ((is.map fun i=>((es[i]?).map (·.born)).getD 0).toArray.push e.born) clock) It.it Sn aAt;generalize jO w1 r (.mapIter (some bm) since ((is.map fun i=>((es[i]?).map (·.born)).getD 0).toArray.push e.born) clock)=wn at T t1 t2 t3⊢;have ej:bm≠r:=by rintro rfl;have:=It.it;rw[It.mp]at this;cases this
   have It2:Iter wn (Live Lo ι H) r bm since es clock (is++[i]):=by
    refine⟨?_,by rw[t1 bm ej];exact It.mp,It.nr,It.nm⟩;rw[t2,List.map_append,List.map_cons,List.map_nil,sA]
    simp
   have X2:Ext wS LS wn (Live Lo ι H):=X.iter hr t3 t1;have XK:Ei w (Live Lo ι H) wn (Live Lo ι H):=by
    refine⟨fun{c cs e f} hc hl=>⟨?_,hl⟩,fun{c es n} hc hl=>⟨?_,hl⟩,fun c cs e f hc=>⟨cs,f,?_,rfl⟩⟩
    all_goals (rw[t1 c (by rintro rfl;rw[It.it]at hc;cases hc)];exact hc)
   have atj:=R.k7 XK _ _ _ _ (cT.le_refl ι) hkR;have atQ:=R.k7 XK _ _ _ _ (cT.le_refl ι) hvR;have azN:=Rs.k7 XK _ _ _ _ (cT.le_refl ι) hks;have aAq:=Rs.k7 XK _ _ _ _ (cT.le_refl ι) hvs;have hR:R ι wn (Live Lo ι H) (.tuple [.bool true,kA,vA]) (.tuple #[.bool true,e.key,e.val]):=by simp only[R,Rs];exact⟨_,rfl,_,_,rfl,rfl,_,_,rfl,atj,_,_,rfl,atQ,rfl⟩
   have S1:St E B Lo w0 ι H (ts.set d1 (.tuple [.bool true,kA,vA])) (a.put (some d1) (.tuple #[.bool true,e.key,e.val])) wn:=⟨T.Bs,Gk T.tm hR (some d1),T.S8.ext (Ext.refl _ _) (put_defers _ _ _)⟩;refine yH V hp hi hy hF [oX] _ H _ H ι wn _ (aqQ true [kA,vA]) S1 fun a2 w2 ι2 k1 k2 k3=>?_
   show Code.wpIn F 0 P _ _ a2 w2
   refine wpIn_seq (wpIn_cond_true ?_ (wpIn_skip ?_))
   ·have:=dS k3.tm (x:=.tmp d2) (av:=.bool true) (by simp only[bU];rw[aOl (by simp;omega)];rfl)
    simpa[R]using this
   show Code.wpIn F 0 P _ _ a2 w2
   have It3:=It2.ext k2;have X3:=X2.trans k2;have azO:=Rs.ext k2 _ _ _ _ k1 azN;have aAr:=Rs.ext k2 _ _ _ _ k1 aAq;have azK:=R.ext k2 _ _ _ _ k1 atj;have aAo:=R.ext k2 _ _ _ _ k1 atQ;refine wpIn_block (wpIn_seq (wpIn_region_list ?_));rw[h21];unfold wpListIn;have Bj:Region.wanted oE (yielded AM a2.tmps)=true:=by unfold Region.wanted;rw[hEg]
   rw[if_pos Bj];have azH:a2.eval (.tmp s)=.pointer (some ⟨r,0,none⟩):=by
    have:=dS k3.tm (x:=.tmp s) (av:=.ie r 0) (by
     simp only[bU];rw[aOj lN,aOj wO,hs];rfl)
    simpa[R]using this
   have ath:=It3.it;rw[List.map_append,List.map_cons,List.map_nil,sA]at ath;have akh:=run_entry_at (P:=P) w2 r bm since ((is.map fun i=>((es[i]?).map (·.born)).getD 0).toArray) es clock e (by rw[ath];simp) It3.mp (by simpa using hem) hWf.2;refine lQ.wpIn (Rr:=fun cv w'=>cv=.tuple #[e.key,e.val]/\w'=w2) hF hdE (.inl ⟨.tuple #[e.key,e.val],w2,by simp only[execOp,hEn,azH,Sem.run_bind,Sem.run_pure,akh,Result.andThen_ok],rfl,rfl⟩) ?_;rintro cv w' ⟨rfl,rfl⟩;rw[hEd];have hR2:R ι2 w' (Live Lo ι2 H) (.tuple [kA,vA]) (.tuple #[e.key,e.val]):=by simp only[R,Rs];exact⟨_,rfl,_,_,rfl,azK,_,_,rfl,aAo,rfl⟩
   have S3:St E B Lo w0 ι2 H (((ts.set d1 (.tuple [.bool true,kA,vA])).set d2 (.bool true)).set d3 (.tuple [kA,vA])) (a2.put (some d3) (.tuple #[e.key,e.val])) w':=
    ⟨k3.Bs,Gk k3.tm hR2 (some d3),k3.S8.ext (Ext.refl _ _) (put_defers _ _ _)⟩
   obtain⟨n,ts1,H1,oe,H2,b1,b2,b3⟩:=Jj is i kA vA ts H hni hkA hvA hI;have nh:=rz V O n;have hB2:B<=w'.heap.size:=aNW hBS X3.size;refine yH V (vt V O nh) (yQ V O nh) (oJ V nh) hF Ac _ H ts1 H1 ι2 w' _ b1 S3 fun a4 w4 ι4 m1 m2 m3=>?_
   show Code.wpIn F 0 P _ _ a4 w4
   refine nh R0 ts1 H1 .normal oe H2 b2 aj9 F hF (.inr aki) B Lo w0 ι4 w4 a4 hB (aNW hB2 m2.size) m3 _ fun a5 w5 ι5 q1 q2 q3=>?_
   show Code.roundsIn F 0 P _ _ k a5 w5
   have XX:=m2.trans q2;have Xz:(is++[i]).Nodup:=List.nodup_append.2 ⟨hnd,by simp,fun x hx y hy=>by simp at hy;subst hy;rintro rfl;exact hni hx⟩;have atv:∀j∈is++[i],j<es.size:=fun j hj=>by
    rcases List.mem_append.1 hj with hj|hj
    ·exact eh j hj
    ·simp at hj;omega
   have ιι:=cT.le_trans m1 q1;refine ih (is++[i]) oe H2 a5 w5 ι5 ?_ ?_ ?_ b3 q3 (cT.le_trans (cT.le_trans hle k1) ιι) (X3.trans XX) (It3.ext XX) (Rs.ext XX _ _ _ _ ιι azO) (Rs.ext XX _ _ _ _ ιι aAr)
   ·have:=yA Xz atv
    simp at this⊢;omega
   ·exact Xz
   ·exact atv
def Ao.mapRange(V:Valid E P)(O:o5 E P){s dm d1 d2 d3 r19 r20 r21 id b7 t kt et:Nat}{Q8 Dx AM:Array Oper}{oL oR oN oX oE:Oper}{Ac:List Oper}{R0:Code}
  (h19:Q8.toList=[oL,oR]) (h20:Dx.toList=[oN,oX]) (h21:AM.toList=oE::Ac)
  (hRo:oR.op=.range t (.tmp dm)) (hRd:oR.dst=some s) (hRg:oR.guard=none) {ti:sk} (M8:E.ty t=some ti) (eC:ti.cD=.map kt et)
  (hN:oN.op=.next (.tmp s) false) (hNd:oN.dst=some d1) (hNg:oN.guard=none)
  (hX:oX.op=.extract (.tmp d1) 0) (Sr:oX.dst=some d2) (hXg:oX.guard=none)
  (hEn:oE.op=.entry (.tmp s)) (hEd:oE.dst=some d3) (hEg:oE.guard=none)
  (wO:d1≠s) (lN:d2≠s) (aj9:codeOk E R0=true) (aki:flat R0=true)
  {N:Nat} (hN1:d1<N) (hN2:d2<N)
  {m:Nat} {ts1:List AV} {e1:cF} {H1:Hp} (att:bV E (fun _ _=>none) (fun _ _ _=>none) (fun _ _ _=>none) false Q8.toList H.length oL ts H=some (ts1,e1)) (hH1:e1.app H=H1)
  (hm:ts1[dm]?=some (.eR m)) {ks vs:List AV} (hb:H1[m]?=some (.map .live ks vs))
  (I:Nat->List Nat->List AV->Hp->Prop) (hIs:∀r is ts H,I r is ts H->ts[s]?=some (.ie r 0)/\ts.length=N)
  (hI0:∀r,I r [] (ts1.set s (.ie r 0)) (mark H1 [m]))
  (Jj:∀r is i k v ts H,i∉is->ks[i]?=some k->vs[i]?=some v->I r is ts H->
   ∃n ts1 H1 oe H2,qi E (jF E (bS E n)) (kQ E (bS E n)) (lL (bS E n)) AM.toList Ac (((ts.set d1 (.tuple [.bool true,k,v])).set d2 (.bool true)).set d3 (.tuple [k,v])) H=some (ts1,H1)/\
    bS E n R0 ts1 H1=some (.normal,oe,H2)/\I r (is++[i]) oe H2)
  (MS:∀r is ts H,is.Perm (aOR vs.length)->I r is ts H->Q .normal ((ts.set d1 (.tuple [.bool false])).set d2 (.bool false)) H):
  Ao E P (.seq (.region r19 Q8 false) (.block id (.loop (.seq (.region r20 Dx false) (.seq (.cond (.tmp d2) .skip (.exit id)) (.block b7 (.seq (.region r21 AM false) R0))))))) ts H Q:=by
 intro F hF B Lo w0 ι w a hB BF S K hK;have yi:=rz V O 0;refine wpIn_seq (wpIn_region_list ?_);rw[h19];unfold wpListIn;have akx:=oO (pc':=jF E (bS E 0)) (ic':=kQ E (bS E 0)) (yc':=lL (bS E 0)) (fun _ _ _ h=>by cases h) (fun _ _ _ _ h=>by cases h) (fun _ _ _ _ h=>by cases h) att;refine DV V (vt V O yi) (yQ V O yi) (oJ V yi) S (yf S.Bs) akx hF fun a1 w1 ι1 k1 k2 k3=>?_
 rw[hH1]at k2 k3;unfold wpListIn;have hw:Region.wanted oR (yielded Q8 a1.tmps)=true:=by unfold Region.wanted;rw[hRg]
 rw[if_pos hw];obtain⟨bm,co,o,g1,g2,g3,g4,g5⟩:=k3.Bs.obj m _ hb (by simp[cE.st]);simp only[fY]at g3;obtain⟨es,clock,rfl,g6,g7,g8⟩:=g3;have hWf:Uh es clock:=by simpa using g8
 have nL:Live Lo ι1 H1 bm:=.inr ⟨m,_,co,hb,rfl,g1⟩;have hbm:bm<w1.heap.size:=eF g2;have hmv:a1.eval (.tmp dm)=.map (some bm):=by
  have:=dS k3.tm (x:=.tmp dm) (av:=.eR m) (by simp[bU,hm])
  simp only[R]at this;obtain⟨cb,co',q1,q2⟩:=this;rw[g1]at q1;cases q1
  exact q2
 have hu:=(V.ty t ti M8).cD;rw[eC]at hu;have gy:=run_range_map (P:=P) w1 t kt et bm es clock hu g2;have hdR:∀c,oR.op≠ .defer c:=by rw[hRo];intro c q;cases q
 refine lQ.wpIn (Rr:=fun cv w'=>cv=.pointer (some ⟨w1.heap.size,0,none⟩)/\w'=w1.alloc (.mapIter (some bm) clock #[] clock)) hF hdR
  (.inl ⟨_,_,by simp only[execOp,hRo,hmv,Sem.run_bind,Sem.run_pure,gy,Result.andThen_ok],rfl,rfl⟩) ?_
 rintro cv w' ⟨rfl,rfl⟩;rw[hRd];have mP:Below w1.heap.size w1 (w1.alloc (.mapIter (some bm) clock #[] clock)):=
  ⟨rfl,rfl,rfl,by show w1.heap.size<=(w1.heap.push _).size;simp,fun k hk=>by show(w1.heap.push _)[k]?=_;rw[aLr,if_neg (by omega)]⟩
 obtain⟨S1,X1⟩:=k3.Bs.later mP;obtain⟨S2,X2⟩:=S1.mark [m];have Ui:=X1.trans X2;have mh:(w1.alloc (.mapIter (some bm) clock #[] clock)).heap.size=w1.heap.size+1:=by show(w1.heap.push _).size=_;simp
 have agD:(w1.alloc (.mapIter (some bm) clock #[] clock)).heap[w1.heap.size]?=some (.mapIter (some bm) clock #[] clock):=by show(w1.heap.push _)[w1.heap.size]?=_;simp
 have eR:(w1.alloc (.mapIter (some bm) clock #[] clock)).heap[bm]?=some (.map es clock):=by
  show(w1.heap.push _)[bm]?=_
  rw[aLr,if_neg (by omega)];exact g2
 generalize w1.alloc (.mapIter (some bm) clock #[] clock)=wA at S1 X1 S2 X2 Ui mh agD eR⊢;have hR:R ι1 wA (Live Lo ι1 (mark H1 [m])) (.ie w1.heap.size 0) (.pointer (some ⟨w1.heap.size,0,none⟩)):=by simp[R]
 have SA:St E B Lo w0 ι1 (mark H1 [m]) (ts1.set s (.ie w1.heap.size 0)) (a1.put (some s) (.pointer (some ⟨w1.heap.size,0,none⟩))) wA:=
  ⟨S2,Gk (Rs.ext Ui _ _ _ _ (cT.le_refl _) k3.tm) hR (some s),k3.S8.ext Ui (put_defers _ _ _)⟩
 have hmk:(mark H1 [m])[m]?=some (.map .ro ks vs):=by
  simp only[mark,List.foldl_cons,List.foldl_nil,List.getElem?_modify,hb,if_true,cE.j8]
  simp
 have yn:¬Live Lo ι1 (mark H1 [m]) bm:=by
  obtain⟨bm',co',o',q1,q2,q3,q4,q5⟩:=S2.obj m _ hmk (by simp[cE.st]);rw[g1]at q1;cases q1
  exact q5 rfl
 have hnr:¬Live Lo ι1 (mark H1 [m]) w1.heap.size:=by
  intro hl
  have:Live Lo ι1 H1 w1.heap.size:=by
   rcases hl with hl|⟨b,dI,c,h1,h2,h3⟩
   ·exact .inl hl
   ·have:=k3.Bs.Ik b _ h3
    omega
  have:=Pr k3.Bs this
  omega
 show Code.wpIn F 0 P _ _ _ wA
 refine wpIn_block (wpIn_loop_rounds (es.size+1) ?_);have hB1:B<=w1.heap.size:=aNW BF k2.size;have hn:vs.length=es.size:=by have:=g7.length;simpa using this.symm
 refine Ob V O hF h20 h21 hN hNd hNg hX Sr hXg hEn hEd hEg wO lN aj9 aki hN1 hN2 hWf (aLt _) (I w1.heap.size) (hIs _) (fun is i k v ts H h1 h2 h3 h4=>Jj _ is i k v ts H h1 h2 h3 h4) hB
  (ιS:=ι1) (wS:=w1) (LS:=Live Lo ι1 H1) (aLt _) hB1 (fun is ts' H' hp hi a' w' ι' j1 j2 j3=>?_)
  (es.size+1) [] _ _ _ wA ι1 (by simp) (by simp) (by simp) (hI0 _) SA (cT.le_refl _) Ui ⟨by rw[agD];rfl,eR,hnr,yn⟩ (Rs.ext Ui _ _ _ _ (cT.le_refl _) g6) (Rs.ext Ui _ _ _ _ (cT.le_refl _) g7)
 show Exit.inBlock id K (.exit id) a' w'
 simp only[Exit.inBlock,if_true];exact hK .normal _ _ (MS _ is ts' H' (by rw[hn];exact hp) hi) a' w' ι' (cT.le_trans k1 j1) (k2.trans j2) j3
def OM:List Code->Code->Code
 |[],c=>c
 |x::l,c=>.seq x (OM l c)
def I9(E:Env)(n:Nat):List Code->List AV->Hp->Option (List AV×Hp)
 |[],ts,H=>some (ts,H)
 |x::l,ts,H=>match bS E n x ts H with
  |some (.normal,ts',H')=>I9 E n l ts' H'
  |_=>none
def Ao.OM(V:Valid E P)(O:o5 E P){n:Nat}{c:Code}:∀{l:List Code} {ts:List AV} {H:Hp} {ts':List AV} {H':Hp},I9 E n l ts H=some (ts',H')->(l.all fun x=>codeOk E x&&flat x)=true->Ao E P c ts' H' Q->
  Ao E P (Dv.OM l c) ts H Q
 |[],ts,H,ts',H',h,_,hs=>by cases h;exact hs
 |x::l,ts,H,ts',H',h,hl,hs=>by
  unfold I9 at h;simp only[List.all_cons,Bool.and_eq_true]at hl;cases hq:bS E n x ts H with
  |none=>rw[hq]at h;cases h
  |some q=>
   obtain⟨ex,t1,H1⟩:=q;rw[hq]at h;cases ex<;>try (cases h)
   exact Ao.seq (Ao.agW V O ⟨n,_,_,_,hq,Ao.OM V O h (by simpa using hl.2) hs⟩ hl.1.1 hl.1.2)
end
end
def gt(ts:List AV)(i:Nat):AV:=ts[i]?.getD bT
def aN{ts:List AV}{i:Nat}{v:AV}(h:i<ts.length):gt (ts.set i v) i=v:=by unfold gt;rw[aOl h];rfl
def aZ{ts:List AV}{i j:Nat}{v:AV}(h:i≠j):gt (ts.set i v) j=gt ts j:=by unfold gt;rw[aOj h]
section
variable{E:Env}{pc:Pc}{ic yc:Ic}{dr:Bool}{ops:List Oper}{aR:Nat}{ts:List AV}{H:Hp}
def aQ{i:Nat}:bU ts (.tmp i)=some (gt ts i):=rfl
def dh{k:IntKind}{n:Int}:bU ts (.const (.int k n))=some (.int k n):=rfl
def Cy{b:Bool}:bU ts (.const (.bool b))=some (.bool b):=rfl
def lA{f:Nat}:bU ts (.func f)=some (.func f [] []):=rfl
def WB{g:Nat}:bU ts (.global g)=some (.ie g 0):=rfl
def qB:bU ts (.const (.slice none 0 0))=some .aH:=rfl
def dO:kr ts []=some []:=rfl
def eX{d:Option Nat}{op:Op}{t:Nat}{p:String}{af:Array Edge}{j dj:Nat}{want:Bool}(hj:(ops[j]?).bind (·.dst)=some dj)(hd:gt ts dj=.bool want):
  bV E pc ic yc dr ops aR ⟨d,op,t,p,af,some (j,want)⟩ ts H=bV E pc ic yc dr ops aR ⟨d,op,t,p,af,none⟩ ts H:=by
 have h:ts[dj]?=some (.bool want):=by
  unfold gt at hd;cases hq:ts[dj]? with
  |none=>rw[hq]at hd;cases hd
  |some x=>rw[hq]at hd;simp only[aNk]at hd;rw[hd]
 unfold bV bE;simp only[hj,h,beq_self_eq_true,if_true];rfl
def eG{d:Option Nat}{op:Op}{t:Nat}{p:String}{af:Array Edge}{j dj:Nat}{want b:Bool}(hj:(ops[j]?).bind (·.dst)=some dj)(hd:gt ts dj=.bool b)(hb:b≠want:=by simp):
  bV E pc ic yc dr ops aR ⟨d,op,t,p,af,some (j,want)⟩ ts H=some (bA d bT ts,.bJ []):=by
 have h:ts[dj]?=some (.bool b):=by
  unfold gt at hd;cases hq:ts[dj]? with
  |none=>rw[hq]at hd;cases hd
  |some x=>rw[hq]at hd;simp only[aNk]at hd;rw[hd]
 unfold bV bE
 have:(b==want)=false:=by simpa using hb
 simp only[hj,h,this,aLT,if_false]
variable{d:Nat}{t:Nat}{p:String}{af:Array Edge}
def cR{x:Operand}{v:AV}(h:bU ts x=some v):bV E pc ic yc dr ops aR ⟨some d,.move x,t,p,af,none⟩ ts H=some (ts.set d v,.bJ []):=by simp[bV,bE,dH,h,bA]
def gE{x:Operand}{v:AV}(h:bU ts x=some v):bV E pc ic yc dr ops aR ⟨some d,.assign x,t,p,af,none⟩ ts H=some (ts.set d v,.bJ []):=by simp[bV,bE,dH,h,bA]
def HU{c a b:Operand}{q:Bool}{v:AV}(hc:bU ts c=some (.bool q))(h:bU ts (if q then a else b)=some v):bV E pc ic yc dr ops aR ⟨some d,.pick c a b,t,p,af,none⟩ ts H=some (ts.set d v,.bJ []):=by
 simp only[bV,bE,dH,hc,bA,if_true];cases q<;>simp_all
def gZ{op:BinOp}{t1 t2:Nat}{x y:Operand}{u v r:AV}(hx:bU ts x=some u)(hy:bU ts y=some v)(h:cp E (bC x||bC y) op t1 u v=some r):
  bV E pc ic yc dr ops aR ⟨some d,.binOp op t1 x y t2,t,p,af,none⟩ ts H=some (ts.set d r,.bJ []):=by
 simp[bV,bE,dH,hx,hy,h,bA]
def iR{t1:Nat}{x y:Operand}{u v r:AV}(hx:bU ts x=some u)(hy:bU ts y=some v)(h:cd E t1 u v=some r):
  bV E pc ic yc dr ops aR ⟨some d,.indexAddr t1 x y,t,p,af,none⟩ ts H=some (ts.set d r,.bJ []):=by
 simp[bV,bE,dH,hx,hy,h,bA]
def rR{t1:Nat}{x:Operand}{u r:AV}(hx:bU ts x=some u)(h:dU E H t1 u=some r):
  bV E pc ic yc dr ops aR ⟨some d,.load t1 x,t,p,af,none⟩ ts H=some (ts.set d r,.bJ []):=by
 simp[bV,bE,dH,hx,h,bA]
def yT{t1:Nat}{x y:Operand}{u v:AV}{l:List (Nat×cE)}(hx:bU ts x=some u)(hy:bU ts y=some v)(h:fh E H t1 u v=some l):
  bV E pc ic yc dr ops aR ⟨none,.store t1 x y,t,p,af,none⟩ ts H=some (ts,.bJ l):=by
 simp[bV,bE,dH,hx,hy,h,bA]
def Ln{t1:Nat}{z:AV}(h:ek E t1=some z):
  bV E pc ic yc dr ops aR ⟨some d,.alloc t1,t,p,af,none⟩ ts H=some (ts.set d (.bK aR 0),.bJ [(aR,.cells .live z.cells)]):=by
 simp[bV,bE,dH,h,bA]
def OT{s1 d1:Nat}{x:Operand}{k k':IntKind}{n:Int}{si di:sk}(hx:bU ts x=some (.int k n))(hs:E.ty s1=some si)(hd:E.ty d1=some di)(hk:di.cD=.int k'):
  bV E pc ic yc dr ops aR ⟨some d,.convert s1 d1 x,t,p,af,none⟩ ts H=some (ts.set d (.int k' (aW k' n)),.bJ []):=by
 obtain⟨cD,jA,jS,jB,jZ,dK⟩:=di;simp only at hk;subst hk
 simp[bV,bE,dH,hx,hs,hd,bA,Cn]
def OU{x:Operand}{vs:List AV}{i:Nat}{v:AV}(hx:bU ts x=some (.tuple vs))(hv:vs[i]?=some v):
  bV E pc ic yc dr ops aR ⟨some d,.extract x i,t,p,af,none⟩ ts H=some (ts.set d v,.bJ []):=by
 simp[bV,bE,dH,hx,hv,bA]
def rQ{bi:Builtin}{args:Array Operand}{ats:Array Nat}{al:List AV}{r:AV}{l:List (Nat×cE)}(ha:kr ts args.toList=some al)(h:bM E H aR bi ats.toList al=some (r,l)):
  bV E pc ic yc dr ops aR ⟨some d,.call {callee:=.builtin bi,args:=args,argTypes:=ats},t,p,af,none⟩ ts H=some (ts.set d r,.bJ l):=by
 simp[bV,bE,dH,ha,h,bA]
def Z3{f:Nat}{fo:Operand}{args:Array Operand}{ats:Array Nat}{al first cap:List AV}{r:AV}(hf:bU ts fo=some (.func f first cap))(ha:kr ts args.toList=some al)
  (hp:∀fi,E.fn f=some fi->fi.pure=true) (hz:aV (first++al++cap)=true) (hr:pc f (first++al++cap)=some r):
  bV E pc ic yc dr ops aR ⟨some d,.call {callee:=.value fo,args:=args,argTypes:=ats},t,p,af,none⟩ ts H=
   some (ts.set d r,if bQ r then .looks []else .marks []):=by
 cases fC:E.fn f with
 |none=>simp only[bV,bE,dH,hf,ha,ke,bA,fC,bX,hz,hr,if_true,aMi]
 |some fi=>
  obtain⟨code,ntmps,results,pu,du⟩:=fi
  have:=hp _ fC
  simp only at this;subst this;simp only[bV,bE,dH,hf,ha,ke,bA,fC,bX,hz,hr,if_true,aMi]
def Gq{f:Nat}{fo:Operand}{args:Array Operand}{ats:Array Nat}{al:List AV}{r:AV}(hf:bU ts fo=some (.func f [] []))(ha:kr ts args.toList=some al)
  (hp:∀fi,E.fn f=some fi->fi.pure=true) (hz:aV al=true) (hr:pc f al=some r):
  bV E pc ic yc dr ops aR ⟨some d,.call {callee:=.value fo,args:=args,argTypes:=ats},t,p,af,none⟩ ts H=
   some (ts.set d r,if bQ r then .looks []else .marks []):=by
 refine Z3 hf ha hp ?_ ?_
 ·simpa using hz
 ·simpa using hr
end
section
variable{E:Env}{ops:List Oper}{rest:List Oper}{ts:List AV}{H:Hp}{q:List AV->Hp->Prop}{aR:Nat}
def Q4(pc:Pc):Gx (fun _ _=>none) pc:=fun _ _ _ h=>by cases h
def pR(ic:Ic):vJ (fun _ _ _=>none) ic:=fun _ _ _ _ h=>by cases h
def gz.V2{d:Option Nat}{t:Nat}{p:String}{af:Array Edge}{g:Option (Nat×Bool)}{f:Nat}{fo:Operand}{args:Array Operand}{ats:Array Nat}{al:List AV}{r:AV}{ts1:List AV}{e:cF}
  (hc:∃m,call E m f al=some r)
  (h1:∀pc:Pc,pc f al=some r->bV E pc (fun _ _ _=>none) (fun _ _ _=>none) false ops H.length ⟨d,.call {callee:=.value fo,args:=args,argTypes:=ats},t,p,af,g⟩ ts H=some (ts1,e))
  (h:gz E ops rest ts1 (e.app H) q):gz E ops (⟨d,.call {callee:=.value fo,args:=args,argTypes:=ats},t,p,af,g⟩::rest) ts H q:=by
 obtain⟨n,ts',H',k1,k2⟩:=h;obtain⟨m,hm⟩:=hc;have l1:=cY (E:=E) (aOt n m);have l2:=cY (E:=E) (aOs n m);refine⟨max n m,ts',H',?_,k2⟩;unfold qi;have h1:=h1 (jF E (bS E (max n m))) (ll (aOs n m) _ _ _ hm);rw[oO (fun _ _ _ h=>h) (pR _) (pR _) h1];exact rF (lK l1) (jW l1) (jX l1) k1
def dD(E:Env)(ops rest:List Oper)(aR:Nat)(ts:List AV)(H:Hp)(Q:List AV->Hp->List (List Nat×List Nat)->Prop):Prop:=
 ∃n ts' H' l,pz E (jF E (bS E n)) (kQ E (bS E n)) (lL (bS E n)) ops rest aR ts H=some (ts',H',l)/\Q ts' H' l
variable{Q:List AV->Hp->List (List Nat×List Nat)->Prop}
def dD.nil(h:Q ts H []):dD E ops [] aR ts H Q:=⟨0,_,_,_,rfl,h⟩
def dD.step{o:Oper}{ts1:List AV}{e:cF}(hl:bW E o=false)(h1:bV E (fun _ _=>none) (fun _ _ _=>none) (fun _ _ _=>none) true ops aR o ts H=some (ts1,e))
  (h:dD E ops rest aR ts1 (e.app H) fun ts' H' l=>Q ts' H' (bH E ts o e::l)):dD E ops (o::rest) aR ts H Q:=by
 obtain⟨n,ts',H',l,k1,k2⟩:=h;refine⟨n,ts',H',_,?_,k2⟩;unfold pz;rw[hl];simp only[aOn,aLT,if_false];rw[oO (Q4 _) (pR _) (pR _) h1];simp only[k1]
def dD.V2{d:Option Nat}{t:Nat}{p:String}{af:Array Edge}{g:Option (Nat×Bool)}{f:Nat}{fo:Operand}{args:Array Operand}{ats:Array Nat}{al:List AV}{r:AV}{ts1:List AV}{e:cF}
  (hc:∃m,call E m f al=some r)
  (h1:∀pc:Pc,pc f al=some r->bV E pc (fun _ _ _=>none) (fun _ _ _=>none) true ops aR ⟨d,.call {callee:=.value fo,args:=args,argTypes:=ats},t,p,af,g⟩ ts H=some (ts1,e))
  (h:dD E ops rest aR ts1 (e.app H) fun ts' H' l=>Q ts' H' (bH E ts ⟨d,.call {callee:=.value fo,args:=args,argTypes:=ats},t,p,af,g⟩ e::l)):
  dD E ops (⟨d,.call {callee:=.value fo,args:=args,argTypes:=ats},t,p,af,g⟩::rest) aR ts H Q:=by
 obtain⟨n,ts',H',l,k1,k2⟩:=h;obtain⟨m,hm⟩:=hc;have l1:=cY (E:=E) (aOt n m);refine⟨max n m,ts',H',_,?_,k2⟩;unfold pz;have h1:=h1 (jF E (bS E (max n m))) (ll (aOs n m) _ _ _ hm);rw[show bW E ⟨d,.call {callee:=.value fo,args:=args,argTypes:=ats},t,p,af,g⟩=false from rfl];simp only[aOn,aLT,if_false];rw[oO (fun _ _ _ h=>h) (pR _) (pR _) h1];simp only[uO (lK l1) (jW l1) (jX l1) k1]
def Cv.BQ{id:Nat}{ops:Array Oper}{Q:Ex->List AV->Hp->Prop}(hz:ops.toList.countP (bW E)=0)
  (h:dD E ops.toList ops.toList H.length ts H fun ts' H' l=>(E.pairs id ops.toList.length).all (rJ l)=true/\Q .normal ts' H'):Cv E (.region id ops true) ts H Q:=by
 obtain⟨n,ts',H',l,h1,h2,h3⟩:=h;refine⟨n+1,_,_,_,?_,h3⟩;show cL E (bS E n) (.region id ops true) ts H=_
 unfold cL x6;simp only[if_true,hz,List.replicate_zero,List.append_nil,h1,h2,aMi]
def gz.V1{d:Nat}{t:Nat}{p:String}{af:Array Edge}{f:Nat}{fo:Operand}{args:Array Operand}{ats:Array Nat}{al:List AV}{fi:FnI}
  (hf:bU ts fo=some (.func f [] [])) (ha:kr ts args.toList=some al) (fC:E.fn f=some fi) (SC:fi.pure=false) (kh:E.rH f al H=none)
  (h:Cv E fi.code (al++List.replicate (fi.ntmps-al.length) bT) H fun ex oe H2=>(∀id,ex≠ .exit id)/\∃rs,fL H2 E oe fi.results=some rs/\gz E ops rest (ts.set d (gV rs)) H2 q):
  gz E ops (⟨some d,.call {callee:=.value fo,args:=args,argTypes:=ats},t,p,af,none⟩::rest) ts H q:=by
 obtain⟨n,ex,oe,H2,h1,hex,rs,h2,m,ts',H',k1,k2⟩:=h;have l1:=cY (E:=E) (aOt n m);have l2:=cY (E:=E) (aOs n m);refine⟨max n m,ts',H',?_,k2⟩;unfold qi;obtain⟨code,ntmps,results,pu,du⟩:=fi;simp only at SC;subst SC;have gy:kQ E (bS E (max n m)) f al H=some (gV rs,H2):=by
  unfold kQ oI;simp only[kh,fC];rw[l1 _ _ _ _ h1];cases ex with
  |exit id=>exact absurd rfl (hex id)
  |normal=>simp only[h2,aMi]
  |ret=>simp only[h2,aMi]
 have dx:bV E (jF E (bS E (max n m))) (kQ E (bS E (max n m))) (lL (bS E (max n m))) false ops H.length ⟨some d,.call {callee:=.value fo,args:=args,argTypes:=ats},t,p,af,none⟩ ts H=some (ts.set d (gV rs),.Ep H2):=by simp only[bV,bE,dH,hf,ha,ke,fC,bA,if_true,aOn,Bool.and_false,aLT,if_false,List.nil_append,List.append_nil,gy]
 rw[dx];exact rF (lK l2) (jW l2) (jX l2) k1
def IG{H:Hp}{aR t e n:Nat}{i ei:sk}{x:AV}{xs:List AV}(hS:E.ty t=some i)(hu:i.cD=.slice e)(hE:E.ty e=some ei)(hl:mU x=some n)(hs:oM H ei.size x=some xs)(hn:0<n)
  (h0:ei.size≠0) (ho:xs.all cN=true) (hz:ei.zero.isNone=false) (hb:n*ei.bytes<=fH) (hm:n<=4611686018427387904):
  er E H aR false t .aH x=some (.aI aR 0 n ei.size n,[(aR,.cells .live xs)]):=by
 obtain⟨cD,jA,jS,jB,jZ,dK⟩:=i;simp only at hu;subst hu;have h1:(decide (ei.size=0)||!xs.all cN||ei.zero.isNone)=false:=by simp[h0,ho,hz]
 simp only[er,hS,hE,sD,aLT,if_false,hl,hs];rw[if_neg (by omega:¬n=0),h1];simp only[aLT,if_false];rw[if_pos ⟨hb,hm⟩]
def xT{H:Hp}{aR t e n b off len kc:Nat}{i ei:sk}{x:AV}{xs cs:List AV}(hS:E.ty t=some i)(hu:i.cD=.slice e)(hE:E.ty e=some ei)(hl:mU x=some n)(hs:oM H ei.size x=some xs)(hn:0<n)
  (h0:ei.size≠0) (ho:xs.all cN=true) (hz:ei.zero.isNone=false) (hb:(len+n)*ei.bytes<=fH) (hm:len+n<=4611686018427387904) (hH:H[b]?=some (.cells .live cs)) (hk:kc<len+n) (hc:off+len*ei.size<=cs.length):
  er E H aR false t (.aI b off len ei.size kc) x=some (.aI aR 0 (len+n) ei.size (len+n),[(b,.cells .dead []),(aR,.cells .live ((cs.drop off).take (len*ei.size)++xs))]):=by
 obtain⟨cD,jA,jS,jB,jZ,dK⟩:=i;simp only at hu;subst hu;have h1:(decide (ei.size=0)||!xs.all cN||ei.zero.isNone)=false:=by simp[h0,ho,hz]
 simp only[er,hS,hE,sD,aLT,if_false,hl,hs];rw[if_neg (by omega:¬n=0),h1];simp only[aLT,if_false,hH];rw[if_neg (by omega),if_pos ⟨trivial,hc,hb,hm⟩]
def builtin_append{H:Hp}{aR t u:Nat}{i:sk}{e:Nat}{s x:AV}{r}(hu:E.ty u=some i)(hi:i.cD=.slice e)(h:er E H aR false t s x=r):bM E H aR .append [t,u] [s,x]=r:=by obtain⟨cD,jA,jS,jB,jZ,dK⟩:=i;simp only at hi;subst hi;simp only[bM,hu];exact h
end
def fw{H:Hp}:(cF.bJ []).app H=H:=rfl
def cu{H:Hp}{b:Nat}{x:cE}(h:b<H.length):(cF.bJ [(b,x)]).app H=H.set b x:=by simp[cF.app,cO,h]
def GA{H:Hp}{x:cE}:(cF.bJ [(H.length,x)]).app H=H++[x]:=by simp[cF.app,cO]
end Dv
namespace Dv
open Go
def Ry:List AV->Option (List (List UInt8))
 |[]=>some []
 |.str s::l=>(Ry l).map (s::·)
 |_=>none
structure UQ where
 JE:Nat
 auF:Nat
 trim:Nat
 trimPrefix:Nat
 Fo:Nat
 Ge:Nat
 itoa:Nat
 rep:Nat
 join:Nat
 contains:Nat
 pred:Nat
def Q9:List AV->Option AV
 |[.str s,.int .u8 c]=>some (.int .i64 (Lib.indexByte s c.toNat.toUInt8))
 |_=>none
def Zo:List AV->Option AV
 |[.int .u32 x]=>if 0<=x/\x<=4294967295 then some (.int .i64 (32-(Lib.bitLen x.toNat:Int)))else none
 |_=>none
def DA:List AV->Option AV
 |[.str s,.str c]=>if c.all (fun b=>decide (b.toNat<128))=true/\c.length<4294967281/\s.length<=9223372036854775807 then some (.str (Lib.trimS s c))else none
 |_=>none
def nU:List AV->Option AV
 |[.str s,.str p]=>some (.str (Lib.trimPrefix s p))
 |_=>none
def pT:List AV->Option AV
 |[.str s,.str p]=>some (.tuple [.str (Lib.trimPrefix s p),.bool (Lib.hasPrefix s p)])
 |_=>none
def mW:List AV->Option AV
 |[.str s,.int .i64 b,.int .i64 z]=>if b=10/\z=32/\s.length<=9223372036854775806 then(match Lib.parseUintB 32 s with
  |.ok u=>some (.tuple [.int .u64 u,.nilIface])
  |_=>none)else none
 |_=>none
def Ol:List AV->Option AV
 |[.int .i64 n]=>if 0<=n/\n<=9223372036854775807 then some (.str (Lib.itoa n))else none
 |_=>none
def Zp:List AV->Option AV
 |[.str s,.int .i64 n]=>if 0<=n/\n<=9223372036854775807/\s.length*n.toNat<=140737488355328 then some (.str (Lib.repeatL s n.toNat))else none
 |_=>none
def Oo:List AV->Option AV
 |[.aK cs n,.str sep]=>if cs.length=n/\2<=n/\n<=140737488355328 then(match Ry cs with
  |some xs=>if 0<(Lib.join xs sep).length/\(Lib.join xs sep).length<=281474976710656 then some (.str (Lib.join xs sep))else none
  |none=>none)else none
 |_=>none
def oF(pred:Nat):List AV->Option AV
 |[.str s,.func f [] []]=>if f=pred/\s.all (fun b=>decide (48<=b.toNat/\b.toNat<=57))=true/\s.length<=281474976710656 then some (.bool false)else none
 |_=>none
def iC(N:UQ)(f:Nat)(l:List AV):Option AV:=
 if f=N.JE then Q9 l else
 if f=N.auF then Zo l else
 if f=N.trim then DA l else
 if f=N.trimPrefix then nU l else
 if f=N.Fo then pT l else
 if f=N.Ge then mW l else
 if f=N.itoa then Ol l else
 if f=N.rep then Zp l else
 if f=N.join then Oo l else
 if f=N.contains then oF N.pred l else none
def Ju:List AV->Hp->Option (AV×Hp)
 |[s,.int .i64 i,.aI c 0 1 12 1],H=>
  match H[c]? with
  |some (.cells .live x)=>
   if x.length=12/\x.all cN=true then
    match s with
    |.aH=>if i=0 then some (.aI H.length 0 1 12 1,H++[.cells .live x])else none
    |.aI b 0 n 12 k=>
     match H[b]? with
     |some (.cells .live cs)=>
      if n=k/\cs.length=n*12/\cs.all cN=true/\0<n/\n<1000/\0<=i/\i<=(n:Int)/\b≠c then
       some (.aI H.length 0 (n+1) 12 (n+1),H.set b (.cells .dead [])++[.cells .live (cs.take (i.toNat*12)++x++cs.drop (i.toNat*12))])
      else none
     |_=>none
    |_=>none
   else none
  |_=>none
 |_,_=>none
def Jw{c:Nat}{H:Hp}{x:List AV}(hx:H[c]?=some (.cells .live x))(hl:x.length=12)(ho:x.all cN=true):
  Ju [.aH,.int .i64 0,.aI c 0 1 12 1] H=some (.aI H.length 0 1 12 1,H++[.cells .live x]):=by
 simp[Ju,hx,hl,ho]
def Jv{b c n i:Nat}{H:Hp}{x cs:List AV}(hx:H[c]?=some (.cells .live x))(hl:x.length=12)(ho:x.all cN=true)
  (hb:H[b]?=some (.cells .live cs)) (oB:cs.length=n*12) (GY:cs.all cN=true) (hn:0<n) (zO:n<1000) (hi:i<=n) (ej:b≠c:=by omega):
  Ju [.aI b 0 n 12 n,.int .i64 (i:Int),.aI c 0 1 12 1] H=some (.aI H.length 0 (n+1) 12 (n+1),H.set b (.cells .dead [])++[.cells .live (cs.take (i*12)++x++cs.drop (i*12))]):=by
 have h1:(0:Int)<=(i:Int):=by omega
 have h2:(i:Int)<=(n:Int):=by omega
 simp only[Ju,hx,hl,ho,hb];simp only[oB,GY,hn,zO,h1,h2,ej,ne_eq,not_false_eq_true,and_self,if_true,Int.toNat_natCast]
end Dv
