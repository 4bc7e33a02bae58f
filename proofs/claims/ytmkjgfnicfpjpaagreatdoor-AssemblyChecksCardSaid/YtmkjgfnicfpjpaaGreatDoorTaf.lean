/- Lemmas for AssemblyChecks; no condition. -/
import Derived.Test.YtmkjgfnicfpjpaaGreatDoorTae
import Derived.Maps.RangeRun
import Derived.Lib.Bytealg
import Derived.Lib.BitFns
import Derived.Lib.Strings
import Derived.Lib.TrimByte
import Derived.Lib.SlTrimSet
import Derived.Lib.ParseIntB
import Derived.Lib.ItoaNum
import Derived.Lib.Repeat
import Derived.Lib.Join
set_option linter.all false
set_option maxHeartbeats 100000000
set_option maxRecDepth 100000
noncomputable section
open Bool renaming false_eq_true->aK4,false_and->aNx
open Option renaming map_some->aLt,getD_some->aMv
open List renaming getElem?_eq_getElem->aLh,getElem?_set_self->aNv,getElem?_set_ne->aNt,perm_ext_iff_of_nodup->aNZ,mem_range->aNy,range->aN1,getElem?_map->aMf,nodup_range->aN3,mem_toArray->aN5,getElem_map->aN6
open Nat renaming le_max_right->aNC,le_trans->aM7,le_refl->aKE,le_max_left->aND
open Array renaming getElem?_eq_getElem->aLd,contains_iff_mem->aN0,getElem?_toList->aK2,getElem_toList->aN2,length_toList->aMq,getElem?_push->aKC
namespace Dv
open Go Go.RowKit
noncomputable section
def Ar(E:Env)(P:Program)(c:Code)(ts:List AV)(H:Hp)(Q:Ex->List AV->Hp->Prop):Prop:=
 ∀(F:Fence),j9 F->∀(B:Nat) (Lo:Nat->Prop) (w0:World) (ι:cS) (w:World) (a:Act),w0.heap.size<=B->B<=w.heap.size->St E B Lo w0 ι H ts a w->
  ∀K:Exit->Act->World->Prop,(∀ex ts' H',Q ex ts' H'->Bb E B Lo w0 ι H w ts' H' (K ex.up))->c.wpIn F 0 P K a w
section
variable{E:Env}{P:Program}{ts:List AV}{H:Hp}{Q:Ex->List AV->Hp->Prop}
def ri(V:Valid E P)(O:oW E P)(n:Nat):nf E P (bR E n):=(tf V O (fun rec h=>Wp V O h) n).1
def Ar.agU(V:Valid E P)(O:oW E P){c:Code}(h:Cv E c ts H Q)(hc:codeOk E c=true)(hf:flat c=true):Ar E P c ts H Q:=by intro F hF B Lo w0 ι w a hB BI S K hK;obtain⟨n,ex,ts',H',h1,h2⟩:=h;exact ri V O n c ts H ex ts' H' h1 hc F hF (.inr hf) B Lo w0 ι w a hB BI S K (hK ex ts' H' h2)
def Ar.mono{c:Code}{Q':Ex->List AV->Hp->Prop}(h:Ar E P c ts H Q)(hq:∀ex ts' H',Q ex ts' H'->Q' ex ts' H'):Ar E P c ts H Q':=by
 intro F hF B Lo w0 ι w a hB BI S K hK;exact h F hF B Lo w0 ι w a hB BI S K fun ex ts' H' q=>hK ex ts' H' (hq _ _ _ q)
def Ar.seq{c d:Code}(h:Ar E P c ts H fun ex ts' H'=>match ex with|.normal=>Ar E P d ts' H' Q|e=>Q e ts' H'):Ar E P (.seq c d) ts H Q:=by
 intro F hF B Lo w0 ι w a hB BI S K hK;refine wpIn_seq (h F hF B Lo w0 ι w a hB BI S _ fun ex ts' H' q a1 w1 ι1 k1 k2 k3=>?_);cases ex with
 |normal=>exact q F hF B Lo w0 ι1 w1 a1 hB (aM7 BI k2.size) k3 K fun ex2 oc H2 q2=>(hK ex2 oc H2 q2).chain k1 k2
 |exit id=>exact hK _ _ _ q _ _ _ k1 k2 k3
 |ret=>exact hK _ _ _ q _ _ _ k1 k2 k3
def Ar.pure(V:Valid E P){f:Nat}{fi:FnI}(lQ:E.fn f=some fi){args:List AV}{r:AV}
  (h:Ar E P fi.code (args++List.replicate (fi.ntmps-args.length) bS) [] fun ex oc H2=>(∀id,ex≠ .exit id)/\∃rs bs,fL H2 E oc fi.results=some rs/\bW H2 [gV rs]=some ([r],bs))
  {L:Nat->Prop} {w:World} {vs:Array Value} (ik:∀c,L c->c<w.heap.size) (hg:xD E L w) (ha:Rs cg w L args vs.toList):
  lL P ((callFunc f vs).run P w) (fun v w'=>Below w.heap.size w w'/\R cg w' L r v):=by
 refine .inr (.inl ⟨f,vs,w,jQ V lQ vs w,?_⟩);obtain⟨fn,f1,f2,f3,f4,f5,f6⟩:=V.fn f fi lQ;have hL:Live L cg ([]:Hp)=L:=by
  funext c;refine propext ⟨?_,.inl⟩;rintro(h|⟨b,dI,co,h,_⟩)
  ·exact h
  ·simp at h
 have S:fR E L w cg [] w:=by
  refine⟨Below.refl _ _,ik,?_,?_,?_,?_,?_,?_⟩
  ·intro b p h;cases h
  ·intro b dI h;simp at h
  ·intro b b' dI blk' c co co' h;simp at h
  ·rw[hL];exact hg
  ·intro b dI h;simp at h
  ·intro b p h;cases h
 refine callsIn_of_wp_marks f1 f2 trivial ?_;have hl:=ha.length;simp only[aMq]at hl;refine h Fence.wide (.inl rfl) w.heap.size L w cg w _ (aKE _) (aKE _) ⟨S,?_,⟨[],by simp,rfl,by simp⟩⟩ _ fun ex oc H2 hq a' w' ι' k1 k2 k3=>?_
 ·simp only[Array.toList_append,Array.toList_replicate];rw[f3,<-hl,hL];exact ha.append (qT _)
 ·obtain⟨hex,rs,bs,il,fY⟩:=hq;obtain⟨ks,n1,n2,n3⟩:=k3.SS;have lC:LeavesInM Fence.wide 0 P fn a'.tmps (LI fun v w'=>Below w.heap.size w w'/\R cg w' L r v) a'.defers .returning w':=by
   rw[n2];refine nS V (by rw[f4];exact il) ks w' k3.Bv k3.tm n1 n3 (aKE _) fun w2 cv b1 b2 b3 b4 b5=>?_
   refine⟨b2.below,?_⟩;have vF:Rs ι' w2 (Live L ι' H2) [gV rs] [cv]:=by simp only[Rs];exact⟨_,_,rfl,b5,rfl⟩
   have:=pU b2 vF fY
   simp only[Rs]at this;obtain⟨y,ys,q1,q2,_⟩:=this;cases q1;exact R.ext (tg fun c hc=>.inl hc) _ _ _ _ (cS.le_refl _) q2
  cases ex with
  |normal=>exact lC
  |ret=>exact lC
  |exit id=>exact absurd rfl (hex id)
def SE{Lo:Nat->Prop}{w0:World}{ι:cS}{w:World}{B:Nat}{a:Act}(S:St E B Lo w0 ι H ts a w){r:Nat}{m:Option Nat}{si:Nat}{seen:Array Nat}{st:Nat}{o':Obj}
  (h:w.heap[r]?=some (.mapIter m si seen st)) (hk:w0.heap.size<=r) {w1:World} (hw:w1=w∨w1=w.drew):
  St E B Lo w0 ι H ts a (jN w1 r o')/\(∀c,c≠r->(jN w1 r o').heap[c]?=w.heap[c]?)/\(jN w1 r o').heap[r]?=some o'/\(jN w1 r o').heap.size=w.heap.size:=by
 have hh:w1.heap=w.heap:=by rcases hw with rfl|rfl<;>rfl
 have S1:fR E Lo w0 ι H w1/\Ext w (Live Lo ι H) w1 (Live Lo ι H):=by
  rcases hw with rfl|rfl
  ·exact⟨S.Bv,Ext.refl _ _⟩
  ·exact S.Bv.drew rfl rfl rfl rfl
 have h':w1.heap[r]?=some (.mapIter m si seen st):=by rw[hh];exact h
 have X:Ek w1 (Live Lo ι H) (jN w1 r o') (Live Lo ι H):=Dx h';have O:=kR (o:=o') (w1:=w1) rfl rfl rfl rfl h';have ne:∀(c:Nat) (ob:Obj),w1.heap[c]?=some ob->(∀m a b d,ob≠ .mapIter m a b d)->(jN w1 r o').heap[c]?=some ob:=fun c ob hc hd=>by
  rw[O.there c (fun q=>by subst q;rw[h']at hc;cases hc;exact hd _ _ _ _ rfl)];exact hc
 have Sm:fR E Lo w0 ι H (jN w1 r o'):=by
  refine⟨S1.1.below.trans (O.below hk),S1.1.lo,?_,?_,S1.1.inj,?_,S1.1.pT,S1.1.res⟩
  ·intro b p hp
   have:=S1.1.Ih b p hp
   exact⟨this.1,by rw[O.size];exact this.2⟩
  ·intro b dI hb hd;obtain⟨cb,co,ob,g1,g2,g3,g4,g5⟩:=S1.1.obj b dI hb hd;refine⟨cb,co,ob,g1,ne cb ob g2 ?_,g3.k6 X (cS.le_refl _),g4,g5⟩;intro ma mb mc md q;subst q;cases dI<;>simp only[fZ]at g3
   case cells=>obtain⟨_,_,_,q,_⟩:=g3;cases q
   case map=>obtain⟨_,_,q,_⟩:=g3;cases q
   case iG=>cases g3.2
   case loop=>obtain⟨_,q,_⟩:=g3;cases q
  ·intro g cs hg;obtain⟨c,e,f,h1,h2,h3,hz⟩:=S1.1.glob g cs hg;exact⟨c,e,f,(X.QT h1 h2).1,h2,iI.k6 X _ _ _ _ _ (cS.le_refl _) h3,hz⟩
 refine⟨⟨Sm,Rs.k6 X _ _ _ _ (cS.le_refl _) (Rs.ext S1.2 _ _ _ _ (cS.le_refl _) S.tm),?_⟩,fun c hc=>by rw[O.there c hc,hh],O.here,by rw[O.size,hh]⟩;obtain⟨ks,n1,n2,n3⟩:=S.SS;refine⟨ks,n1,n2,fun k sG=>?_⟩;obtain⟨g1,g2,g3⟩:=n3 k sG;exact⟨ne k _ (by rw[hh];exact g1) (by simp),g2,g3⟩
def Ext.iter{w w' w'':World}{L L':Nat->Prop}(X:Ext w L w' L'){r:Nat}(hr:w.heap.size<=r)(hs:w''.heap.size=w'.heap.size)(eQ:∀c,c≠r->w''.heap[c]?=w'.heap[c]?):Ext w L w'' L':=by
 refine⟨by rw[hs];exact X.size,fun c hc hl=>?_,fun c cs e f hc=>?_⟩
 ·have:=X.old c hc hl
  exact⟨by rw[eQ c (by omega)];exact this.1,this.2⟩
 ·obtain⟨Aw,f',h1,h2⟩:=X.shape c cs e f hc
  have:c<w.heap.size:=eG hc
  exact⟨Aw,f',by rw[eQ c (by omega)];exact h1,h2⟩
structure Iter(w:World)(L:Nat->Prop)(r bm since:Nat)(es:Array MapEntry)(clock:Nat)(is:List Nat):Prop where
 it:w.heap[r]?=some (.mapIter (some bm) since (is.map fun i=>((es[i]?).map (·.born)).getD 0).toArray clock)
 mp:w.heap[bm]?=some (.map es clock)
 nr:¬L r
 nm:¬L bm
def Iter.ext{w w':World}{L L':Nat->Prop}{r bm since:Nat}{es:Array MapEntry}{clock:Nat}{is:List Nat}(h:Iter w L r bm since es clock is)(X:Ext w L w' L'):Iter w' L' r bm since es clock is:=
 ⟨(X.keep h.it h.nr).1,(X.keep h.mp h.nm).1,(X.keep h.it h.nr).2,(X.keep h.mp h.nm).2⟩
def KS{n:Nat}{is:List Nat}(hn:is.Nodup)(ek:∀i∈is,i<n)(pY:∀i,i<n->i∈is):is.Perm (aN1 n):=by
 refine(aNZ hn aN3).2 fun i=>⟨fun h=>aNy.2 (ek i h),fun h=>pY i (aNy.1 h)⟩
def yr{n:Nat}{l:List Nat}(hn:l.Nodup)(ek:∀i∈l,i<n):l.length<=n:=by
 have:l.Perm ((aN1 n).filter fun i=>decide (i∈l)):=(aNZ hn (aN3.filter _)).2 fun i=>by
  rw[List.mem_filter];exact⟨fun h=>⟨aNy.2 (ek i h),by simpa using h⟩,fun h=>by simpa using h.2⟩
 rw[this.length_eq];exact aM7 (List.length_filter_le _ _) (by simp)
def N7(V:Valid E P)(O:oW E P){F:Fence}(hF:j9 F){s d1 d2 d3 r20 r21 id b7:Nat}{Du AR:Array Oper}{oN oX oE:Oper}{Af:List Oper}{Vt:Code}
  (h20:Du.toList=[oN,oX]) (h21:AR.toList=oE::Af)
  (hN:oN.op=.next (.tmp s) false) (hNd:oN.dst=some d1) (hNg:oN.guard=none)
  (hX:oX.op=.extract (.tmp d1) 0) (Sc:oX.dst=some d2) (hXg:oX.guard=none)
  (hEn:oE.op=.entry (.tmp s)) (hEd:oE.dst=some d3) (hEg:oE.guard=none)
  (wG:d1≠s) (lK:d2≠s) (aj5:codeOk E Vt=true) (akg:flat Vt=true)
  {N:Nat} (hN1:d1<N) (hN2:d2<N)
  {ks vs:List AV} {es:Array MapEntry} {clock since r bm:Nat} (hWf:T6 es since) (LN:since<=clock)
  (I:List Nat->List AV->Hp->Prop) (hIs:∀is ts H,I is ts H->ts[s]?=some (.ie r 0)/\ts.length=N)
  (Jm:∀is i k v ts H,i∉is->ks[i]?=some k->vs[i]?=some v->I is ts H->
   ∃n ts1 H1 oc H2,qa E (jE E (bR E n)) (kQ E (bR E n)) (lI (bR E n)) AR.toList Af (((ts.set d1 (.tuple [.bool true,k,v])).set d2 (.bool true)).set d3 (.tuple [k,v])) H=some (ts1,H1)/\
    bR E n Vt ts1 H1=some (.normal,oc,H2)/\I (is++[i]) oc H2)
  {B:Nat} {Lo:Nat->Prop} {w0:World} (hB:w0.heap.size<=B) {ιS:cS} {wS:World} {LS:Nat->Prop} (hr:wS.heap.size<=r) (hBS:B<=wS.heap.size)
  {K:Exit->Act->World->Prop}
  (MO:∀is ts H,is.Perm (aN1 es.size)->I is ts H->∀a' w' ι',ιS.le ι'->Ext wS LS w' (Live Lo ι' H)->St E B Lo w0 ι' H ((ts.set d1 (.tuple [.bool false])).set d2 (.bool false)) a' w'->K (.exit id) a' w'):
  ∀(k:Nat) (is:List Nat) (ts:List AV) (H:Hp) (a:Act) (w:World) (ι:cS),es.size-is.length<k->is.Nodup->(∀i∈is,i<es.size)->I is ts H->
   St E B Lo w0 ι H ts a w->ιS.le ι->Ext wS LS w (Live Lo ι H)->Iter w (Live Lo ι H) r bm since es clock is->
   Rs ι w (Live Lo ι H) ks (es.toList.map (·.key))->Rs ι w (Live Lo ι H) vs (es.toList.map (·.val))->
   Code.roundsIn F 0 P (.seq (.region r20 Du false) (.seq (.cond (.tmp d2) .skip (.exit id)) (.block b7 (.seq (.region r21 AR false) Vt)))) K k a w:=by
 intro k;induction k with
 |zero=>intro is ts H a w ι hk;omega
 |succ k ih=>
  intro is ts H a w ι hk hnd ek hI S hle X It hks hvs;rw[roundsIn_succ];obtain⟨hs,hlen⟩:=hIs is ts H hI;have W7:w0.heap.size<=r:=by omega
  have Qm:=S.tm.length;simp only[aMq]at Qm;have hit:a.eval (.tmp s)=.pointer (some ⟨r,0,none⟩):=by
   have:=dU S.tm (x:=.tmp s) (av:=.ie r 0) (by simp[bT,hs])
   simpa[R]using this
  have Sq:∀(o:Oper) (l:List AV) (H':Hp),dH E (jE E (bR E 0)) (kQ E (bR E 0)) (lI (bR E 0)) false l H' H'.length o=dH E (jE E (bR E 0)) (kQ E (bR E 0)) (lI (bR E 0)) false l H' H'.length o:=fun _ _ _=>rfl
  have aqJ:∀(b:Bool) (rest:List AV),qa E (jE E (bR E 0)) (kQ E (bR E 0)) (lI (bR E 0)) Du.toList [oX] (ts.set d1 (.tuple (.bool b::rest))) H=
    some ((ts.set d1 (.tuple (.bool b::rest))).set d2 (.bool b),H):=by
   intro b rest;have hg:(ts.set d1 (.tuple (.bool b::rest)))[d1]?=some (.tuple (.bool b::rest)):=by rw[aNv (by omega)]
   simp only[qa,bU,bE,hXg,if_true,dH,hX,bT,hg,aMv,List.getElem?_cons_zero,aLt,bt,Sc,cC.app,List.foldl_nil]
  have yh:=ri V O 0;have hp:=uZ V O yh;have hi:=yL V O yh;have hy:=oG V yh;have agw:(execOp a.eval oN).run P w=((Instr.next (.pointer (some ⟨r,0,none⟩)) false oN.type).run P w).andThen fun v w'=>.ok (.value v) w':=by simp only[execOp,hN,hit,Sem.run_bind,Sem.run_pure]
  have hdN:∀c,oN.op≠ .defer c:=by rw[hN];intro c q;cases q
  have hdE:∀c,oE.op≠ .defer c:=by rw[hEn];intro c q;cases q
  refine wpIn_seq (wpIn_region_list ?_);rw[h20];unfold wpListIn;have vS:Region.wanted oN (yielded Du a.tmps)=true:=by unfold Region.wanted;rw[hNg]
  rw[if_pos vS];rcases run_next_at (P:=P) w oN.type r bm since clock _ es clock It.it It.mp hWf.1 LN with⟨h0,gy⟩|⟨e,he,w1,az8,gy⟩
  ·
   refine lL.wpIn (Rr:=fun cv w'=>cv=.tuple #[.bool false]/\w'=w) hF hdN (.inl ⟨.tuple #[.bool false],w,by rw[agw,gy];rfl,rfl,rfl⟩) ?_;rintro cv w' ⟨rfl,rfl⟩;rw[hNd];have hR:R ι w' (Live Lo ι H) (.tuple [.bool false]) (.tuple #[.bool false]):=by simp[R,Rs]
   have S1:St E B Lo w0 ι H (ts.set d1 (.tuple [.bool false])) (a.put (some d1) (.tuple #[.bool false])) w':=⟨S.Bv,Gm S.tm hR (some d1),S.SS.ext (Ext.refl _ _) (put_defers _ _ _)⟩;refine yB V hp hi hy hF [oX] _ H _ H ι w' _ (aqJ false []) S1 fun a2 w2 ι2 k1 k2 k3=>?_
   show Code.wpIn F 0 P _ _ a2 w2
   refine wpIn_seq (wpIn_cond_false ?_ (wpIn_exit ?_))
   ·have:=dU k3.tm (x:=.tmp d2) (av:=.bool false) (by simp only[bT];rw[aNv (by simp;omega)];rfl)
    simpa[R]using this
   ·refine MO is ts H (KS hnd ek fun i hi=>?_) hI a2 w2 ι2 (cS.le_trans hle k1) (X.trans k2) k3;have hb:(Array.filter (fun e=>!((is.map fun i=>((es[i]?).map (·.born)).getD 0).toArray).contains e.born) es).size=0:=h0;have hb:=Array.eq_empty_of_size_eq_zero hb;rw[Array.filter_eq_empty_iff]at hb
    have:=hb es[i] (Array.getElem_mem hi)
    have this:((is.map fun i=>((es[i]?).map (·.born)).getD 0).toArray).contains es[i].born=true:=by simpa using this
    rw[aN0,aN5,List.mem_map]at this;obtain⟨j,hj,he⟩:=this;have hjl:=ek j hj;rw[aLd hjl]at he;simp only[aLt,aMv]at he;have tA:j=i:=by
     have hnn:=hWf.2;rw[List.nodup_iff_pairwise_ne,List.pairwise_iff_getElem]at hnn;rcases Nat.lt_trichotomy j i with q|q|q
     ·have q':=hnn j i (by simpa using hjl) (by simpa using hi) q;simp only[aN6,aN2]at q';exact absurd he q'
     ·exact q
     ·have q':=hnn i j (by simpa using hi) (by simpa using hjl) q;simp only[aN6,aN2]at q';exact absurd he.symm q'
    rw[<-tA];exact hj
  ·
   have he':e∈Array.filter (fun e=>!((is.map fun i=>((es[i]?).map (·.born)).getD 0).toArray).contains e.born) es:=by simpa[leftOf]using he
   rw[Array.mem_filter]at he';obtain⟨hem,hen⟩:=he';obtain⟨i,qz,kn⟩:=Array.getElem_of_mem hem;have su:es[i]?=some e:=by rw[aLd qz,kn]
   have hni:i∉is:=by
    intro Ir
    have:((is.map fun i=>((es[i]?).map (·.born)).getD 0).toArray).contains e.born=true:=by
     rw[aN0,aN5,List.mem_map];exact⟨i,Ir,by rw[su];rfl⟩
    rw[this]at hen;simp at hen
   obtain⟨kA,hkA,hkR⟩:∃kA,ks[i]?=some kA/\R ι w (Live Lo ι H) kA e.key:=by
    have hl:=hks.length
    have:i<ks.length:=by simp at hl;omega
    obtain⟨v,g1,g2⟩:=hks.get i ks[i] (aLh this);rw[aMf,aK2,su]at g1;cases g1;exact⟨_,aLh this,g2⟩
   obtain⟨vA,hvA,hvR⟩:∃vA,vs[i]?=some vA/\R ι w (Live Lo ι H) vA e.val:=by
    have hl:=hvs.length
    have:i<vs.length:=by simp at hl;omega
    obtain⟨v,g1,g2⟩:=hvs.get i vs[i] (aLh this);rw[aMf,aK2,su]at g1;cases g1;exact⟨_,aLh this,g2⟩
   refine lL.wpIn (Rr:=fun cv w'=>cv=.tuple #[.bool true,e.key,e.val]/\w'=jN w1 r (.mapIter (some bm) since ((is.map fun i=>((es[i]?).map (·.born)).getD 0).toArray.push e.born) clock)) hF hdN
    (.inl ⟨.tuple #[.bool true,e.key,e.val],_,by rw[agw,gy];rfl,rfl,rfl⟩) ?_
   rintro cv w' ⟨rfl,rfl⟩;rw[hNd];obtain⟨T,t1,t2,t3⟩:=SE S (o':=.mapIter (some bm) since ((is.map fun i=>((es[i]?).map (·.born)).getD 0).toArray.push e.born) clock) It.it W7 az8;generalize jN w1 r (.mapIter (some bm) since ((is.map fun i=>((es[i]?).map (·.born)).getD 0).toArray.push e.born) clock)=wn at T t1 t2 t3⊢;have eQ:bm≠r:=by rintro rfl;have:=It.it;rw[It.mp]at this;cases this
   have It2:Iter wn (Live Lo ι H) r bm since es clock (is++[i]):=by
    refine⟨?_,by rw[t1 bm eQ];exact It.mp,It.nr,It.nm⟩;rw[t2,List.map_append,List.map_cons,List.map_nil,su]
    simp
   have X2:Ext wS LS wn (Live Lo ι H):=X.iter hr t3 t1;have XK:Ek w (Live Lo ι H) wn (Live Lo ι H):=by
    refine⟨fun{c cs e f} hc hl=>⟨?_,hl⟩,fun{c es n} hc hl=>⟨?_,hl⟩,fun c cs e f hc=>⟨cs,f,?_,rfl⟩⟩
    all_goals (rw[t1 c (by rintro rfl;rw[It.it]at hc;cases hc)];exact hc)
   have atb:=R.k6 XK _ _ _ _ (cS.le_refl ι) hkR;have atM:=R.k6 XK _ _ _ _ (cS.le_refl ι) hvR;have azt:=Rs.k6 XK _ _ _ _ (cS.le_refl ι) hks;have az5:=Rs.k6 XK _ _ _ _ (cS.le_refl ι) hvs;have hR:R ι wn (Live Lo ι H) (.tuple [.bool true,kA,vA]) (.tuple #[.bool true,e.key,e.val]):=by simp only[R,Rs];exact⟨_,rfl,_,_,rfl,rfl,_,_,rfl,atb,_,_,rfl,atM,rfl⟩
   have S1:St E B Lo w0 ι H (ts.set d1 (.tuple [.bool true,kA,vA])) (a.put (some d1) (.tuple #[.bool true,e.key,e.val])) wn:=⟨T.Bv,Gm T.tm hR (some d1),T.SS.ext (Ext.refl _ _) (put_defers _ _ _)⟩;refine yB V hp hi hy hF [oX] _ H _ H ι wn _ (aqJ true [kA,vA]) S1 fun a2 w2 ι2 k1 k2 k3=>?_
   show Code.wpIn F 0 P _ _ a2 w2
   refine wpIn_seq (wpIn_cond_true ?_ (wpIn_skip ?_))
   ·have:=dU k3.tm (x:=.tmp d2) (av:=.bool true) (by simp only[bT];rw[aNv (by simp;omega)];rfl)
    simpa[R]using this
   show Code.wpIn F 0 P _ _ a2 w2
   have It3:=It2.ext k2;have X3:=X2.trans k2;have azu:=Rs.ext k2 _ _ _ _ k1 azt;have az6:=Rs.ext k2 _ _ _ _ k1 az5;have azq:=R.ext k2 _ _ _ _ k1 atb;have az3:=R.ext k2 _ _ _ _ k1 atM;refine wpIn_block (wpIn_seq (wpIn_region_list ?_));rw[h21];unfold wpListIn;have y7:Region.wanted oE (yielded AR a2.tmps)=true:=by unfold Region.wanted;rw[hEg]
   rw[if_pos y7];have azo:a2.eval (.tmp s)=.pointer (some ⟨r,0,none⟩):=by
    have:=dU k3.tm (x:=.tmp s) (av:=.ie r 0) (by
     simp only[bT];rw[aNt lK,aNt wG,hs];rfl)
    simpa[R]using this
   have as9:=It3.it;rw[List.map_append,List.map_cons,List.map_nil,su]at as9;have akf:=run_entry_at (P:=P) w2 r bm since ((is.map fun i=>((es[i]?).map (·.born)).getD 0).toArray) es clock e (by rw[as9];simp) It3.mp (by simpa using hem) hWf.2;refine lL.wpIn (Rr:=fun cv w'=>cv=.tuple #[e.key,e.val]/\w'=w2) hF hdE (.inl ⟨.tuple #[e.key,e.val],w2,by simp only[execOp,hEn,azo,Sem.run_bind,Sem.run_pure,akf,Result.andThen_ok],rfl,rfl⟩) ?_;rintro cv w' ⟨rfl,rfl⟩;rw[hEd];have hR2:R ι2 w' (Live Lo ι2 H) (.tuple [kA,vA]) (.tuple #[e.key,e.val]):=by simp only[R,Rs];exact⟨_,rfl,_,_,rfl,azq,_,_,rfl,az3,rfl⟩
   have S3:St E B Lo w0 ι2 H (((ts.set d1 (.tuple [.bool true,kA,vA])).set d2 (.bool true)).set d3 (.tuple [kA,vA])) (a2.put (some d3) (.tuple #[e.key,e.val])) w':=
    ⟨k3.Bv,Gm k3.tm hR2 (some d3),k3.SS.ext (Ext.refl _ _) (put_defers _ _ _)⟩
   obtain⟨n,ts1,H1,oc,H2,b1,b2,b3⟩:=Jm is i kA vA ts H hni hkA hvA hI;have nu:=ri V O n;have hB2:B<=w'.heap.size:=aM7 hBS X3.size;refine yB V (uZ V O nu) (yL V O nu) (oG V nu) hF Af _ H ts1 H1 ι2 w' _ b1 S3 fun a4 w4 ι4 m1 m2 m3=>?_
   show Code.wpIn F 0 P _ _ a4 w4
   refine nu Vt ts1 H1 .normal oc H2 b2 aj5 F hF (.inr akg) B Lo w0 ι4 w4 a4 hB (aM7 hB2 m2.size) m3 _ fun a5 w5 ι5 q1 q2 q3=>?_
   show Code.roundsIn F 0 P _ _ k a5 w5
   have XX:=m2.trans q2;have Xw:(is++[i]).Nodup:=List.nodup_append.2 ⟨hnd,by simp,fun x hx y hy=>by simp at hy;subst hy;rintro rfl;exact hni hx⟩;have atn:∀j∈is++[i],j<es.size:=fun j hj=>by
    rcases List.mem_append.1 hj with hj|hj
    ·exact ek j hj
    ·simp at hj;omega
   have ιι:=cS.le_trans m1 q1;refine ih (is++[i]) oc H2 a5 w5 ι5 ?_ ?_ ?_ b3 q3 (cS.le_trans (cS.le_trans hle k1) ιι) (X3.trans XX) (It3.ext XX) (Rs.ext XX _ _ _ _ ιι azu) (Rs.ext XX _ _ _ _ ιι az6)
   ·have:=yr Xw atn
    simp at this⊢;omega
   ·exact Xw
   ·exact atn
def Ar.mapRange(V:Valid E P)(O:oW E P){s dm d1 d2 d3 r19 r20 r21 id b7 t kt et:Nat}{Q2 Du AR:Array Oper}{oL oR oN oX oE:Oper}{Af:List Oper}{Vt:Code}
  (h19:Q2.toList=[oL,oR]) (h20:Du.toList=[oN,oX]) (h21:AR.toList=oE::Af)
  (hRo:oR.op=.range t (.tmp dm)) (hRd:oR.dst=some s) (hRg:oR.guard=none) {ti:sO} (M4:E.ty t=some ti) (eD:ti.cD=.map kt et)
  (hN:oN.op=.next (.tmp s) false) (hNd:oN.dst=some d1) (hNg:oN.guard=none)
  (hX:oX.op=.extract (.tmp d1) 0) (Sc:oX.dst=some d2) (hXg:oX.guard=none)
  (hEn:oE.op=.entry (.tmp s)) (hEd:oE.dst=some d3) (hEg:oE.guard=none)
  (wG:d1≠s) (lK:d2≠s) (aj5:codeOk E Vt=true) (akg:flat Vt=true)
  {N:Nat} (hN1:d1<N) (hN2:d2<N)
  {m:Nat} {ts1:List AV} {e1:cC} {H1:Hp} (atl:bU E (fun _ _=>none) (fun _ _ _=>none) (fun _ _ _=>none) false Q2.toList H.length oL ts H=some (ts1,e1)) (hH1:e1.app H=H1)
  (hm:ts1[dm]?=some (.eS m)) {ks vs:List AV} (hb:H1[m]?=some (.map .live ks vs))
  (I:Nat->List Nat->List AV->Hp->Prop) (hIs:∀r is ts H,I r is ts H->ts[s]?=some (.ie r 0)/\ts.length=N)
  (hI0:∀r,I r [] (ts1.set s (.ie r 0)) (mark H1 [m]))
  (Jm:∀r is i k v ts H,i∉is->ks[i]?=some k->vs[i]?=some v->I r is ts H->
   ∃n ts1 H1 oc H2,qa E (jE E (bR E n)) (kQ E (bR E n)) (lI (bR E n)) AR.toList Af (((ts.set d1 (.tuple [.bool true,k,v])).set d2 (.bool true)).set d3 (.tuple [k,v])) H=some (ts1,H1)/\
    bR E n Vt ts1 H1=some (.normal,oc,H2)/\I r (is++[i]) oc H2)
  (MO:∀r is ts H,is.Perm (aN1 vs.length)->I r is ts H->Q .normal ((ts.set d1 (.tuple [.bool false])).set d2 (.bool false)) H):
  Ar E P (.seq (.region r19 Q2 false) (.block id (.loop (.seq (.region r20 Du false) (.seq (.cond (.tmp d2) .skip (.exit id)) (.block b7 (.seq (.region r21 AR false) Vt))))))) ts H Q:=by
 intro F hF B Lo w0 ι w a hB BI S K hK;have yh:=ri V O 0;refine wpIn_seq (wpIn_region_list ?_);rw[h19];unfold wpListIn;have akv:=oI (pc':=jE E (bR E 0)) (ic':=kQ E (bR E 0)) (yc':=lI (bR E 0)) (fun _ _ _ h=>by cases h) (fun _ _ _ _ h=>by cases h) (fun _ _ _ _ h=>by cases h) atl;refine DT V (uZ V O yh) (yL V O yh) (oG V yh) S (ye S.Bv) akv hF fun a1 w1 ι1 k1 k2 k3=>?_
 rw[hH1]at k2 k3;unfold wpListIn;have hw:Region.wanted oR (yielded Q2 a1.tmps)=true:=by unfold Region.wanted;rw[hRg]
 rw[if_pos hw];obtain⟨bm,co,o,g1,g2,g3,g4,g5⟩:=k3.Bv.obj m _ hb (by simp[ct.st]);simp only[fZ]at g3;obtain⟨es,clock,rfl,g6,g7,g8⟩:=g3;have hWf:T6 es clock:=by simpa using g8
 have nK:Live Lo ι1 H1 bm:=.inr ⟨m,_,co,hb,rfl,g1⟩;have hbm:bm<w1.heap.size:=eG g2;have hmv:a1.eval (.tmp dm)=.map (some bm):=by
  have:=dU k3.tm (x:=.tmp dm) (av:=.eS m) (by simp[bT,hm])
  simp only[R]at this;obtain⟨cb,co',q1,q2⟩:=this;rw[g1]at q1;cases q1
  exact q2
 have hu:=(V.ty t ti M4).cD;rw[eD]at hu;have gy:=run_range_map (P:=P) w1 t kt et bm es clock hu g2;have hdR:∀c,oR.op≠ .defer c:=by rw[hRo];intro c q;cases q
 refine lL.wpIn (Rr:=fun cv w'=>cv=.pointer (some ⟨w1.heap.size,0,none⟩)/\w'=w1.alloc (.mapIter (some bm) clock #[] clock)) hF hdR
  (.inl ⟨_,_,by simp only[execOp,hRo,hmv,Sem.run_bind,Sem.run_pure,gy,Result.andThen_ok],rfl,rfl⟩) ?_
 rintro cv w' ⟨rfl,rfl⟩;rw[hRd];have mN:Below w1.heap.size w1 (w1.alloc (.mapIter (some bm) clock #[] clock)):=
  ⟨rfl,rfl,rfl,by show w1.heap.size<=(w1.heap.push _).size;simp,fun k hk=>by show(w1.heap.push _)[k]?=_;rw[aKC,if_neg (by omega)]⟩
 obtain⟨S1,X1⟩:=k3.Bv.later mN;obtain⟨S2,X2⟩:=S1.mark [m];have T7:=X1.trans X2;have l8:(w1.alloc (.mapIter (some bm) clock #[] clock)).heap.size=w1.heap.size+1:=by show(w1.heap.push _).size=_;simp
 have agA:(w1.alloc (.mapIter (some bm) clock #[] clock)).heap[w1.heap.size]?=some (.mapIter (some bm) clock #[] clock):=by show(w1.heap.push _)[w1.heap.size]?=_;simp
 have eS:(w1.alloc (.mapIter (some bm) clock #[] clock)).heap[bm]?=some (.map es clock):=by
  show(w1.heap.push _)[bm]?=_
  rw[aKC,if_neg (by omega)];exact g2
 generalize w1.alloc (.mapIter (some bm) clock #[] clock)=wA at S1 X1 S2 X2 T7 l8 agA eS⊢;have hR:R ι1 wA (Live Lo ι1 (mark H1 [m])) (.ie w1.heap.size 0) (.pointer (some ⟨w1.heap.size,0,none⟩)):=by simp[R]
 have SA:St E B Lo w0 ι1 (mark H1 [m]) (ts1.set s (.ie w1.heap.size 0)) (a1.put (some s) (.pointer (some ⟨w1.heap.size,0,none⟩))) wA:=
  ⟨S2,Gm (Rs.ext T7 _ _ _ _ (cS.le_refl _) k3.tm) hR (some s),k3.SS.ext T7 (put_defers _ _ _)⟩
 have hmk:(mark H1 [m])[m]?=some (.map .ro ks vs):=by
  simp only[mark,List.foldl_cons,List.foldl_nil,List.getElem?_modify,hb,if_true,ct.j7]
  simp
 have yZ:¬Live Lo ι1 (mark H1 [m]) bm:=by
  obtain⟨bm',co',o',q1,q2,q3,q4,q5⟩:=S2.obj m _ hmk (by simp[ct.st]);rw[g1]at q1;cases q1
  exact q5 rfl
 have hnr:¬Live Lo ι1 (mark H1 [m]) w1.heap.size:=by
  intro hl
  have:Live Lo ι1 H1 w1.heap.size:=by
   rcases hl with hl|⟨b,dI,c,h1,h2,h3⟩
   ·exact .inl hl
   ·have:=k3.Bv.Ih b _ h3
    omega
  have:=Pj k3.Bv this
  omega
 show Code.wpIn F 0 P _ _ _ wA
 refine wpIn_block (wpIn_loop_rounds (es.size+1) ?_);have hB1:B<=w1.heap.size:=aM7 BI k2.size;have hn:vs.length=es.size:=by have:=g7.length;simpa using this.symm
 refine N7 V O hF h20 h21 hN hNd hNg hX Sc hXg hEn hEd hEg wG lK aj5 akg hN1 hN2 hWf (aKE _) (I w1.heap.size) (hIs _) (fun is i k v ts H h1 h2 h3 h4=>Jm _ is i k v ts H h1 h2 h3 h4) hB
  (ιS:=ι1) (wS:=w1) (LS:=Live Lo ι1 H1) (aKE _) hB1 (fun is ts' H' hp hi a' w' ι' j1 j2 j3=>?_)
  (es.size+1) [] _ _ _ wA ι1 (by simp) (by simp) (by simp) (hI0 _) SA (cS.le_refl _) T7 ⟨by rw[agA];rfl,eS,hnr,yZ⟩ (Rs.ext T7 _ _ _ _ (cS.le_refl _) g6) (Rs.ext T7 _ _ _ _ (cS.le_refl _) g7)
 show Exit.inBlock id K (.exit id) a' w'
 simp only[Exit.inBlock,if_true];exact hK .normal _ _ (MO _ is ts' H' (by rw[hn];exact hp) hi) a' w' ι' (cS.le_trans k1 j1) (k2.trans j2) j3
def OI:List Code->Code->Code
 |[],c=>c
 |x::l,c=>.seq x (OI l c)
def Jc(E:Env)(n:Nat):List Code->List AV->Hp->Option (List AV×Hp)
 |[],ts,H=>some (ts,H)
 |x::l,ts,H=>match bR E n x ts H with
  |some (.normal,ts',H')=>Jc E n l ts' H'
  |_=>none
def Ar.OI(V:Valid E P)(O:oW E P){n:Nat}{c:Code}:∀{l:List Code} {ts:List AV} {H:Hp} {ts':List AV} {H':Hp},Jc E n l ts H=some (ts',H')->(l.all fun x=>codeOk E x&&flat x)=true->Ar E P c ts' H' Q->
  Ar E P (Dv.OI l c) ts H Q
 |[],ts,H,ts',H',h,_,hs=>by cases h;exact hs
 |x::l,ts,H,ts',H',h,hl,hs=>by
  unfold Jc at h;simp only[List.all_cons,Bool.and_eq_true]at hl;cases hq:bR E n x ts H with
  |none=>rw[hq]at h;cases h
  |some q=>
   obtain⟨ex,t1,H1⟩:=q;rw[hq]at h;cases ex<;>try (cases h)
   exact Ar.seq (Ar.agU V O ⟨n,_,_,_,hq,Ar.OI V O h (by simpa using hl.2) hs⟩ hl.1.1 hl.1.2)
end
end
def gt(ts:List AV)(i:Nat):AV:=ts[i]?.getD bS
def aN{ts:List AV}{i:Nat}{v:AV}(h:i<ts.length):gt (ts.set i v) i=v:=by unfold gt;rw[aNv h];rfl
def aY{ts:List AV}{i j:Nat}{v:AV}(h:i≠j):gt (ts.set i v) j=gt ts j:=by unfold gt;rw[aNt h]
section
variable{E:Env}{pc:Pc}{ic yc:Ic}{dr:Bool}{ops:List Oper}{aP:Nat}{ts:List AV}{H:Hp}
def aQ{i:Nat}:bT ts (.tmp i)=some (gt ts i):=rfl
def dh{k:IntKind}{n:Int}:bT ts (.const (.int k n))=some (.int k n):=rfl
def CA{b:Bool}:bT ts (.const (.bool b))=some (.bool b):=rfl
def lu{f:Nat}:bT ts (.func f)=some (.func f [] []):=rfl
def Ww{g:Nat}:bT ts (.global g)=some (.ie g 0):=rfl
def qu:bT ts (.const (.slice none 0 0))=some .aH:=rfl
def dO:km ts []=some []:=rfl
def eW{d:Option Nat}{op:Op}{t:Nat}{p:String}{af:Array Edge}{j dj:Nat}{want:Bool}(hj:(ops[j]?).bind (·.dst)=some dj)(hd:gt ts dj=.bool want):
  bU E pc ic yc dr ops aP ⟨d,op,t,p,af,some (j,want)⟩ ts H=bU E pc ic yc dr ops aP ⟨d,op,t,p,af,none⟩ ts H:=by
 have h:ts[dj]?=some (.bool want):=by
  unfold gt at hd;cases hq:ts[dj]? with
  |none=>rw[hq]at hd;cases hd
  |some x=>rw[hq]at hd;simp only[aMv]at hd;rw[hd]
 unfold bU bE;simp only[hj,h,beq_self_eq_true,if_true];rfl
def eH{d:Option Nat}{op:Op}{t:Nat}{p:String}{af:Array Edge}{j dj:Nat}{want b:Bool}(hj:(ops[j]?).bind (·.dst)=some dj)(hd:gt ts dj=.bool b)(hb:b≠want:=by simp):
  bU E pc ic yc dr ops aP ⟨d,op,t,p,af,some (j,want)⟩ ts H=some (bt d bS ts,.bJ []):=by
 have h:ts[dj]?=some (.bool b):=by
  unfold gt at hd;cases hq:ts[dj]? with
  |none=>rw[hq]at hd;cases hd
  |some x=>rw[hq]at hd;simp only[aMv]at hd;rw[hd]
 unfold bU bE
 have:(b==want)=false:=by simpa using hb
 simp only[hj,h,this,aK4,if_false]
variable{d:Nat}{t:Nat}{p:String}{af:Array Edge}
def cQ{x:Operand}{v:AV}(h:bT ts x=some v):bU E pc ic yc dr ops aP ⟨some d,.move x,t,p,af,none⟩ ts H=some (ts.set d v,.bJ []):=by simp[bU,bE,dH,h,bt]
def gF{x:Operand}{v:AV}(h:bT ts x=some v):bU E pc ic yc dr ops aP ⟨some d,.assign x,t,p,af,none⟩ ts H=some (ts.set d v,.bJ []):=by simp[bU,bE,dH,h,bt]
def HT{c a b:Operand}{q:Bool}{v:AV}(hc:bT ts c=some (.bool q))(h:bT ts (if q then a else b)=some v):bU E pc ic yc dr ops aP ⟨some d,.pick c a b,t,p,af,none⟩ ts H=some (ts.set d v,.bJ []):=by
 simp only[bU,bE,dH,hc,bt,if_true];cases q<;>simp_all
def gZ{op:BinOp}{t1 t2:Nat}{x y:Operand}{u v r:AV}(hx:bT ts x=some u)(hy:bT ts y=some v)(h:cd E (bC x||bC y) op t1 u v=some r):
  bU E pc ic yc dr ops aP ⟨some d,.binOp op t1 x y t2,t,p,af,none⟩ ts H=some (ts.set d r,.bJ []):=by
 simp[bU,bE,dH,hx,hy,h,bt]
def iT{t1:Nat}{x y:Operand}{u v r:AV}(hx:bT ts x=some u)(hy:bT ts y=some v)(h:b9 E t1 u v=some r):
  bU E pc ic yc dr ops aP ⟨some d,.indexAddr t1 x y,t,p,af,none⟩ ts H=some (ts.set d r,.bJ []):=by
 simp[bU,bE,dH,hx,hy,h,bt]
def rM{t1:Nat}{x:Operand}{u r:AV}(hx:bT ts x=some u)(h:dW E H t1 u=some r):
  bU E pc ic yc dr ops aP ⟨some d,.load t1 x,t,p,af,none⟩ ts H=some (ts.set d r,.bJ []):=by
 simp[bU,bE,dH,hx,h,bt]
def yO{t1:Nat}{x y:Operand}{u v:AV}{l:List (Nat×ct)}(hx:bT ts x=some u)(hy:bT ts y=some v)(h:fe E H t1 u v=some l):
  bU E pc ic yc dr ops aP ⟨none,.store t1 x y,t,p,af,none⟩ ts H=some (ts,.bJ l):=by
 simp[bU,bE,dH,hx,hy,h,bt]
def Ln{t1:Nat}{z:AV}(h:eo E t1=some z):
  bU E pc ic yc dr ops aP ⟨some d,.alloc t1,t,p,af,none⟩ ts H=some (ts.set d (.bI aP 0),.bJ [(aP,.cells .live z.cells)]):=by
 simp[bU,bE,dH,h,bt]
def OP{s1 d1:Nat}{x:Operand}{k k':IntKind}{n:Int}{si di:sO}(hx:bT ts x=some (.int k n))(hs:E.ty s1=some si)(hd:E.ty d1=some di)(hk:di.cD=.int k'):
  bU E pc ic yc dr ops aP ⟨some d,.convert s1 d1 x,t,p,af,none⟩ ts H=some (ts.set d (.int k' (aW k' n)),.bJ []):=by
 obtain⟨cD,jA,jS,jB,jZ,dQ⟩:=di;simp only at hk;subst hk
 simp[bU,bE,dH,hx,hs,hd,bt,Cr]
def OQ{x:Operand}{vs:List AV}{i:Nat}{v:AV}(hx:bT ts x=some (.tuple vs))(hv:vs[i]?=some v):
  bU E pc ic yc dr ops aP ⟨some d,.extract x i,t,p,af,none⟩ ts H=some (ts.set d v,.bJ []):=by
 simp[bU,bE,dH,hx,hv,bt]
def rL{bi:Builtin}{args:Array Operand}{ats:Array Nat}{al:List AV}{r:AV}{l:List (Nat×ct)}(ha:km ts args.toList=some al)(h:bB E H aP bi ats.toList al=some (r,l)):
  bU E pc ic yc dr ops aP ⟨some d,.call {callee:=.builtin bi,args:=args,argTypes:=ats},t,p,af,none⟩ ts H=some (ts.set d r,.bJ l):=by
 simp[bU,bE,dH,ha,h,bt]
def Z4{f:Nat}{fo:Operand}{args:Array Operand}{ats:Array Nat}{al first cap:List AV}{r:AV}(hf:bT ts fo=some (.func f first cap))(ha:km ts args.toList=some al)
  (hp:∀fi,E.fn f=some fi->fi.pure=true) (hz:aV (first++al++cap)=true) (hr:pc f (first++al++cap)=some r):
  bU E pc ic yc dr ops aP ⟨some d,.call {callee:=.value fo,args:=args,argTypes:=ats},t,p,af,none⟩ ts H=
   some (ts.set d r,if bY r then .looks []else .marks []):=by
 cases fB:E.fn f with
 |none=>simp only[bU,bE,dH,hf,ha,ka,bt,fB,bW,hz,hr,if_true,aLt]
 |some fi=>
  obtain⟨code,ntmps,results,pu,du⟩:=fi
  have:=hp _ fB
  simp only at this;subst this;simp only[bU,bE,dH,hf,ha,ka,bt,fB,bW,hz,hr,if_true,aLt]
def Gs{f:Nat}{fo:Operand}{args:Array Operand}{ats:Array Nat}{al:List AV}{r:AV}(hf:bT ts fo=some (.func f [] []))(ha:km ts args.toList=some al)
  (hp:∀fi,E.fn f=some fi->fi.pure=true) (hz:aV al=true) (hr:pc f al=some r):
  bU E pc ic yc dr ops aP ⟨some d,.call {callee:=.value fo,args:=args,argTypes:=ats},t,p,af,none⟩ ts H=
   some (ts.set d r,if bY r then .looks []else .marks []):=by
 refine Z4 hf ha hp ?_ ?_
 ·simpa using hz
 ·simpa using hr
end
section
variable{E:Env}{ops:List Oper}{rest:List Oper}{ts:List AV}{H:Hp}{q:List AV->Hp->Prop}{aP:Nat}
def QY(pc:Pc):Gy (fun _ _=>none) pc:=fun _ _ _ h=>by cases h
def pK(ic:Ic):vB (fun _ _ _=>none) ic:=fun _ _ _ _ h=>by cases h
def gz.VZ{d:Option Nat}{t:Nat}{p:String}{af:Array Edge}{g:Option (Nat×Bool)}{f:Nat}{fo:Operand}{args:Array Operand}{ats:Array Nat}{al:List AV}{r:AV}{ts1:List AV}{e:cC}
  (hc:∃m,call E m f al=some r)
  (h1:∀pc:Pc,pc f al=some r->bU E pc (fun _ _ _=>none) (fun _ _ _=>none) false ops H.length ⟨d,.call {callee:=.value fo,args:=args,argTypes:=ats},t,p,af,g⟩ ts H=some (ts1,e))
  (h:gz E ops rest ts1 (e.app H) q):gz E ops (⟨d,.call {callee:=.value fo,args:=args,argTypes:=ats},t,p,af,g⟩::rest) ts H q:=by
 obtain⟨n,ts',H',k1,k2⟩:=h;obtain⟨m,hm⟩:=hc;have l1:=cY (E:=E) (aND n m);have l2:=cY (E:=E) (aNC n m);refine⟨max n m,ts',H',?_,k2⟩;unfold qa;have h1:=h1 (jE E (bR E (max n m))) (lk (aNC n m) _ _ _ hm);rw[oI (fun _ _ _ h=>h) (pK _) (pK _) h1];exact rA (lH l1) (jV l1) (jW l1) k1
def dD(E:Env)(ops rest:List Oper)(aP:Nat)(ts:List AV)(H:Hp)(Q:List AV->Hp->List (List Nat×List Nat)->Prop):Prop:=
 ∃n ts' H' l,o7 E (jE E (bR E n)) (kQ E (bR E n)) (lI (bR E n)) ops rest aP ts H=some (ts',H',l)/\Q ts' H' l
variable{Q:List AV->Hp->List (List Nat×List Nat)->Prop}
def dD.nil(h:Q ts H []):dD E ops [] aP ts H Q:=⟨0,_,_,_,rfl,h⟩
def dD.step{o:Oper}{ts1:List AV}{e:cC}(hl:bV E o=false)(h1:bU E (fun _ _=>none) (fun _ _ _=>none) (fun _ _ _=>none) true ops aP o ts H=some (ts1,e))
  (h:dD E ops rest aP ts1 (e.app H) fun ts' H' l=>Q ts' H' (bH E ts o e::l)):dD E ops (o::rest) aP ts H Q:=by
 obtain⟨n,ts',H',l,k1,k2⟩:=h;refine⟨n,ts',H',_,?_,k2⟩;unfold o7;rw[hl];simp only[aNx,aK4,if_false];rw[oI (QY _) (pK _) (pK _) h1];simp only[k1]
def dD.VZ{d:Option Nat}{t:Nat}{p:String}{af:Array Edge}{g:Option (Nat×Bool)}{f:Nat}{fo:Operand}{args:Array Operand}{ats:Array Nat}{al:List AV}{r:AV}{ts1:List AV}{e:cC}
  (hc:∃m,call E m f al=some r)
  (h1:∀pc:Pc,pc f al=some r->bU E pc (fun _ _ _=>none) (fun _ _ _=>none) true ops aP ⟨d,.call {callee:=.value fo,args:=args,argTypes:=ats},t,p,af,g⟩ ts H=some (ts1,e))
  (h:dD E ops rest aP ts1 (e.app H) fun ts' H' l=>Q ts' H' (bH E ts ⟨d,.call {callee:=.value fo,args:=args,argTypes:=ats},t,p,af,g⟩ e::l)):
  dD E ops (⟨d,.call {callee:=.value fo,args:=args,argTypes:=ats},t,p,af,g⟩::rest) aP ts H Q:=by
 obtain⟨n,ts',H',l,k1,k2⟩:=h;obtain⟨m,hm⟩:=hc;have l1:=cY (E:=E) (aND n m);refine⟨max n m,ts',H',_,?_,k2⟩;unfold o7;have h1:=h1 (jE E (bR E (max n m))) (lk (aNC n m) _ _ _ hm);rw[show bV E ⟨d,.call {callee:=.value fo,args:=args,argTypes:=ats},t,p,af,g⟩=false from rfl];simp only[aNx,aK4,if_false];rw[oI (fun _ _ _ h=>h) (pK _) (pK _) h1];simp only[uH (lH l1) (jV l1) (jW l1) k1]
def Cv.BS{id:Nat}{ops:Array Oper}{Q:Ex->List AV->Hp->Prop}(hz:ops.toList.countP (bV E)=0)
  (h:dD E ops.toList ops.toList H.length ts H fun ts' H' l=>(E.pairs id ops.toList.length).all (rE l)=true/\Q .normal ts' H'):Cv E (.region id ops true) ts H Q:=by
 obtain⟨n,ts',H',l,h1,h2,h3⟩:=h;refine⟨n+1,_,_,_,?_,h3⟩;show cM E (bR E n) (.region id ops true) ts H=_
 unfold cM xZ;simp only[if_true,hz,List.replicate_zero,List.append_nil,h1,h2,aLt]
def gz.VY{d:Nat}{t:Nat}{p:String}{af:Array Edge}{f:Nat}{fo:Operand}{args:Array Operand}{ats:Array Nat}{al:List AV}{fi:FnI}
  (hf:bT ts fo=some (.func f [] [])) (ha:km ts args.toList=some al) (fB:E.fn f=some fi) (Sr:fi.pure=false) (ke:E.rC f al H=none)
  (h:Cv E fi.code (al++List.replicate (fi.ntmps-al.length) bS) H fun ex oc H2=>(∀id,ex≠ .exit id)/\∃rs,fL H2 E oc fi.results=some rs/\gz E ops rest (ts.set d (gV rs)) H2 q):
  gz E ops (⟨some d,.call {callee:=.value fo,args:=args,argTypes:=ats},t,p,af,none⟩::rest) ts H q:=by
 obtain⟨n,ex,oc,H2,h1,hex,rs,h2,m,ts',H',k1,k2⟩:=h;have l1:=cY (E:=E) (aND n m);have l2:=cY (E:=E) (aNC n m);refine⟨max n m,ts',H',?_,k2⟩;unfold qa;obtain⟨code,ntmps,results,pu,du⟩:=fi;simp only at Sr;subst Sr;have gy:kQ E (bR E (max n m)) f al H=some (gV rs,H2):=by
  unfold kQ oF;simp only[ke,fB];rw[l1 _ _ _ _ h1];cases ex with
  |exit id=>exact absurd rfl (hex id)
  |normal=>simp only[h2,aLt]
  |ret=>simp only[h2,aLt]
 have dp:bU E (jE E (bR E (max n m))) (kQ E (bR E (max n m))) (lI (bR E (max n m))) false ops H.length ⟨some d,.call {callee:=.value fo,args:=args,argTypes:=ats},t,p,af,none⟩ ts H=some (ts.set d (gV rs),.Es H2):=by simp only[bU,bE,dH,hf,ha,ka,fB,bt,if_true,aNx,Bool.and_false,aK4,if_false,List.nil_append,List.append_nil,gy]
 rw[dp];exact rA (lH l2) (jV l2) (jW l2) k1
def IK{H:Hp}{aP t e n:Nat}{i ei:sO}{x:AV}{xs:List AV}(hS:E.ty t=some i)(hu:i.cD=.slice e)(hE:E.ty e=some ei)(hl:l9 x=some n)(hs:mX H ei.size x=some xs)(hn:0<n)
  (h0:ei.size≠0) (ho:xs.all cL=true) (hz:ei.zero.isNone=false) (hb:n*ei.bytes<=eU) (hm:n<=4611686018427387904):
  dT E H aP false t .aH x=some (.aI aP 0 n ei.size n,[(aP,.cells .live xs)]):=by
 obtain⟨cD,jA,jS,jB,jZ,dQ⟩:=i;simp only at hu;subst hu;have h1:(decide (ei.size=0)||!xs.all cL||ei.zero.isNone)=false:=by simp[h0,ho,hz]
 simp only[dT,hS,hE,qM,aK4,if_false,hl,hs];rw[if_neg (by omega:¬n=0),h1];simp only[aK4,if_false];rw[if_pos ⟨hb,hm⟩]
def qY{H:Hp}{aP t e n b off len kc:Nat}{i ei:sO}{x:AV}{xs cs:List AV}(hS:E.ty t=some i)(hu:i.cD=.slice e)(hE:E.ty e=some ei)(hl:l9 x=some n)(hs:mX H ei.size x=some xs)(hn:0<n)
  (h0:ei.size≠0) (ho:xs.all cL=true) (hz:ei.zero.isNone=false) (hb:(len+n)*ei.bytes<=eU) (hm:len+n<=4611686018427387904) (hH:H[b]?=some (.cells .live cs)) (hk:kc<len+n) (hc:off+len*ei.size<=cs.length):
  dT E H aP false t (.aI b off len ei.size kc) x=some (.aI aP 0 (len+n) ei.size (len+n),[(b,.cells .dead []),(aP,.cells .live ((cs.drop off).take (len*ei.size)++xs))]):=by
 obtain⟨cD,jA,jS,jB,jZ,dQ⟩:=i;simp only at hu;subst hu;have h1:(decide (ei.size=0)||!xs.all cL||ei.zero.isNone)=false:=by simp[h0,ho,hz]
 simp only[dT,hS,hE,qM,aK4,if_false,hl,hs];rw[if_neg (by omega:¬n=0),h1];simp only[aK4,if_false,hH];rw[if_neg (by omega),if_pos ⟨trivial,hc,hb,hm⟩]
def builtin_append{H:Hp}{aP t u:Nat}{i:sO}{e:Nat}{s x:AV}{r}(hu:E.ty u=some i)(hi:i.cD=.slice e)(h:dT E H aP false t s x=r):bB E H aP .append [t,u] [s,x]=r:=by obtain⟨cD,jA,jS,jB,jZ,dQ⟩:=i;simp only at hi;subst hi;simp only[bB,hu];exact h
end
def fu{H:Hp}:(cC.bJ []).app H=H:=rfl
def cp{H:Hp}{b:Nat}{x:ct}(h:b<H.length):(cC.bJ [(b,x)]).app H=H.set b x:=by simp[cC.app,cJ,h]
def GA{H:Hp}{x:ct}:(cC.bJ [(H.length,x)]).app H=H++[x]:=by simp[cC.app,cJ]
end Dv
namespace Dv
open Go
def Rt:List AV->Option (List (List UInt8))
 |[]=>some []
 |.str s::l=>(Rt l).map (s::·)
 |_=>none
structure UJ where
 JI:Nat
 auC:Nat
 trim:Nat
 trimPrefix:Nat
 Fs:Nat
 Gg:Nat
 itoa:Nat
 rep:Nat
 join:Nat
 contains:Nat
 pred:Nat
def Q3:List AV->Option AV
 |[.str s,.int .u8 c]=>some (.int .i64 (Lib.indexByte s c.toNat.toUInt8))
 |_=>none
def Zn:List AV->Option AV
 |[.int .u32 x]=>if 0<=x/\x<=4294967295 then some (.int .i64 (32-(Lib.bitLen x.toNat:Int)))else none
 |_=>none
def Dy:List AV->Option AV
 |[.str s,.str c]=>if c.all (fun b=>decide (b.toNat<128))=true/\c.length<4294967281/\s.length<=9223372036854775807 then some (.str (Lib.trimS s c))else none
 |_=>none
def nT:List AV->Option AV
 |[.str s,.str p]=>some (.str (Lib.trimPrefix s p))
 |_=>none
def pL:List AV->Option AV
 |[.str s,.str p]=>some (.tuple [.str (Lib.trimPrefix s p),.bool (Lib.hasPrefix s p)])
 |_=>none
def mS:List AV->Option AV
 |[.str s,.int .i64 b,.int .i64 z]=>if b=10/\z=32/\s.length<=9223372036854775806 then(match Lib.parseUintB 32 s with
  |.ok u=>some (.tuple [.int .u64 u,.nilIface])
  |_=>none)else none
 |_=>none
def Oh:List AV->Option AV
 |[.int .i64 n]=>if 0<=n/\n<=9223372036854775807 then some (.str (Lib.itoa n))else none
 |_=>none
def Zo:List AV->Option AV
 |[.str s,.int .i64 n]=>if 0<=n/\n<=9223372036854775807/\s.length*n.toNat<=140737488355328 then some (.str (Lib.repeatL s n.toNat))else none
 |_=>none
def Oi:List AV->Option AV
 |[.aK cs n,.str sep]=>if cs.length=n/\2<=n/\n<=140737488355328 then(match Rt cs with
  |some xs=>if 0<(Lib.join xs sep).length/\(Lib.join xs sep).length<=281474976710656 then some (.str (Lib.join xs sep))else none
  |none=>none)else none
 |_=>none
def oA(pred:Nat):List AV->Option AV
 |[.str s,.func f [] []]=>if f=pred/\s.all (fun b=>decide (48<=b.toNat/\b.toNat<=57))=true/\s.length<=281474976710656 then some (.bool false)else none
 |_=>none
def iD(N:UJ)(f:Nat)(l:List AV):Option AV:=
 if f=N.JI then Q3 l else
 if f=N.auC then Zn l else
 if f=N.trim then Dy l else
 if f=N.trimPrefix then nT l else
 if f=N.Fs then pL l else
 if f=N.Gg then mS l else
 if f=N.itoa then Oh l else
 if f=N.rep then Zo l else
 if f=N.join then Oi l else
 if f=N.contains then oA N.pred l else none
def JA:List AV->Hp->Option (AV×Hp)
 |[s,.int .i64 i,.aI c 0 1 12 1],H=>
  match H[c]? with
  |some (.cells .live x)=>
   if x.length=12/\x.all cL=true then
    match s with
    |.aH=>if i=0 then some (.aI H.length 0 1 12 1,H++[.cells .live x])else none
    |.aI b 0 n 12 k=>
     match H[b]? with
     |some (.cells .live cs)=>
      if n=k/\cs.length=n*12/\cs.all cL=true/\0<n/\n<1000/\0<=i/\i<=(n:Int)/\b≠c then
       some (.aI H.length 0 (n+1) 12 (n+1),H.set b (.cells .dead [])++[.cells .live (cs.take (i.toNat*12)++x++cs.drop (i.toNat*12))])
      else none
     |_=>none
    |_=>none
   else none
  |_=>none
 |_,_=>none
def JC{c:Nat}{H:Hp}{x:List AV}(hx:H[c]?=some (.cells .live x))(hl:x.length=12)(ho:x.all cL=true):
  JA [.aH,.int .i64 0,.aI c 0 1 12 1] H=some (.aI H.length 0 1 12 1,H++[.cells .live x]):=by
 simp[JA,hx,hl,ho]
def JB{b c n i:Nat}{H:Hp}{x cs:List AV}(hx:H[c]?=some (.cells .live x))(hl:x.length=12)(ho:x.all cL=true)
  (hb:H[b]?=some (.cells .live cs)) (vQ:cs.length=n*12) (GX:cs.all cL=true) (hn:0<n) (xh:n<1000) (hi:i<=n) (eQ:b≠c:=by omega):
  JA [.aI b 0 n 12 n,.int .i64 (i:Int),.aI c 0 1 12 1] H=some (.aI H.length 0 (n+1) 12 (n+1),H.set b (.cells .dead [])++[.cells .live (cs.take (i*12)++x++cs.drop (i*12))]):=by
 have h1:(0:Int)<=(i:Int):=by omega
 have h2:(i:Int)<=(n:Int):=by omega
 simp only[JA,hx,hl,ho,hb];simp only[vQ,GX,hn,xh,h1,h2,eQ,ne_eq,not_false_eq_true,and_self,if_true,Int.toNat_natCast]
end Dv
