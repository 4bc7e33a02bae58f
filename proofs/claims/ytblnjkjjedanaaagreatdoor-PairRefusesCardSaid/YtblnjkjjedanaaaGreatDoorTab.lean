/- A part of the proof that PairRefuses returns true for every input; no condition of its own. -/
import Derived.Test.YtblnjkjjedanaaaGreatDoorTaa
import Derived.Laws.IdiomCopy
import Derived.Laws.Append
import Derived.Laws.IdiomRangeMap
import Derived.ChangeKeysEq
import Derived.Laws.StructEq
import Derived.Laws.Slices
set_option linter.all false
set_option maxHeartbeats 100000000
set_option maxRecDepth 100000
open Option renaming map_eq_some_iff->aLp,some->aLv,isSome_none->aLx,bind_eq_some_iff->aLA
open List renaming getElem?_set->aLq,getElem?_eq_some_iff->aLu,extract_eq_take_drop->aLy,getElem?_eq_none->aLB
open Nat renaming le_refl->aLr,add_assoc->aLt,sub_self->aLz
open Bool renaming false_eq_true->aLs
open Array renaming getElem?_push->aLw,getElem?_toList->aLC
namespace Dv
open Go Go.RowKit
structure ak8(E:Env)(P:Program)(t:Nat)(i:yT):Prop where
 cS:P.underlying t=some i.cS
 agg:i.isAgg=(match i.cS with|.struct _|.array .. =>true|_=>false)
 info:∃ti,P.info? t=some ti/\ti.size=i.size/\ti.bytes=i.bytes/\
  (∀cs,i.zero=some cs->∃z,ti.zero=some z/\dh (CE 19) z.cells.toList=some cs/\cs.length=i.size/\
   (i.isAgg=true->∃a,z=.agg a)/\(i.isAgg=false->z.cells=#[z]))
 one:i.isAgg=false->i.size=1
 eq:i.eQ=true->P.stoodInHeld t=false/\P.eqGuardType P.depth t=false
structure Valid(E:Env)(P:Program):Prop where
 ty:∀t i,E.ty t=some i->ak8 E P t i
 fn:∀f fi,E.fn f=some fi->∃fn,P.funcs[f]?=some fn/\fn.body=some fi.code/\fn.ntmps=fi.ntmps/\fn.results.toList=fi.results/\
  fn.name≠ "runtime.NumGoroutine"/\codeOk E fi.code=true
 mixed:P.follows .mixedOrders=true
theorem bg{E:Env}{P:Program}(V:Valid E P){t:Nat}{i:yT}(h:E.ty t=some i)(w:World):(underlying t).run P w=.ok i.cS w:=
 run_underlying (V.ty t i h).cS w
theorem cU{E:Env}{P:Program}(V:Valid E P){t:Nat}{i:yT}(h:E.ty t=some i)(w:World):(Go.sizeOf t).run P w=.ok i.size w:=by obtain⟨ti,h1,h2,_⟩:=(V.ty t i h).info;simp[Go.sizeOf,typeInfo,h1,h2]
theorem Fq{E:Env}{P:Program}(V:Valid E P){t:Nat}{i:yT}(h:E.ty t=some i)(w:World):(isAgg t).run P w=.ok i.isAgg w:=by
 have hu:=bg V h w;have ha:=(V.ty t i h).agg;unfold isAgg;simp only[Sem.run_bind,hu,Result.andThen_ok,ha];cases i.cS<;>rfl
mutual
theorem Nk{ι:dZ}{w:World}{L:Nat->Prop}:∀(n:Nat) (v:Value) (av:AV),CE n v=some av->R ι w L av v
 |0,_,_,h=>by simp[CE]at h
 |n+1,v,av,h=>by
  unfold CE at h;split at h
  case h_1=>cases h;simp[R]
  case h_2=>cases h;simp[R]
  case h_3 s=>cases h;simp[R]
  case h_4=>cases h;simp[R]
  case h_5=>cases h;simp[R]
  case h_6=>cases h;simp[R]
  case h_7=>cases h;simp[R]
  case h_8=>cases h;simp[R]
  case h_9 cs=>
   rw[aLp]at h;obtain⟨xs,h1,rfl⟩:=h;simp only[R];exact⟨cs,rfl,xw n cs.toList xs h1⟩
  case h_10 cs=>
   rw[aLp]at h;obtain⟨xs,h1,rfl⟩:=h;simp only[R];exact⟨cs,rfl,xw n cs.toList xs h1⟩
  case h_11 t v=>
   rw[aLp]at h;obtain⟨x,h1,rfl⟩:=h;simp only[R];exact⟨v,rfl,Nk n v x h1⟩
  case h_12=>cases h
theorem xw{ι:dZ}{w:World}{L:Nat->Prop}:∀(n:Nat) (vs:List Value) (xs:List AV),dh (CE n) vs=some xs->Rs ι w L xs vs
 |_,[],_,h=>by simp[dh]at h;subst h;simp[Rs]
 |n,v::vs,xs,h=>by
  unfold dh at h;cases h1:CE n v with
  |none=>simp[h1]at h
  |some x=>
   simp only[h1]at h;cases h2:dh (CE n) vs with
   |none=>simp[h2]at h
   |some ys=>
    simp only[h2,aLv.injEq]at h;subst h;simp only[Rs];exact⟨v,vs,rfl,Nk n v x h1,xw n vs ys h2⟩
end
theorem Hn{ι:dZ}{w:World}{L:Nat->Prop}{x:AV}{v:Value}(h:R ι w L x v)(ho:b7 x=true):v.oneCell'=true:=by
 cases x<;>simp only[b7,aLs]at ho<;>simp only[R]at h
 case bool=>subst h;rfl
 case int=>subst h;rfl
 case str=>subst h;rfl
 case jH=>subst h;rfl
 case b6=>obtain⟨_,_,_,rfl⟩:=h;rfl
 case eU=>obtain⟨_,_,_,_,_,rfl,_⟩:=h;rfl
 case rX=>subst h;rfl
 case aH=>subst h;rfl
 case ef=>obtain⟨_,_,rfl⟩:=h;rfl
 case aI=>obtain⟨_,_,_,_,_,_,_,rfl,_⟩:=h;rfl
 case aJ=>obtain⟨_,_,_,_,_,_,rfl,_⟩:=h;rfl
 case jW=>subst h;rfl
 case iL=>obtain⟨_,_,_,rfl⟩:=h;rfl
 case xk=>obtain⟨_,_,_,rfl,_⟩:=h;rfl
 case jl=>subst h;rfl
 case func=>obtain⟨_,_,rfl,_⟩:=h;rfl
 case nilIface=>subst h;rfl
 case iface=>obtain⟨_,rfl,_⟩:=h;rfl
 case yield=>obtain⟨_,_,_,rfl⟩:=h;rfl
theorem R.cells{ι:dZ}{w:World}{L:Nat->Prop}{x:AV}{v:Value}(h:R ι w L x v):Rs ι w L x.cells v.cells.toList:=by
 cases x
 case agg cs=>simp only[R]at h;obtain⟨vs,rfl,h2⟩:=h;exact h2
 all_goals
  have h0:=h;simp only[R]at h;simp only[AV.cells,Rs];refine⟨v,[],?_,h0,rfl⟩
 case bool=>subst h;rfl
 case int=>subst h;rfl
 case str=>subst h;rfl
 case jH=>subst h;rfl
 case b6=>obtain⟨_,_,_,rfl⟩:=h;rfl
 case eU=>obtain⟨_,_,_,_,_,rfl,_⟩:=h;rfl
 case rX=>subst h;rfl
 case aH=>subst h;rfl
 case ef=>obtain⟨_,_,rfl⟩:=h;rfl
 case aI=>obtain⟨_,_,_,_,_,_,_,rfl,_⟩:=h;rfl
 case aJ=>obtain⟨_,_,_,_,_,_,rfl,_⟩:=h;rfl
 case jW=>subst h;rfl
 case iL=>obtain⟨_,_,_,rfl⟩:=h;rfl
 case xk=>obtain⟨_,_,_,rfl,_⟩:=h;rfl
 case jl=>subst h;rfl
 case func=>obtain⟨_,_,rfl,_⟩:=h;rfl
 case nilIface=>subst h;rfl
 case iface=>obtain⟨_,rfl,_⟩:=h;rfl
 case tuple=>obtain⟨_,rfl,_⟩:=h;rfl
 case yield=>obtain⟨_,_,_,rfl⟩:=h;rfl
def cG.st:cG->iH
 |.cells st _=>st
 |.map st _ _=>st
 |.kF .. =>.live
 |.loop .. =>.live
def Live(Lo:Nat->Prop)(ι:dZ)(H:Hp)(c:Nat):Prop:=Lo c∨∃b eP co,H[b]?=some eP/\eP.st=.live/\ι b=some (c,co)
def Ze(es:Array MapEntry)(clock:Nat):Prop:=(∀x∈es.toList,x.born<clock)/\(es.toList.map (·.born)).Nodup
def jF(ι:dZ)(w:World)(L:Nat->Prop)(co:Nat):cG->Obj->Prop
 |.cells st cs,o=>∃c e f,o=.cells c e f/\j6 ι w L c co cs/\(st=.live->∀k,k<c.size->¬(f.1<=k/\k<f.2))
 |.map st ks vs,o=>∃es clock,o=.map es clock/\Rs ι w L ks (es.toList.map (·.key))/\Rs ι w L vs (es.toList.map (·.val))/\(st=.live->Ze es clock)
 |.kF s pos,o=>co=0/\o=.stringIter ⟨s.toArray⟩ pos
 |.loop st oq ts ps a_ bd,o=>∃l:Loop,o=.loop l/\l.state=st/\l.pending=oq/\Rs ι w L ts l.tmps.toList/\l.params.toList=ps/\l.assign=a_/\l.body=bd
theorem jF.ext{w w':World}{L L':Nat->Prop}(he:Ext w L w' L'){ι ι':dZ}(hi:ι.le ι'){co:Nat}{eP:cG}{o:Obj}(h:jF ι w L co eP o):jF ι' w' L' co eP o:=by
 cases eP<;>simp only[jF]at h⊢
 case cells=>obtain⟨c,e,f,h1,h2,h3⟩:=h;exact⟨c,e,f,h1,j6.ext he _ _ _ _ _ hi h2,h3⟩
 case map=>obtain⟨es,k,h1,h2,h3,h4⟩:=h;exact⟨es,k,h1,Rs.ext he _ _ _ _ hi h2,Rs.ext he _ _ _ _ hi h3,h4⟩
 case kF=>exact h
 case loop=>obtain⟨l,h1,h2,h3,h4,h5⟩:=h;exact⟨l,h1,h2,h3,Rs.ext he _ _ _ _ hi h4,h5⟩
def cG.tP(E:Env):cG->Prop
 |.loop _ p _ _ a_ bd=>codeOk E a_=true/\codeOk E bd=true/\flat a_=true/\flat bd=true/\∀c,p=some c->codeOk E c=true
 |_=>True
structure iW(E:Env)(Lo:Nat->Prop)(w0:World)(ι:dZ)(H:Hp)(w:World):Prop where
 below:Below w0.heap.size w0 w
 lo:∀c,Lo c->c<w0.heap.size
 NW:∀b p,ι b=some p->b<H.length/\p.1<w.heap.size
 obj:∀(b:Nat) (eP:cG),H[b]?=some eP->eP.st≠ .dead->∃cb co o,ι b=some (cb,co)/\w.heap[cb]?=some o/\jF ι w (Live Lo ι H) co eP o/\
  (eP.st=.live->w0.heap.size<=cb)/\(eP.st=.ro->¬Live Lo ι H cb)
 inj:∀(b b':Nat) (eP blk':cG) (c co co':Nat),H[b]?=some eP->eP.st=.live->H[b']?=some blk'->blk'.st=.live->ι b=some (c,co)->ι b'=some (c,co')->b=b'
 glob:∀g cs,E.glob g=some cs->∃c e f,w.heap[g]?=some (.cells c e f)/\¬Live Lo ι H g/\j6 cE w (Live Lo ι H) c 0 cs/\c.size=cs.length
 tP:∀(b:Nat) (eP:cG),H[b]?=some eP->eP.st=.live->eP.tP E
 res:∀b p,ι b=some p->H[b]?≠some dV
section
variable{E:Env}{Lo:Nat->Prop}{w0:World}{ι:dZ}{H:Hp}{w:World}
def pI(ι:dZ)(H:Hp)(aM:Nat):Prop:=ι aM=none/\(aM=H.length∨H[aM]?=some dV)
def dZ.put(ι:dZ)(b:Nat)(p:Nat×Nat):dZ:=fun x=>if x=b then some p else ι x
theorem dZ.Bj{b:Nat}{p:Nat×Nat}(h:ι b=none):ι.le (ι.put b p):=fun x q hx=>by
 unfold dZ.put
 split
 ·rename_i he;subst he;rw[h]at hx;cases hx
 ·exact hx
theorem Eh(h:iW E Lo w0 ι H w):pI ι H H.length:=
 ⟨by cases hi:ι H.length with
   |none=>rfl
   |some p=>exact absurd (h.NW _ _ hi).1 (Nat.lt_irrefl _),.inl rfl⟩
theorem VJ(h:iW E Lo w0 ι H w){aM:Nat}(hn:H[aM]?=some dV):pI ι H aM:=
 ⟨by cases hi:ι aM with
   |none=>rfl
   |some p=>exact absurd hn (h.res _ _ hi),.inr hn⟩
theorem qa{aM:Nat}{eP:cG}(hf:aM<=H.length)(b:Nat):(dP H aM eP)[b]?=if b=aM then some eP else H[b]?:=by
 unfold dP
 split
 ·rename_i h;rw[aLq];by_cases hb:b=aM
  ·subst hb;simp[h]
  ·rw[if_neg (fun e=>hb e.symm),if_neg hb]
 ·rename_i h
  have:aM=H.length:=by omega
  subst this;by_cases hb:b=H.length
  ·subst hb;simp
  ·rw[if_neg hb,List.getElem?_append]
   split
   ·rfl
   ·rename_i h2;rw[aLB (by simp;omega),aLB (by omega)]
theorem LX{aM:Nat}{eP:cG}(hf:aM<=H.length):H.length<=(dP H aM eP).length/\aM<(dP H aM eP).length:=by
 unfold dP
 split
 ·simp;omega
 ·simp;omega
theorem pI.le{aM:Nat}(h:pI ι H aM):aM<=H.length:=by
 rcases h.2 with rfl|h2
 ·exact aLr _
 ·exact Nat.le_of_lt (aLu.1 h2).1
theorem EK{aM cb co:Nat}{eP:cG}(hf:pI ι H aM)(hl:eP.st=.live)(c:Nat):
  Live Lo (ι.put aM (cb,co)) (dP H aM eP) c↔Live Lo ι H c∨c=cb:=by
 unfold Live;constructor
 ·rintro(h|⟨b,bk,x,h1,h2,h3⟩)
  ·exact .inl (.inl h)
  ·rw[qa hf.le]at h1;unfold dZ.put at h3;by_cases hb:b=aM
   ·rw[if_pos hb]at h3;cases h3;exact .inr rfl
   ·rw[if_neg hb]at h1 h3;exact .inl (.inr ⟨b,bk,x,h1,h2,h3⟩)
 ·rintro((h|⟨b,bk,x,h1,h2,h3⟩)|h)
  ·exact .inl h
  ·have hb:b≠aM:=fun e=>by subst e;rw[hf.1]at h3;cases h3
   exact .inr ⟨b,bk,x,by rw[qa hf.le,if_neg hb];exact h1,h2,by unfold dZ.put;rw[if_neg hb];exact h3⟩
  ·subst h;exact .inr ⟨aM,eP,co,by rw[qa hf.le,if_pos rfl],hl,by unfold dZ.put;rw[if_pos rfl]⟩
theorem xI(h:iW E Lo w0 ι H w){aM:Nat}{eP:cG}(hf:pI ι H aM)(hl:eP.st=.live)(o:Obj){w1:World}(hw:w1.heap=w.heap):
  Ext w (Live Lo ι H) (w1.alloc o) (Live Lo (ι.put aM (w.heap.size,0)) (dP H aM eP)):=by
 refine⟨by simp[World.alloc,hw],fun c hc J3=>⟨?_,fun B8=>?_⟩,fun c cs e f tg=>⟨cs,f,?_,rfl⟩⟩
 ·simp only[World.alloc,hw];rw[aLw,if_neg (by omega)]
 ·rcases(EK (co:=0) hf hl c).1 B8 with h'|h'
  ·exact J3 h'
  ·omega
 ·have:=eh tg
  simp only[World.alloc,hw];rw[aLw,if_neg (by omega)];exact tg
theorem iW.alloc(h:iW E Lo w0 ι H w){aM:Nat}{eP:cG}(hf:pI ι H aM)(hl:eP.st=.live){o:Obj}{w1:World}(hw:w1.heap=w.heap)
  (Oo:w1.os=w.os) (F6:w1.tape=w.tape) (tX:w1.output=w.output)
  (ho:jF (ι.put aM (w.heap.size,0)) (w1.alloc o) (Live Lo (ι.put aM (w.heap.size,0)) (dP H aM eP)) 0 eP o) (Ep:eP.tP E:=by trivial):
  iW E Lo w0 (ι.put aM (w.heap.size,0)) (dP H aM eP) (w1.alloc o):=by
 have hx:=xI h hf hl o hw;have hle:=dZ.Bj (p:=(w.heap.size,0)) hf.1;have C6:=h.below.size;refine⟨?_,h.lo,?_,?_,?_,?_,?_,?_⟩
 ·refine h.below.trans ⟨Oo,F6,tX,by simp[World.alloc,hw],fun k hk=>?_⟩;show(w1.heap.push o)[k]?=_
  rw[hw,aLw,if_neg (by omega)]
 ·intro b p hp;unfold dZ.put at hp;have uy:=LX (eP:=eP) hf.le;split at hp
  ·rename_i e;subst e;cases hp;exact⟨uy.2,by simp[World.alloc,hw]⟩
  ·have:=h.NW _ _ hp;exact⟨by omega,by simp[World.alloc,hw];omega⟩
 ·intro b bk hb hd;rw[qa hf.le]at hb;by_cases e:b=aM
  ·rw[if_pos e]at hb;cases hb;subst e
   refine⟨w.heap.size,0,o,by simp[dZ.put],?_,ho,fun _=>C6,fun hr=>by rw[hl]at hr;cases hr⟩;simp[World.alloc,hw]
  ·rw[if_neg e]at hb;obtain⟨cb,co,ob,h1,h2,h3,h4,h5⟩:=h.obj b bk hb hd;have gO:=eh h2;refine⟨cb,co,ob,hle _ _ h1,?_,h3.ext hx hle,h4,fun hr B8=>?_⟩
   ·show(w1.heap.push o)[cb]?=_
    rw[hw,aLw,if_neg (by omega)];exact h2
   ·rcases(EK (co:=0) hf hl cb).1 B8 with h'|h'
    ·exact h5 hr h'
    ·omega
 ·intro b b' bk UG c co co' hb hs ux vh hi zL;rw[qa hf.le]at hb ux;unfold dZ.put at hi zL;by_cases e:b=aM
  ·by_cases e':b'=aM
   ·rw[e,e']
   ·rw[if_pos e]at hi;rw[if_neg e']at zL
    cases hi
    have:=(h.NW _ _ zL).2
    omega
  ·by_cases e':b'=aM
   ·rw[if_pos e']at zL;rw[if_neg e]at hi
    cases zL
    have:=(h.NW _ _ hi).2
    omega
   ·rw[if_neg e]at hb hi;rw[if_neg e']at ux zL
    exact h.inj b b' bk UG c co co' hb hs ux vh hi zL
 ·intro g cs hg;obtain⟨c,e,f,h1,h2,h3,hz⟩:=h.glob g cs hg
  have:=hx.keep h1 h2
  exact⟨c,e,f,this.1,this.2,j6.ext hx _ _ _ _ _ (dZ.le_refl _) h3,hz⟩
 ·intro b bk hb hs;rw[qa hf.le]at hb;split at hb
  ·cases hb;exact Ep
  ·exact h.tP b bk hb hs
 ·intro b p hp q;rw[qa hf.le]at q;unfold dZ.put at hp;by_cases e:b=aM
  ·rw[if_pos e]at q;cases q;cases hl
  ·rw[if_neg e]at q hp;exact h.res b p hp q
structure Is(w w':World)(cb:Nat)(o':Obj):Prop where
 os:w'.os=w.os
 tape:w'.tape=w.tape
 output:w'.output=w.output
 size:w'.heap.size=w.heap.size
 here:w'.heap[cb]?=some o'
 there:∀c,c≠cb->w'.heap[c]?=w.heap[c]?
def nw(o o':Obj):Prop:=∀cs e f,o=.cells cs e f->∃tL f',o'=Obj.cells tL e f'/\tL.size=cs.size
theorem Is.below{w':World}{cb:Nat}{o':Obj}(h:Is w w' cb o'){B:Nat}(hb:B<=cb):Below B w w':=
 ⟨h.os,h.tape,h.output,Nat.le_of_eq h.size.symm,fun k hk=>h.there k (by omega)⟩
theorem Is.ext{w':World}{cb:Nat}{o o':Obj}(h:Is w w' cb o'){L L':Nat->Prop}(ho:w.heap[cb]?=some o)(hs:nw o o')(hl:L cb)(hL:∀c,L' c->L c):
  Ext w L w' L':=
 ⟨Nat.le_of_eq h.size.symm,fun c hc hn=>⟨h.there c (fun e=>hn (e▸hl)),fun h'=>hn (hL c h')⟩,fun c cs e f tg=>by
  by_cases hc:c=cb
  ·subst hc;rw[ho]at tg;cases tg
   obtain⟨tL,f',h1,h2⟩:=hs cs e f rfl;exact⟨tL,f',by rw[h.here,h1],h2⟩
  ·exact⟨cs,f,by rw[h.there c hc];exact tg,rfl⟩⟩
theorem WY{b:Nat}{eP blk':cG}(hb:H[b]?=some eP)(hs:blk'.st=eP.st)(c:Nat):Live Lo ι (H.set b blk') c↔Live Lo ι H c:=by
 have gO:=(aLu.1 hb).1;unfold Live;constructor
 ·rintro(h|⟨x,bk,co,h1,h2,h3⟩)
  ·exact .inl h
  ·rw[aLq]at h1;by_cases e:b=x
   ·subst e;rw[if_pos rfl,if_pos gO]at h1;cases h1
    exact .inr ⟨b,eP,co,hb,hs▸h2,h3⟩
   ·rw[if_neg e]at h1;exact .inr ⟨x,bk,co,h1,h2,h3⟩
 ·rintro(h|⟨x,bk,co,h1,h2,h3⟩)
  ·exact .inl h
  ·by_cases e:b=x
   ·subst e;rw[hb]at h1;cases h1
    exact .inr ⟨b,blk',co,by rw[aLq,if_pos rfl,if_pos gO],by rw[hs];exact h2,h3⟩
   ·exact .inr ⟨x,bk,co,by rw[aLq,if_neg e];exact h1,h2,h3⟩
theorem Live.congr{Lo:Nat->Prop}{ι ι':dZ}{H H':Hp}(h:∀c,Live Lo ι H c↔Live Lo ι' H' c):Live Lo ι H=Live Lo ι' H':=funext fun c=>propext (h c)
theorem iW.update(h:iW E Lo w0 ι H w){b cb co:Nat}{eP blk':cG}{o o':Obj}{w':World}(hb:H[b]?=some eP)(hl:eP.st=.live)(B8:blk'.st=.live)
  (hi:ι b=some (cb,co)) (ho:w.heap[cb]?=some o) (Ey:nw o o') (hw:Is w w' cb o')
  (hr:jF ι w' (Live Lo ι H) co blk' o') (Ep:blk'.tP E:=by trivial):iW E Lo w0 ι (H.set b blk') w'/\Ext w (Live Lo ι H) w' (Live Lo ι (H.set b blk')):=by
 have gO:=(aLu.1 hb).1;have hL:Live Lo ι (H.set b blk')=Live Lo ι H:=Live.congr (WY hb (B8.trans hl.symm));have tW:Live Lo ι H cb:=.inr ⟨b,eP,co,hb,hl,hi⟩;have hx:Ext w (Live Lo ι H) w' (Live Lo ι H):=hw.ext ho Ey tW (fun _ h=>h);obtain⟨NK,co',o1,g1,_,_,g4,_⟩:=h.obj b eP hb (by rw[hl];simp);rw[hi]at g1;cases g1
 refine⟨⟨h.below.trans (hw.below (g4 hl)),h.lo,?_,?_,?_,?_,?_,?_⟩,by rw[hL];exact hx⟩
 ·intro x p hp
  have:=h.NW x p hp
  exact⟨by simpa using this.1,by rw[hw.size];exact this.2⟩
 ·intro x bk wO hd;rw[hL];rw[aLq]at wO;by_cases e:b=x
  ·subst e;rw[if_pos rfl,if_pos gO]at wO;cases wO
   exact⟨cb,co,o',hi,hw.here,hr,fun _=>g4 hl,fun hro=>by rw[B8]at hro;cases hro⟩
  ·rw[if_neg e]at wO;obtain⟨c1,k1,ob,h1,h2,h3,h4,h5⟩:=h.obj x bk wO hd;have dM:c1≠cb:=by
    intro e';cases fK:bk.st with
    |dead=>exact hd fK
    |ro=>exact h5 fK (e'▸tW)
    |live=>exact e (h.inj b x eP bk cb co k1 hb hl wO fK hi (by rw[h1,e']))
   exact⟨c1,k1,ob,h1,by rw[hw.there c1 dM];exact h2,h3.ext hx (dZ.le_refl _),h4,h5⟩
 ·intro x y bk UG c k k' wO hs hyb vh G7 hyi;have conv:∀(z:Nat) (bz:cG),(H.set b blk')[z]?=some bz->bz.st=.live->∃bz',H[z]?=some bz'/\bz'.st=.live:=by
   intro z bz hz hzs;rw[aLq]at hz;by_cases e:b=z
   ·subst e;exact⟨eP,hb,hl⟩
   ·rw[if_neg e]at hz;exact⟨bz,hz,hzs⟩
  obtain⟨b1,q1,q2⟩:=conv x bk wO hs;obtain⟨b2,q3,q4⟩:=conv y UG hyb vh;exact h.inj x y b1 b2 c k k' q1 q2 q3 q4 G7 hyi
 ·intro g cs hg;rw[hL];obtain⟨c,e,f,h1,h2,h3,hz⟩:=h.glob g cs hg
  have:=hx.keep h1 h2
  exact⟨c,e,f,this.1,this.2,j6.ext hx _ _ _ _ _ (dZ.le_refl _) h3,hz⟩
 ·intro x bk wO hs;rw[aLq]at wO;by_cases e:b=x
  ·subst e;rw[if_pos rfl,if_pos gO]at wO;cases wO
   exact Ep
  ·rw[if_neg e]at wO;exact h.tP x bk wO hs
 ·intro x p hp q;rw[aLq]at q;by_cases e:b=x
  ·subst e;rw[if_pos rfl,if_pos gO]at q;cases q;cases B8
  ·rw[if_neg e]at q;exact h.res x p hp q
theorem iW.drew(h:iW E Lo w0 ι H w){w':World}(hh:w'.heap=w.heap)(Oo:w'.os=w.os)(F6:w'.tape=w.tape)(tX:w'.output=w.output):
  iW E Lo w0 ι H w'/\Ext w (Live Lo ι H) w' (Live Lo ι H):=by
 have hx:Ext w (Live Lo ι H) w' (Live Lo ι H):=⟨by rw[hh];exact aLr _,fun c _ hn=>⟨by rw[hh],hn⟩,fun c cs e f hc=>⟨cs,f,by rw[hh];exact hc,rfl⟩⟩;refine⟨⟨h.below.trans ⟨Oo,F6,tX,by rw[hh];exact aLr _,fun k _=>by rw[hh]⟩,h.lo,fun b p hp=>by rw[hh];exact h.NW b p hp,?_,h.inj,?_,h.tP,h.res⟩,hx⟩
 ·intro b bk hb hd;obtain⟨c1,k1,ob,h1,h2,h3,h4,h5⟩:=h.obj b bk hb hd;exact⟨c1,k1,ob,h1,by rw[hh];exact h2,h3.ext hx (dZ.le_refl _),h4,h5⟩
 ·intro g cs hg;obtain⟨c,e,f,h1,h2,h3,hz⟩:=h.glob g cs hg;exact⟨c,e,f,by rw[hh];exact h1,h2,j6.ext hx _ _ _ _ _ (dZ.le_refl _) h3,hz⟩
theorem iW.weaken(h:iW E Lo w0 ι H w){H':Hp}(hlen:H'.length=H.length)(j7:∀b:Nat,H'[b]?=some dV->H[b]?=some dV)
  (hb:∀(b:Nat) (blk':cG),H'[b]?=some blk'->blk'.st≠ .dead->H[b]?=some blk'∨∃eP,H[b]?=some eP/\eP.st=.live/\blk'.st=.ro/\∀ι w L co o,jF ι w L co eP o->jF ι w L co blk' o):
  iW E Lo w0 ι H' w/\Ext w (Live Lo ι H) w (Live Lo ι H'):=by
 have hL:∀c,Live Lo ι H' c->Live Lo ι H c:=by
  rintro c (hc|⟨b,bk,co,h1,h2,h3⟩)
  ·exact .inl hc
  ·rcases hb b bk h1 (by rw[h2];simp)with h'|⟨b0,_,_,h5,_⟩
   ·exact .inr ⟨b,bk,co,h',h2,h3⟩
   ·rw[h2]at h5;cases h5
 have hx:Ext w (Live Lo ι H) w (Live Lo ι H'):=⟨aLr _,fun c _ hn=>⟨rfl,fun h'=>hn (hL c h')⟩,fun c cs e f hc=>⟨cs,f,hc,rfl⟩⟩;have zW:∀(z:Nat) (bz:cG),H'[z]?=some bz->bz.st=.live->H[z]?=some bz:=by
  intro z bz hz hs;rcases hb z bz hz (by rw[hs];simp)with h'|⟨_,_,_,h5,_⟩
  ·exact h'
  ·rw[hs]at h5;cases h5
 refine⟨⟨h.below,h.lo,fun b p hp=>by rw[hlen];exact h.NW b p hp,?_,?_,?_,fun b bk ux hs=>h.tP b bk (zW b bk ux hs) hs,fun b p hp q=>h.res b p hp (j7 b q)⟩,hx⟩
 ·intro b bk I1 hd;rcases hb b bk I1 hd with h'|⟨b0,g1,g2,g3,g4⟩
  ·obtain⟨c1,k1,ob,h1,h2,h3,h4,h5⟩:=h.obj b bk h' hd;exact⟨c1,k1,ob,h1,h2,h3.ext hx (dZ.le_refl _),h4,fun hr hl=>h5 hr (hL _ hl)⟩
  ·obtain⟨c1,k1,ob,h1,h2,h3,h4,h5⟩:=h.obj b b0 g1 (by rw[g2];simp);refine⟨c1,k1,ob,h1,h2,(g4 _ _ _ _ _ h3).ext hx (dZ.le_refl _),(fun hl=>by rw[g3]at hl;cases hl),fun _ hl=>?_⟩;rcases hl with hl|⟨b',UG,co',q1,q2,q3⟩
   ·have:=h.lo c1 hl
    have:=h4 g2
    omega
   ·have q4:=zW b' UG q1 q2
    have:=h.inj b b' b0 UG c1 k1 co' g1 g2 q4 q2 h1 q3
    subst this;rw[q1]at I1;cases I1
    rw[q2]at g3;cases g3
 ·intro x y bk UG c k k' wO hs hyb vh G7 hyi;exact h.inj x y bk UG c k k' (zW x bk wO hs) hs (zW y UG hyb vh) vh G7 hyi
 ·intro g cs hg;obtain⟨c,e,f,h1,h2,h3,hz⟩:=h.glob g cs hg;exact⟨c,e,f,h1,fun hl=>h2 (hL _ hl),j6.ext hx _ _ _ _ _ (dZ.le_refl _) h3,hz⟩
theorem iW.kill(h:iW E Lo w0 ι H w){b:Nat}(cs:List AV)(tg:cs≠[aX]):iW E Lo w0 ι (H.set b (.cells .dead cs)) w/\Ext w (Live Lo ι H) w (Live Lo ι (H.set b (.cells .dead cs))):=
 h.weaken (by simp) (fun x hx=>by
  rw[aLq]at hx;by_cases e:b=x
  ·rw[if_pos e]at hx;split at hx
   ·exact absurd (by simpa[dV]using hx) tg
   ·cases hx
  ·rw[if_neg e]at hx;exact hx) fun x bk hx hd=>by
  rw[aLq]at hx;by_cases e:b=x
  ·rw[if_pos e]at hx;split at hx
   ·cases hx;exact absurd rfl hd
   ·cases hx
  ·rw[if_neg e]at hx;exact .inl hx
theorem iW.ajI(h:iW E Lo w0 ι H w){b aM cb co co':Nat}{eP blk':cG}{cs0:List AV}{o o':Obj}{w':World}(hb:H[b]?=some eP)(hl:eP.st=.live)(B8:blk'.st=.live)
  (hf:pI ι H aM) (hi:ι b=some (cb,co)) (ho:w.heap[cb]?=some o) (Ey:nw o o') (hw:Is w w' cb o')
  (hr:jF (ι.put aM (cb,co')) w' (Live Lo ι H) co' blk' o') (tg:cs0≠[aX]) (Ep:blk'.tP E:=by trivial):
  iW E Lo w0 (ι.put aM (cb,co')) (dP (H.set b (.cells .dead cs0)) aM blk') w'/\
   Ext w (Live Lo ι H) w' (Live Lo (ι.put aM (cb,co')) (dP (H.set b (.cells .dead cs0)) aM blk')):=by
 have gO:=(aLu.1 hb).1;have GZ:b≠aM:=fun e=>by subst e;rw[hf.1]at hi;cases hi
 have KZ:aM<=(H.set b (.cells .dead cs0)).length:=by simpa using hf.le
 have get:∀x,(dP (H.set b (.cells .dead cs0)) aM blk')[x]?=if x=aM then some blk' else if x=b then some (.cells .dead cs0)else H[x]?:=by
  intro x;rw[qa KZ x,aLq];by_cases e:x=aM
  ·rw[if_pos e,if_pos e]
  ·rw[if_neg e,if_neg e];by_cases e2:b=x
   ·subst e2;simp[gO]
   ·rw[if_neg e2,if_neg (fun q=>e2 q.symm)]
 have tW:Live Lo ι H cb:=.inr ⟨b,eP,co,hb,hl,hi⟩;have hL:Live Lo (ι.put aM (cb,co')) (dP (H.set b (.cells .dead cs0)) aM blk')=Live Lo ι H:=by
  refine Live.congr fun c=>⟨?_,?_⟩
  ·rintro(hc|⟨x,bk,k,h1,h2,h3⟩)
   ·exact .inl hc
   ·rw[get]at h1;unfold dZ.put at h3;by_cases e:x=aM
    ·rw[if_pos e]at h3;cases h3;exact tW
    ·rw[if_neg e]at h1 h3;by_cases e2:x=b
     ·rw[if_pos e2]at h1;cases h1;cases h2
     ·rw[if_neg e2]at h1;exact .inr ⟨x,bk,k,h1,h2,h3⟩
  ·rintro(hc|⟨x,bk,k,h1,h2,h3⟩)
   ·exact .inl hc
   ·by_cases e2:x=b
    ·subst e2;rw[hi]at h3;cases h3
     exact .inr ⟨aM,blk',co',by rw[get,if_pos rfl],B8,by unfold dZ.put;rw[if_pos rfl]⟩
    ·have e:x≠aM:=fun e=>by subst e;rw[hf.1]at h3;cases h3
     exact .inr ⟨x,bk,k,by rw[get,if_neg e,if_neg e2];exact h1,h2,by unfold dZ.put;rw[if_neg e];exact h3⟩
 have hx:Ext w (Live Lo ι H) w' (Live Lo ι H):=hw.ext ho Ey tW (fun _ h=>h);have hle:=dZ.Bj (p:=(cb,co')) hf.1;obtain⟨NK,aD1,o1,g1,g2',_,g4,_⟩:=h.obj b eP hb (by rw[hl];simp);rw[hi]at g1;cases g1
 rw[hL];refine⟨⟨h.below.trans (hw.below (g4 hl)),h.lo,?_,?_,?_,?_,?_,?_⟩,hx⟩
 ·intro x p hp;have uy:=LX (eP:=blk') KZ;rw[List.length_set]at uy;unfold dZ.put at hp;split at hp
  ·rename_i e;subst e;cases hp;exact⟨uy.2,by rw[hw.size];exact(h.NW b _ hi).2⟩
  ·have:=h.NW x p hp
   exact⟨by omega,by rw[hw.size];exact this.2⟩
 ·intro x bk wO hd;rw[hL];rw[get]at wO;by_cases e:x=aM
  ·subst e;rw[if_pos rfl]at wO;cases wO
   exact⟨cb,co',o',by simp[dZ.put],hw.here,hr,fun _=>g4 hl,fun hro=>by rw[B8]at hro;cases hro⟩
  ·rw[if_neg e]at wO;by_cases e2:x=b
   ·rw[if_pos e2]at wO;cases wO;exact absurd rfl hd
   ·rw[if_neg e2]at wO;obtain⟨c1,k1,ob,h1,h2,h3,h4,h5⟩:=h.obj x bk wO hd;have dM:c1≠cb:=by
     intro e';cases fK:bk.st with
     |dead=>exact hd fK
     |ro=>exact h5 fK (e'▸tW)
     |live=>exact e2 (h.inj x b bk eP cb k1 co wO fK hb hl (by rw[h1,e']) hi)
    exact⟨c1,k1,ob,hle _ _ h1,by rw[hw.there c1 dM];exact h2,h3.ext hx hle,h4,h5⟩
 ·intro x y bk UG c k k' wO hs hyb vh G7 hyi;have conv:∀(z:Nat) (bz:cG) (kz:Nat),(dP (H.set b (.cells .dead cs0)) aM blk')[z]?=some bz->bz.st=.live->(ι.put aM (cb,co')) z=some (c,kz)->
    ∃z' bz' kz',H[z']?=some bz'/\bz'.st=.live/\ι z'=some (c,kz')/\(z=aM/\z'=b∨z≠aM/\z≠b/\z'=z):=by
   intro z bz kz hz hzs Zu;rw[get]at hz;unfold dZ.put at Zu;by_cases e:z=aM
   ·rw[if_pos e]at Zu;cases Zu
    exact⟨b,eP,co,hb,hl,hi,.inl ⟨e,rfl⟩⟩
   ·rw[if_neg e]at hz Zu;by_cases e2:z=b
    ·rw[if_pos e2]at hz;cases hz;cases hzs
    ·rw[if_neg e2]at hz;exact⟨z,bz,kz,hz,hzs,Zu,.inr ⟨e,e2,rfl⟩⟩
  obtain⟨x',b1,k1,q1,q2,q3,q4⟩:=conv x bk k wO hs G7;obtain⟨y',b2,k2,r1,r2,r3,r4⟩:=conv y UG k' hyb vh hyi
  have:=h.inj x' y' b1 b2 c k1 k2 q1 q2 r1 r2 q3 r3
  rcases q4 with⟨q4,q5⟩|⟨q4,q5,q6⟩<;>rcases r4 with⟨r4,r5⟩|⟨r4,r5,r6⟩
  ·rw[q4,r4]
  ·exact absurd (by rw[<-r6,<-this,q5]) r5
  ·exact absurd (by rw[<-q6,this,r5]) q5
  ·rw[<-q6,<-r6,this]
 ·intro g cs hg;rw[hL];obtain⟨c,e,f,h1,h2,h3,hz⟩:=h.glob g cs hg
  have:=hx.keep h1 h2
  exact⟨c,e,f,this.1,this.2,j6.ext hx _ _ _ _ _ (dZ.le_refl _) h3,hz⟩
 ·intro x bk wO hs;rw[get]at wO;split at wO
  ·cases wO;exact Ep
  ·split at wO
   ·cases wO;cases hs
   ·exact h.tP x bk wO hs
 ·intro x p hp q;rw[get]at q;unfold dZ.put at hp;by_cases e:x=aM
  ·rw[if_pos e]at q;cases q;cases B8
  ·rw[if_neg e]at q hp;by_cases e2:x=b
   ·rw[if_pos e2]at q;exact tg (by simpa[dV]using q)
   ·rw[if_neg e2]at q;exact h.res x p hp q
end
section
variable{E:Env}{P:Program}(V:Valid E P){ι:dZ}{w:World}{L:Nat->Prop}
theorem Valid.Lb{E:Env}{P:Program}(V:Valid E P){t:Nat}{i:yT}(h:E.ty t=some i):∃ti,P.info? t=some ti/\ti.size=i.size/\ti.bytes=i.bytes:=
 let⟨ti,a,b,c,_⟩:=(V.ty t i h).info;⟨ti,a,b,c⟩
include V in
theorem RM{t:Nat}{i:yT}(h:E.ty t=some i):P.cellsOf t=i.size:=by obtain⟨ti,h1,h2,_⟩:=V.Lb h;simp[Program.cellsOf,h1,h2]
include V in
theorem p8{t:Nat}{cs:List AV}{vs:Array Value}(hr:Rs ι w L cs vs.toList){off:Nat}{av:AV}(h:ik E t cs off=some av):
  ∃v,(part t vs off).run P w=.ok v w/\R ι w L av v:=by
 unfold ik at h;cases hi:E.ty t with
 |none=>simp[hi]at h
 |some i=>
  simp only[hi]at h;unfold part;simp only[Sem.run_bind,Fq V hi w,Result.andThen_ok];cases ha:i.isAgg with
  |true=>
   simp only[ha,if_true]at h⊢;split at h
   ·rename_i hle;cases h;refine⟨.agg (vs.extract off (off+i.size)),by simp[cU V hi w],?_⟩;simp only[R];refine⟨_,rfl,?_⟩;rw[Array.toList_extract]
    have:=(hr.drop off).take i.size
    simpa[aLy]using this
   ·cases h
  |false=>
   simp only[ha,aLs,if_false]at h⊢;obtain⟨v,h1,h2⟩:=hr.get off av h;rw[aLC]at h1;exact⟨v,by simp[h1],h2⟩
theorem str_inj{a b:List UInt8}:((⟨a.toArray⟩:ByteArray)==⟨b.toArray⟩)=(a==b):=by rw[beq_toListBytes,ByteArray.toList_eq,ByteArray.toList_eq]
theorem zC(V:Valid E P){n d:Nat}(ih:∀(t:Nat) (x y:AV) (vx vy:Value) (b:Bool),R ι w L x vx->R ι w L y vy->uw E n t x y=some b->(Op.equalIn d t vx vy).run P w=.ok b w):∀(fs:List Field) (xs ys:List AV) (vx vy:Array Value) (b:Bool),Rs ι w L xs vx.toList->Rs ι w L ys vy.toList->
  eqFields E (uw E n) xs ys fs=some b->(Op.eqFields d vx vy fs).run P w=.ok b w
 |[],_,_,_,_,_,_,_,h=>by simp[eqFields]at h;subst h;simp[Op.eqFields]
 |f::fs,xs,ys,vx,vy,b,hx,hy,h=>by
  unfold eqFields at h;split at h
  ·cases h
  ·rename_i Wq;cases h1:ik E f.type xs f.offset with
   |none=>simp[h1]at h
   |some a=>
    cases h2:ik E f.type ys f.offset with
    |none=>simp[h1,h2]at h
    |some c=>
     simp only[h1,h2]at h;obtain⟨va,p1,r1⟩:=p8 V hx h1;obtain⟨vc,p2,r2⟩:=p8 V hy h2;cases h3:uw E n f.type a c with
     |none=>simp[h3]at h
     |some r=>
      have h4:=ih f.type a c va vc r r1 r2 h3;simp only[h3]at h;unfold Op.eqFields;simp only[ne_eq,Wq,not_false_eq_true,if_true,Sem.run_bind,p1,p2,Result.andThen_ok,h4];cases r with
      |true=>simpa using zC V ih fs xs ys vx vy b hx hy h
      |false=>simp at h;subst h;simp
theorem BU(V:Valid E P){n d:Nat}(ih:∀(t:Nat) (x y:AV) (vx vy:Value) (b:Bool),R ι w L x vx->R ι w L y vy->uw E n t x y=some b->(Op.equalIn d t vx vy).run P w=.ok b w)(elem size:Nat):∀(xs ys:List AV) (vx vy:Array Value) (m i:Nat) (b:Bool),Rs ι w L xs vx.toList->Rs ι w L ys vy.toList->
  qN E (uw E n) elem size xs ys m i=some b->(Op.eqItems d elem size vx vy (List.range' i m)).run P w=.ok b w
 |_,_,_,_,0,_,_,_,_,h=>by simp[qN]at h;subst h;simp[Op.eqItems]
 |xs,ys,vx,vy,m+1,i,b,hx,hy,h=>by
  unfold qN at h;cases h1:ik E elem xs (i*size)with
  |none=>simp[h1]at h
  |some a=>
   cases h2:ik E elem ys (i*size)with
   |none=>simp[h1,h2]at h
   |some c=>
    simp only[h1,h2]at h;obtain⟨va,p1,r1⟩:=p8 V hx h1;obtain⟨vc,p2,r2⟩:=p8 V hy h2;cases h3:uw E n elem a c with
    |none=>simp[h3]at h
    |some r=>
     have h4:=ih elem a c va vc r r1 r2 h3;simp only[h3]at h;rw[List.range'_succ];unfold Op.eqItems;simp only[Sem.run_bind,p1,p2,Result.andThen_ok,h4];cases r with
     |true=>simpa using BU V ih elem size xs ys vx vy m (i+1) b hx hy h
     |false=>simp at h;subst h;simp
theorem zB(V:Valid E P):∀(n d t:Nat) (x y:AV) (vx vy:Value) (b:Bool),n<=d->R ι w L x vx->R ι w L y vy->uw E n t x y=some b->
  (Op.equalIn d t vx vy).run P w=.ok b w
 |0,_,_,_,_,_,_,_,_,_,_,h=>by simp[uw]at h
 |n+1,d,t,x,y,vx,vy,b,hd,hx,hy,h=>by
  obtain⟨d,rfl⟩:∃k,d=k+1:=⟨d-1,by omega⟩;unfold uw at h;cases hi:E.ty t with
  |none=>simp[hi]at h
  |some i=>
   simp only[hi]at h;have hu:=(V.ty t i hi).cS;split at h
   case h_1 fX=>simp only[R]at hx hy;subst hx;subst hy;cases h;rw[fX]at hu;simp[Op.equalIn,run_underlying hu]
   case h_2 fX=>
    simp only[R]at hx hy;subst hx;subst hy
    split at h
    ·rename_i hk;cases h;rw[fX]at hu;simp[Op.equalIn,run_underlying hu,hk]
    ·cases h
   case h_3 fX=>simp only[R]at hx hy;subst hx;subst hy;cases h;rw[fX]at hu;simp[Op.equalIn,run_underlying hu,str_inj]
   case h_4 fields xs ys fX=>
    simp only[R]at hx hy;obtain⟨vxs,rfl,hx⟩:=hx;obtain⟨vys,rfl,hy⟩:=hy;split at h
    ·cases h
    ·rename_i heq;have awQ:i.eQ=true:=by simpa using heq
     rw[fX]at hu;have hf:P.fieldsOf t=fields:=by simp[Program.fieldsOf,hu]
     rw[run_equalIn_struct w d t vxs vys (by rw[hf];exact hu) ((V.ty t i hi).eq awQ).1,hf];exact zC V (fun t x y vx vy b h1 h2 h3=>zB V n d t x y vx vy b (by omega) h1 h2 h3) fields.toList xs ys vxs vys b hx hy h
   case h_5 len elem xs ys fX=>
    simp only[R]at hx hy;obtain⟨vxs,rfl,hx⟩:=hx;obtain⟨vys,rfl,hy⟩:=hy;cases l9:E.ty elem with
    |none=>simp[l9]at h
    |some ei=>
     simp only[l9]at h;obtain⟨ti,h1,h2,_⟩:=V.Lb l9;rw[fX]at hu;rw[run_equalIn_array w d vxs vys hu h1,RM V l9,List.range_eq_range'];exact BU V (fun t x y vx vy b h1 h2 h3=>zB V n d t x y vx vy b (by omega) h1 h2 h3) elem ei.size xs ys vxs vys len 0 b hx hy h
   case h_29=>cases h
   all_goals (rename_i fX;rw[fX]at hu)
   case h_6=>simp only[R]at hx hy;subst hx;subst hy;cases h;simp[Op.equalIn,run_underlying hu]
   case h_7=>simp only[R]at hx hy;subst hx;obtain⟨_,_,_,rfl⟩:=hy;cases h;simp[Op.equalIn,run_underlying hu]
   case h_8=>simp only[R]at hx hy;subst hx;obtain⟨_,_,_,_,_,rfl,_⟩:=hy;cases h;simp[Op.equalIn,run_underlying hu]
   case h_9=>simp only[R]at hx hy;subst hy;obtain⟨_,_,_,rfl⟩:=hx;cases h;simp[Op.equalIn,run_underlying hu]
   case h_10=>simp only[R]at hx hy;subst hy;obtain⟨_,_,_,_,_,rfl,_⟩:=hx;cases h;simp[Op.equalIn,run_underlying hu]
   case h_11=>simp only[R]at hx hy;subst hx;subst hy;cases h;simp[Op.equalIn,run_underlying hu]
   case h_12=>simp only[R]at hx hy;subst hx;obtain⟨_,_,_,_,_,_,_,rfl,_⟩:=hy;cases h;simp[Op.equalIn,run_underlying hu]
   case h_13=>simp only[R]at hx hy;subst hx;obtain⟨_,_,_,_,_,_,rfl,_⟩:=hy;cases h;simp[Op.equalIn,run_underlying hu]
   case h_14=>simp only[R]at hx hy;subst hx;obtain⟨_,_,rfl⟩:=hy;cases h;simp[Op.equalIn,run_underlying hu]
   case h_15=>simp only[R]at hx hy;subst hy;obtain⟨_,_,_,_,_,_,_,rfl,_⟩:=hx;cases h;simp[Op.equalIn,run_underlying hu]
   case h_16=>simp only[R]at hx hy;subst hy;obtain⟨_,_,_,_,_,_,rfl,_⟩:=hx;cases h;simp[Op.equalIn,run_underlying hu]
   case h_17=>simp only[R]at hx hy;subst hy;obtain⟨_,_,rfl⟩:=hx;cases h;simp[Op.equalIn,run_underlying hu]
   case h_18=>simp only[R]at hx hy;subst hx;subst hy;cases h;simp[Op.equalIn,run_underlying hu]
   case h_19=>simp only[R]at hx hy;subst hx;obtain⟨_,_,_,rfl⟩:=hy;cases h;simp[Op.equalIn,run_underlying hu]
   case h_20=>simp only[R]at hx hy;subst hx;obtain⟨_,_,_,rfl,_⟩:=hy;cases h;simp[Op.equalIn,run_underlying hu]
   case h_21=>simp only[R]at hx hy;subst hy;obtain⟨_,_,_,rfl⟩:=hx;cases h;simp[Op.equalIn,run_underlying hu]
   case h_22=>simp only[R]at hx hy;subst hy;obtain⟨_,_,_,rfl,_⟩:=hx;cases h;simp[Op.equalIn,run_underlying hu]
   case h_23=>simp only[R]at hx hy;subst hx;subst hy;cases h;simp[Op.equalIn,run_underlying hu]
   case h_24=>simp only[R]at hx hy;subst hx;obtain⟨_,_,rfl,_⟩:=hy;cases h;simp[Op.equalIn,run_underlying hu]
   case h_25=>simp only[R]at hx hy;subst hy;obtain⟨_,_,rfl,_⟩:=hx;cases h;simp[Op.equalIn,run_underlying hu]
   case h_26=>simp only[R]at hx hy;subst hx;subst hy;cases h;simp[Op.equalIn,run_underlying hu]
   case h_27=>simp only[R]at hx hy;subst hx;obtain⟨_,rfl,_⟩:=hy;cases h;simp[Op.equalIn,run_underlying hu]
   case h_28=>simp only[R]at hx hy;subst hy;obtain⟨_,rfl,_⟩:=hx;cases h;simp[Op.equalIn,run_underlying hu]
end
section
variable{E:Env}{P:Program}{ι:dZ}{w:World}{L:Nat->Prop}{ts:List AV}{a:Act}
theorem fH(hf:Rs ι w L ts a.tmps.toList){x:Operand}{av:AV}(h:ch ts x=some av):R ι w L av (a.eval x):=by
 cases x with
 |tmp t=>
  simp only[ch,aLv.injEq]at h;subst h
  have:=hf.getD t
  simpa[Act.eval]using this
 |const v=>exact Nk 20 v av h
 |global g=>simp only[ch,aLv.injEq]at h;subst h;simp[R,Act.eval]
 |func f=>simp only[ch,aLv.injEq]at h;subst h;simp[R,Rs,Act.eval]
theorem KH(hf:Rs ι w L ts a.tmps.toList):∀{xs:List Operand} {avs:List AV},nL ts xs=some avs->Rs ι w L avs (xs.map a.eval)
 |[],_,h=>by simp[nL]at h;subst h;simp[Rs]
 |x::xs,_,h=>by
  unfold nL at h;cases h1:ch ts x with
  |none=>simp[h1]at h
  |some v=>
   cases h2:nL ts xs with
   |none=>simp[h1,h2]at h
   |some vs=>
    simp[h1,h2]at h;subst h;simp only[Rs,List.map_cons];exact⟨_,_,rfl,fH hf h1,KH hf h2⟩
def ZH(ι:dZ)(w:World)(L:Nat->Prop):List (Nat×AV)->List (Nat×Value)->Prop
 |[],vs=>vs=[]
 |(i,x)::xs,vs=>∃y ys,vs=(i,y)::ys/\R ι w L x y/\ZH ι w L xs ys
theorem Vt(hf:Rs ι w L ts a.tmps.toList):∀{xs:List (Nat×Operand)} {avs:List (Nat×AV)},xH ts xs=some avs->ZH ι w L avs (xs.map fun(i,x)=>(i,a.eval x))
 |[],_,h=>by simp[xH]at h;subst h;simp[ZH]
 |(i,x)::xs,_,h=>by
  unfold xH at h;cases h1:ch ts x with
  |none=>simp[h1]at h
  |some v=>
   cases h2:xH ts xs with
   |none=>simp[h1,h2]at h
   |some vs=>
    simp[h1,h2]at h;subst h;simp only[ZH,List.map_cons];exact⟨_,_,rfl,fH hf h1,Vt hf h2⟩
def sc:AV->Value
 |.bool b=>.bool b
 |.int k n=>.int k n
 |.str s=>.string ⟨s.toArray⟩
 |_=>undef
theorem WL{op:BinOp}{k:IntKind}{x y:Int}{av:AV}(h:wP op k x y=some av)(T9:op≠ .shl/\op≠ .shr)(t:Nat):
  (binOp op t (.int k x) (.int k y)).run P w=.ok (sc av) w/\R ι w L av (sc av):=by
 cases op<;>simp only[wP]at h
 case quo=>split at h;(·cases h);rename_i hy;cases h;exact⟨by simp[binOp,Op.intDiv,hy,sc,aV],by simp[R,sc]⟩
 case rem=>split at h;(·cases h);rename_i hy;cases h;exact⟨by simp[binOp,Op.intDiv,hy,sc],by simp[R,sc]⟩
 all_goals first|(cases h;done)|(cases h;exact⟨by simp[binOp,Op.intArith,Op.intBits,Op.intCmp,sc,aV],by simp[R,sc]⟩)
theorem Yj{op:BinOp}{x y:List UInt8}{av:AV}(h:Yi op x y=some av)(t:Nat):
  (binOp op t (.string ⟨x.toArray⟩) (.string ⟨y.toArray⟩)).run P w=.ok (sc av) w/\R ι w L av (sc av):=by
 have hx:∀z:List UInt8,ByteArray.toList ⟨z.toArray⟩=z:=fun z=>by rw[ByteArray.toList_eq]
 have hs:∀z:List UInt8,ByteArray.size ⟨z.toArray⟩=z.length:=fun z=>by simp[ByteArray.size]
 have hm:IntKind.i64.max=9223372036854775807:=by decide
 cases op<;>simp only[Yi]at h
 case add=>
  split at h
  ·cases h
  ·rename_i hle;cases h;refine⟨?_,by simp[R,sc]⟩;simp only[binOp,Op.stringOp,hs,hm,if_neg hle,sc];simp only[Sem.run_pure];congr 2
 all_goals first|(cases h;done)|(cases h;exact⟨by simp[binOp,Op.stringOp,hx,sc],by simp[R,sc]⟩)
theorem ado{op:UnOp}{x av:AV}{vx:Value}(hx:R ι w L x vx)(h:YP op x=some av):
  ∃cv,(Op.unary op vx).run P w=.ok cv w/\R ι w L av cv:=by
 unfold YP at h;split at h
 ·simp only[R]at hx;subst hx;refine⟨sc av,?_,?_⟩<;>cases h<;>simp[Op.unary,Op.intArith,sc,aV,R]
 ·simp only[R]at hx;subst hx
  simp only[wP,aLv.injEq]at h;refine⟨sc av,?_,?_⟩<;>subst h<;>simp[Op.unary,Op.intBits,sc,aV,R]
 ·simp only[R]at hx;subst hx;refine⟨sc av,?_,?_⟩<;>cases h<;>simp[Op.unary,sc,R]
 ·cases h
theorem u6{x:AV}{k:IntKind}{n:Int}(h:R ι w L x (.int k n)):x=.int k n:=by
 cases x<;>simp[R]at h⊢
 exact⟨h.1.symm,h.2.symm⟩
theorem pJ{x:AV}{b:ByteArray}(h:R ι w L x (.string b)):∃s,x=.str s:=by
 cases x<;>simp[R]at h⊢
theorem Qa{x:AV}{k:FloatKind}{b:Nat}(h:R ι w L x (.float k b)):False:=by
 cases x<;>simp[R]at h
theorem Gt{x:AV}{k:FloatKind}{b c:Nat}(h:R ι w L x (.complex k b c)):False:=by
 cases x<;>simp[R]at h
theorem Dq{x:AV}(h:R ι w L x .nilIface):x=.nilIface:=by
 cases x<;>simp[R]at h⊢
theorem adT{x:AV}{vs:Array Value}(h:R ι w L x (.agg vs)):∃cs,x=.agg cs:=by
 cases x<;>simp[R]at h⊢
theorem BW(V:Valid E P){t:Nat}{x y:AV}{ox oy:Operand}{vx vy:Value}{op:BinOp}(hx:R ι w L x vx)(hy:R ι w L y vy)
  (h:dy.BX E (bK ox||bK oy) t x y=some true):(eqGuard op t ox oy vx vy).run P w=.ok () w:=by
 by_cases hn:vx=.nilIface/\vy=.nilIface
 ·obtain⟨rfl,rfl⟩:=hn;have e1:=Dq hx;have e2:=Dq hy;subst e1;subst e2
  simp only[dy.BX,aLv.injEq,Bool.or_eq_true]at h;unfold eqGuard;cases ox<;>cases oy<;>simp[bK]at h<;>simp<;>(split<;>simp)
 by_cases ha:∃xs ys,vx=.agg xs/\vy=.agg ys
 ·obtain⟨vxs,vys,rfl,rfl⟩:=ha;obtain⟨xs,rfl⟩:=adT hx;obtain⟨ys,rfl⟩:=adT hy;simp only[dy.BX,aLp]at h;obtain⟨i,hi,he⟩:=h;exact run_eqGuard_agg w op t ox oy vxs vys ((V.ty t i hi).eq he).2
 ·have key:eqGuard op t ox oy vx vy=pure ():=by
   unfold eqGuard;cases vx<;>cases vy<;>first|(exact absurd ⟨rfl,rfl⟩ hn)|(exact absurd ⟨_,_,rfl,rfl⟩ ha)|(cases op<;>rfl)
  rw[key];rfl
theorem binOp_eql{vx vy:Value}(h1:∀k a k' b,¬(vx=.int k a/\vy=.int k' b))(h2:∀a b,¬(vx=.string a/\vy=.string b))
  (h3:∀k a,vx≠ .float k a) (h4:∀k a b,vx≠ .complex k a b) (t:Nat):
  binOp .eql t vx vy=(do pure (.bool (<-Op.equal t vx vy)))/\binOp .neq t vx vy=(do pure (.bool (!(<-Op.equal t vx vy)))):=by
 cases vx
 case int=>cases vy<;>first|exact⟨rfl,rfl⟩|exact absurd ⟨rfl,rfl⟩ (h1 _ _ _ _)
 case float=>exact absurd rfl (h3 _ _)
 case complex=>exact absurd rfl (h4 _ _ _)
 case string=>cases vy<;>first|exact⟨rfl,rfl⟩|exact absurd ⟨rfl,rfl⟩ (h2 _ _)
 all_goals (cases vy<;>exact⟨rfl,rfl⟩)
theorem UF(V:Valid E P){op:BinOp}{t:Nat}{x y av:AV}{ox oy:Operand}{vx vy:Value}(hx:R ι w L x vx)(hy:R ι w L y vy)
  (h:dy E (bK ox||bK oy) op t x y=some av):
  ∃cv,((do eqGuard op t ox oy vx vy;binOp op t vx vy:Sem Value)).run P w=.ok cv w/\R ι w L av cv:=by
 have A6:∀(k k':IntKind) (m n:Int),(eqGuard op t ox oy (.int k m) (.int k' n)).run P w=.ok () w:=fun k k' m n=>by
  unfold eqGuard;split<;>simp
 have R0:∀(m n:ByteArray),(eqGuard op t ox oy (.string m) (.string n)).run P w=.ok () w:=fun m n=>by
  unfold eqGuard;split<;>simp
 unfold dy at h;split at h
 ·simp only[R]at hx hy;subst hx;subst hy
  split at h
  ·cases h
  ·rename_i hb;refine⟨sc av,?_,?_⟩<;>cases h<;>simp[A6,binOp,Op.shift,hb,sc,aV,R]
 ·simp only[R]at hx hy;subst hx;subst hy
  split at h
  ·cases h
  ·rename_i hb;refine⟨sc av,?_,?_⟩<;>cases h<;>simp[A6,binOp,Op.shift,hb,sc,R]
 ·rename_i n1 n2;simp only[R]at hx hy;subst hx;subst hy
  split at h
  ·cases h
  ·rename_i hk;simp only[ne_eq,Decidable.not_not]at hk;subst hk
   have:=WL (P:=P) (ι:=ι) (w:=w) (L:=L) h ⟨n1,n2⟩ t
   exact⟨_,by simp only[Sem.run_bind,A6,Result.andThen_ok];exact this.1,this.2⟩
 ·simp only[R]at hx hy;subst hx;subst hy
  have:=Yj (P:=P) (ι:=ι) (w:=w) (L:=L) h t
  exact⟨_,by simp only[Sem.run_bind,R0,Result.andThen_ok];exact this.1,this.2⟩
 ·rename_i n1 n2;rw[aLA]at h;obtain⟨ok,h1,h2⟩:=h;split at h2
  ·rename_i Wr;subst Wr;rw[aLp]at h2;obtain⟨b,h3,rfl⟩:=h2;have hq:=zB V 20 10000 t x y vx vy b (by omega) hx hy h3;have hb:=binOp_eql (vx:=vx) (vy:=vy) (fun k p k' q e=>by
     rcases e with⟨rfl,rfl⟩
     exact n1 _ _ _ _ (u6 hx) (u6 hy)) (fun p q e=>by
     rcases e with⟨rfl,rfl⟩
     obtain⟨s1,e1⟩:=pJ hx;obtain⟨s2,e2⟩:=pJ hy
     exact n2 _ _ e1 e2) (fun k p e=>by subst e;exact Qa hx) (fun k p q e=>by subst e;exact Gt hx) t
   refine⟨.bool b,?_,by simp[R]⟩;simp only[Sem.run_bind,BW V hx hy h1,Result.andThen_ok,hb.1,Op.equal,Op.maxDepth,hq,Sem.run_pure]
  ·cases h2
 ·rename_i n1 n2;rw[aLA]at h;obtain⟨ok,h1,h2⟩:=h;split at h2
  ·rename_i Wr;subst Wr;rw[aLp]at h2;obtain⟨b,h3,rfl⟩:=h2;have hq:=zB V 20 10000 t x y vx vy b (by omega) hx hy h3;have hb:=binOp_eql (vx:=vx) (vy:=vy) (fun k p k' q e=>by
     rcases e with⟨rfl,rfl⟩
     exact n1 _ _ _ _ (u6 hx) (u6 hy)) (fun p q e=>by
     rcases e with⟨rfl,rfl⟩
     obtain⟨s1,e1⟩:=pJ hx;obtain⟨s2,e2⟩:=pJ hy
     exact n2 _ _ e1 e2) (fun k p e=>by subst e;exact Qa hx) (fun k p q e=>by subst e;exact Gt hx) t
   refine⟨.bool (!b),?_,by simp[R]⟩;simp only[Sem.run_bind,BW V hx hy h1,Result.andThen_ok,hb.2,Op.equal,Op.maxDepth,hq,Sem.run_pure]
  ·cases h2
 ·cases h
end
theorem addr_add(b o n:Nat):(⟨b,o,none⟩:Addr).add n=⟨b,o+n,none⟩:=by
 unfold Addr.add;split<;>simp_all
section
variable{E:Env}{P:Program}{ι:dZ}{w:World}{L:Nat->Prop}{ts:List AV}{a:Act}
theorem Ea(V:Valid E P){t f:Nat}{x av:AV}{vx:Value}(hx:R ι w L x vx)(h:dx E t x f=some av):
  ∃cv,(Instr.fieldAt t vx f).run P w=.ok cv w/\R ι w L av cv:=by
 unfold dx at h;split at h
 case h_2=>cases h
 rename_i fields _ _ _ _ _ hi;have hu:=bg V hi w;split at h
 case h_2=>cases h
 rename_i fd hfd;split at h
 case h_2=>cases h
 rename_i fi oJ;have hs:=cU V oJ w;split at h
 ·cases h
 rename_i hz;split at h<;>first|(cases h;done)|skip
 ·cases h;simp only[R]at hx⊢;obtain⟨cb,co,h1,rfl⟩:=hx;refine⟨_,?_,cb,co,h1,rfl⟩;simp[Instr.fieldAt,hu,hfd,Instr.sureAddr,fieldPlace,hs,hz,addr_add,aLt]
 ·cases h;simp only[R]at hx⊢;obtain⟨cb,o,c,e,f',rfl,h2,h3,h4⟩:=hx;refine⟨_,?_,cb,o,c,e,f',rfl,h2,h3,h4⟩;simp[Instr.fieldAt,hu,hfd,Instr.sureAddr,fieldPlace,hs,hz,addr_add,aLt]
 ·cases h;simp only[R]at hx⊢;subst hx;refine⟨_,?_,rfl⟩;simp[Instr.fieldAt,hu,hfd,Instr.sureAddr,fieldPlace,hs,hz,addr_add]
theorem N2(V:Valid E P){t f:Nat}{x av:AV}{vx:Value}(hx:R ι w L x vx)(h:Eb E t x f=some av):
  ∃cv,(Instr.field t vx f).run P w=.ok cv w/\R ι w L av cv:=by
 unfold Eb at h;split at h
 case h_2=>cases h
 rename_i fields _ _ _ _ _ cs hi;have hu:=bg V hi w;split at h
 case h_2=>cases h
 rename_i fd hfd;simp only[R]at hx;obtain⟨vs,rfl,hr⟩:=hx;obtain⟨v,h1,h2⟩:=p8 V hr h;exact⟨v,by simp[Instr.field,hu,hfd,asAgg,h1],h2⟩
theorem OE(V:Valid E P){t:Nat}{x ix av:AV}{vx vi:Value}(hx:R ι w L x vx)(FF:R ι w L ix vi)(h:qm E t x ix=some av):
  ∃cv,(Instr.index t vx vi).run P w=.ok cv w/\R ι w L av cv:=by
 unfold qm at h;split at h
 case h_2=>cases h
 rename_i i k n hi;have hu:=bg V hi w;simp only[R]at FF;subst FF;split at h
 ·rename_i len e cs fX;rw[fX]at hu;split at h
  case h_2=>cases h
  rename_i ei l9;split at h
  ·rename_i hb;simp only[R]at hx;obtain⟨vs,rfl,hr⟩:=hx;obtain⟨v,h1,h2⟩:=p8 V hr h;exact⟨v,by simp[Instr.index,asIntOf,hu,hb,cU V l9 w,h1],h2⟩
  ·cases h
 ·rename_i s fX;rw[fX]at hu;split at h
  ·rename_i hb;rw[aLp]at h;obtain⟨c,hc,rfl⟩:=h;simp only[R]at hx⊢;subst hx;refine⟨_,?_,rfl⟩
   have:(⟨s.toArray⟩:ByteArray)[n.toNat]?=some c:=by
    rw[show(⟨s.toArray⟩:ByteArray)[n.toNat]?=s.toArray[n.toNat]? from by
     simp only[getElem?_def,ByteArray.size];rfl]
    simpa using hc
   simp[Instr.index,asIntOf,hu,hb,this]
  ·cases h
 ·cases h
theorem EB(V:Valid E P){t:Nat}{x ix av:AV}{vx vi:Value}(hx:R ι w L x vx)(FF:R ι w L ix vi)(h:cI E t x ix=some av):
  ∃cv,(Instr.indexAt t vx vi).run P w=.ok cv w/\R ι w L av cv:=by
 unfold cI at h;split at h
 case h_2=>cases h
 rename_i i k n hi;have hu:=bg V hi w;simp only[R]at FF;subst FF;split at h
 ·rename_i len e fX;rw[fX]at hu;split at h
  case h_2=>cases h
  rename_i ei l9;split at h
  case isFalse=>cases h
  rename_i hb;split at h<;>first|(cases h;done)|skip
  ·cases h;simp only[R]at hx⊢;obtain⟨cb,co,h1,rfl⟩:=hx;refine⟨_,?_,cb,co,h1,rfl⟩;simp[Instr.indexAt,asIntOf,hu,Instr.sureAddr,hb,cU V l9 w,addr_add,aLt]
  ·cases h;simp only[R]at hx⊢;obtain⟨cb,o,c,e',f',rfl,h2,h3,h4⟩:=hx;refine⟨_,?_,cb,o,c,e',f',rfl,h2,h3,h4⟩;simp[Instr.indexAt,asIntOf,hu,Instr.sureAddr,hb,cU V l9 w,addr_add,aLt]
  ·cases h;simp only[R]at hx⊢;subst hx;refine⟨_,?_,rfl⟩;simp[Instr.indexAt,asIntOf,hu,Instr.sureAddr,hb,cU V l9 w,addr_add]
 ·rename_i e fX;rw[fX]at hu;split at h
  case h_2=>cases h
  rename_i ei l9;split at h<;>first|(cases h;done)|skip
  ·split at h
   case isFalse=>cases h
   rename_i hb;obtain⟨he,hb⟩:=hb;cases h;simp only[R]at hx⊢;obtain⟨cb,co,cap,c,e',f',h1,rfl,_⟩:=hx;refine⟨_,?_,cb,co,h1,rfl⟩;simp[Instr.indexAt,asIntOf,hu,hb,cU V l9 w,addr_add,aLt,he]
  ·split at h
   case isFalse=>cases h
   rename_i hb;cases h;simp only[R]at hx⊢;obtain⟨cb,o,cap,c,e',f',rfl,h2,h3,h4,h5⟩:=hx;refine⟨_,?_,cb,o,c,e',f',rfl,h3,h4,h5⟩;simp[Instr.indexAt,asIntOf,hu,hb,cU V l9 w,addr_add]
 ·cases h
def yb(ι:dZ)(w:World)(L:Nat->Prop):Option AV->Option Value->Prop
 |none,v=>v=none
 |some x,v=>∃y,v=some y/\R ι w L x y
theorem xG(hf:Rs ι w L ts a.tmps.toList){x:Option Operand}{av:Option AV}(h:jc ts x=some av):yb ι w L av (x.map a.eval):=by
 cases x with
 |none=>simp only[jc,aLv.injEq]at h;subst h;simp[yb]
 |some x=>
  simp only[jc,aLp]at h;obtain⟨v,h1,rfl⟩:=h;simp only[yb,Option.map_some];exact⟨_,rfl,fH hf h1⟩
theorem Gz{lim cap n:Nat}{x:AV}{v:Value}(hx:R ι w L x v)(h:asNat lim x=some n)(hc:lim<=cap)(code:BoundsCode):
  (Instr.sliceBound v cap code).run P w=.ok n w/\n<=lim:=by
 unfold asNat at h;split at h
 ·rename_i k m;split at h
  ·rename_i hb;cases h;simp only[R]at hx;subst hx
   have:0<=m/\m<=(cap:Int):=⟨hb.1,by omega⟩
   exact⟨by simp[Instr.sliceBound,asIntOf,this],by omega⟩
  ·cases h
 ·cases h
theorem abN{H l:Nat}{lo:Option AV}{Nb:Option Value}(jN:yb ι w L lo Nb)
  (h:loE H lo=some l):
  (match Nb with|some v=>Instr.sliceBound v H .sliceB|none=>(pure 0:Sem Nat)).run P w=.ok l w/\l<=H:=by
 cases lo with
 |none=>simp only[yb]at jN;subst jN;cases h;exact⟨rfl,Nat.zero_le _⟩
 |some x=>
  simp only[yb]at jN;obtain⟨y,rfl,hy⟩:=jN;exact Gz (P:=P) hy h (aLr _) _
theorem oS{len kc cap l h:Nat}{lo hi:Option AV}{Nb YX:Option Value}(jN:yb ι w L lo Nb)(Ok:yb ι w L hi YX)
  (hb:gG len kc lo hi=some (l,h)) (h1:len<=kc) (h2:kc<=cap) (isS:Bool):
  (Instr.sliceBounds isS len cap Nb YX none).run P w=.ok (l,h,cap) w/\l<=h/\h<=kc:=by
 unfold gG at hb;split at hb
 ·cases hb
 rename_i H hH;split at hb
 ·cases hb
 rename_i Lw hL;simp only[aLv.injEq,Prod.mk.injEq]at hb;obtain⟨rfl,rfl⟩:=hb;have e2:=abN (P:=P) jN hL;cases hi with
 |none=>
  simp only[yb]at Ok;subst Ok
  cases hH;refine⟨?_,e2.2,h1⟩;unfold Instr.sliceBounds;simp only[Sem.run_bind,Sem.run_pure,Result.andThen_ok,aLx,aLs,if_false];cases Nb with
  |none=>have:=e2.1;simp at this;subst this;rfl
  |some v=>have:=e2.1;simp only at this;simp only[Sem.run_bind,this,Result.andThen_ok,Sem.run_pure]
 |some x=>
  simp only[yb]at Ok;obtain⟨y,rfl,hy⟩:=Ok;have e1:=Gz (P:=P) hy hH h2 (if isS then .sliceAcap else .sliceAlen);refine⟨?_,e2.2,e1.2⟩;unfold Instr.sliceBounds;simp only[Sem.run_bind,Sem.run_pure,Result.andThen_ok,aLx,aLs,if_false];rw[e1.1];simp only[Result.andThen_ok];cases Nb with
  |none=>have:=e2.1;simp at this;subst this;rfl
  |some v=>have:=e2.1;simp only at this;simp only[Sem.run_bind,this,Result.andThen_ok,Sem.run_pure]
theorem Pz(V:Valid E P){t:Nat}{x av:AV}{vx:Value}{lo hi:Option AV}{Nb YX:Option Value}(hx:R ι w L x vx)(jN:yb ι w L lo Nb)(Ok:yb ι w L hi YX)
  (h:iM E t x lo hi=some av):∃cv,(Instr.sliceAt t vx Nb YX none).run P w=.ok cv w/\R ι w L av cv:=by
 unfold iM at h;split at h
 ·cases h
 rename_i i zL;have hu:=bg V zL w;split at h
 ·rename_i s fX;rw[fX]at hu;rw[aLp]at h;obtain⟨⟨l,hh⟩,hb,rfl⟩:=h;simp only[R]at hx;subst hx
  have:=oS (P:=P) jN Ok hb (aLr _) (aLr _) false
  refine⟨.string ⟨((s.drop l).take (hh-l)).toArray⟩,?_,by simp[R]⟩;have yf:ByteArray.size ⟨s.toArray⟩=s.length:=by simp[ByteArray.size]
  simp only[Instr.sliceAt,Sem.run_bind,hu,Result.andThen_ok,Instr.slice,aLx,aLs,if_false,Sem.run_pure,yf,this.1];congr 2;apply ByteArray.ext;rw[ByteArray.data_extract];apply Array.toList_inj.1;simp[aLy]
 ·rename_i e fX;rw[fX]at hu;split at h
  case h_2=>cases h
  rename_i ei p l9 hb;obtain⟨l,hh⟩:=p;cases h;simp only[R]at hx;subst hx;have sG:=oS (P:=P) jN Ok hb (aLr _) (aLr _) true
  have:l=0/\hh=0:=by omega
  obtain⟨rfl,rfl⟩:=this;refine⟨.slice none 0 0,?_,by simp[R]⟩;obtain⟨_,_,hw0⟩:=V.Lb l9;simp[Instr.sliceAt,hu,Instr.slice,sG.1,cU V l9 w]
 ·rename_i e fX;rw[fX]at hu;split at h
  case h_2=>cases h
  rename_i ei p l9 hb;obtain⟨l,hh⟩:=p;cases h;simp only[R]at hx;obtain⟨ad,cap,rfl⟩:=hx;have sG:=oS (P:=P) (cap:=cap) jN Ok hb (aLr _) (Nat.zero_le _) true
  have:l=0/\hh=0:=by omega
  obtain⟨rfl,rfl⟩:=this;refine⟨_,by simp[Instr.sliceAt,hu,Instr.slice,sG.1,cU V l9 w];rfl,?_⟩;simp only[R]
  split
  ·exact⟨_,_,rfl⟩
  ·exact⟨_,_,rfl⟩
 ·rename_i e b off len esz kc fX;rw[fX]at hu;split at h
  case h_2=>cases h
  rename_i ei l hh l9 hb;simp only[R]at hx;obtain⟨cb,co,cap,c,e',f,h1,rfl,h3,h4,h5,h6⟩:=hx;have sG:=oS (P:=P) (cap:=cap) jN Ok hb h3 h4 true;split at h
  ·cases h
  rename_i C8;have C8:ei.size=esz:=by simpa using C8
  have oc:(Instr.sliceAt t (.slice (some ⟨cb,co+off,none⟩) len cap) Nb YX none).run P w=
    .ok (.slice (if cap=l then some ⟨cb,co+off,none⟩else some ⟨cb,co+off+l*esz,none⟩) (hh-l) (cap-l)) w:=by
   simp[Instr.sliceAt,hu,Instr.slice,sG.1,cU V l9 w,addr_add,C8]
  split at h
  ·rename_i hl;subst hl;cases h;refine⟨_,oc,?_⟩;simp only[R];refine⟨cb,co,cap,c,e',f,h1,?_,sG.2.2,h4,h5,h6⟩
   split<;>simp
  ·rename_i hl;split at h
   ·rename_i Wl;cases h;refine⟨_,oc,?_⟩;simp only[R,Wl,aLz]
    split
    ·exact⟨_,_,rfl⟩
    ·exact⟨_,_,rfl⟩
   ·rename_i Wl;cases h;refine⟨_,oc,?_⟩;simp only[R];have dM:cap≠l:=by omega
    refine⟨cb,co,cap-l,c,e',f,h1,by rw[if_neg dM,aLt],by omega,by omega,h5,?_⟩
    have:l*esz+(cap-l)*esz=cap*esz:=by rw[<-Nat.add_mul];congr 1;omega
    omega
 ·rename_i e cs len fX;rw[fX]at hu;split at h
  case h_2=>cases h
  rename_i ei l hh l9 hb;simp only[R]at hx;obtain⟨cb,o,cap,c,e',f,rfl,h2,h3,h4,h5⟩:=hx;have sG:=oS (P:=P) (cap:=cap) jN Ok hb (aLr _) h2 true;have oc:(Instr.sliceAt t (.slice (some ⟨cb,o,none⟩) len cap) Nb YX none).run P w=
    .ok (.slice (if cap=l then some ⟨cb,o,none⟩else some ⟨cb,o+l*ei.size,none⟩) (hh-l) (cap-l)) w:=by
   simp[Instr.sliceAt,hu,Instr.slice,sG.1,cU V l9 w,addr_add]
  split at h
  ·rename_i Wl;cases h;refine⟨_,oc,?_⟩;simp only[R,Wl,aLz]
   split
   ·exact⟨_,_,rfl⟩
   ·exact⟨_,_,rfl⟩
  ·rename_i Wl;cases h;refine⟨_,oc,?_⟩;simp only[R];have dM:cap≠l:=by omega
   exact⟨cb,o+l*ei.size,cap-l,c,e',f,by rw[if_neg dM],by omega,h3,h4,(h5.drop _).take _⟩
 ·cases h
end
section
variable{E:Env}{P:Program}{ι:dZ}{w:World}{L:Nat->Prop}{ts:List AV}{a:Act}{Lo:Nat->Prop}{w0:World}{H:Hp}
theorem uF{cb o:Nat}{c:Array Value}{e:TypeId}{f:Nat×Nat}(h:w.heap[cb]?=some (.cells c e f)):w.cell? ⟨cb,o,none⟩=c[o]?:=by simp[World.cell?,h]
theorem Xy(S:iW E Lo w0 ι H w){p:AV}{v:Value}{cs:List AV}{off:Nat}(hp:R ι w (Live Lo ι H) p v)(h:Fh E H p=some (cs,off)):
  ∃cb o c e f,v=.pointer (some ⟨cb,o+off,none⟩)/\w.heap[cb]?=some (.cells c e f)/\j6 ι w (Live Lo ι H) c o cs:=by
 unfold Fh at h;split at h
 ·rename_i b ayH;split at h
  case h_2=>cases h
  rename_i st tL hb;split at h
  ·cases h
  rename_i fK;cases h;simp only[R]at hp;obtain⟨cb,co,h1,rfl⟩:=hp;obtain⟨NK,co',o,g1,g2,g3,_⟩:=S.obj b _ hb fK;rw[h1]at g1;cases g1
  simp only[jF]at g3;obtain⟨c,e,f,rfl,g4,_⟩:=g3;exact⟨cb,co,c,e,f,rfl,g2,g4⟩
 ·cases h;simp only[R]at hp;obtain⟨cb,o,c,e,f,rfl,h2,h3,h4⟩:=hp;exact⟨cb,o,c,e,f,rfl,h2,j6.ext (Ext.refl _ _) _ _ _ _ _ (uc _) h4⟩
 ·rename_i g ayH;rw[aLp]at h;obtain⟨tL,hg,h⟩:=h;cases h;simp only[R]at hp;subst hp;obtain⟨c,e,f,h1,h2,h3,-⟩:=S.glob g _ hg;exact⟨g,0,c,e,f,by simp,h1,j6.ext (Ext.refl _ _) _ _ _ _ _ (uc _) h3⟩
 ·cases h
theorem GC{cb o:Nat}{c:Array Value}{e:TypeId}{f:Nat×Nat}(hc:w.heap[cb]?=some (.cells c e f)){cs:List AV}(hr:j6 ι w L c o cs):
  ∃vs:List Value,vs.length=cs.length/\(loadCells ⟨cb,o,none⟩ cs.length).run P w=.ok vs.toArray w/\Rs ι w L cs vs:=by
 refine⟨(c.extract o (o+cs.length)).toList,hr.list.length,?_,hr.list⟩
 have:=run_loadCells_list (P:=P) w ⟨cb,o,none⟩ (c.extract o (o+cs.length)).toList (fun j v hj=>by
  rw[addr_add,uF hc];rw[aLC,Array.getElem?_extract]at hj;split at hj
  ·exact hj
  ·cases hj)
 rw[hr.list.length]at this;exact this
theorem LC(V:Valid E P){t:Nat}{cb o off:Nat}{c:Array Value}{e:TypeId}{f:Nat×Nat}(hc:w.heap[cb]?=some (.cells c e f)){cs:List AV}(hr:j6 ι w L c o cs)
  {av:AV} (h:ik E t cs off=some av):∃v,(loadVar t ⟨cb,o+off,none⟩).run P w=.ok v w/\R ι w L av v:=by
 unfold ik at h;cases hi:E.ty t with
 |none=>simp[hi]at h
 |some i=>
  simp only[hi]at h;unfold loadVar;simp only[Sem.run_bind,Fq V hi w,Result.andThen_ok];cases ha:i.isAgg with
  |true=>
   simp only[ha,if_true]at h⊢;split at h
   ·rename_i hle;cases h;have lW:=(hr.drop off).take i.size;have hlen:((cs.drop off).take i.size).length=i.size:=by simp;omega
    obtain⟨vs,h1,h2,h3⟩:=GC (P:=P) hc lW;rw[hlen]at h2;refine⟨.agg vs.toArray,by simp[cU V hi w,h2],?_⟩;simp only[R];exact⟨vs.toArray,rfl,by simpa using h3⟩
   ·cases h
  |false=>
   simp only[ha,aLs,if_false]at h⊢;obtain⟨v,h1,h2⟩:=hr.get off av h;exact⟨v,by simp[uF hc,h1],h2⟩
theorem Sz(V:Valid E P)(S:iW E Lo w0 ι H w){t:Nat}{p av:AV}{v:Value}(hp:R ι w (Live Lo ι H) p v)(h:gl E H t p=some av):
  ∃cv,(Instr.loadAt t v).run P w=.ok cv w/\R ι w (Live Lo ι H) av cv:=by
 unfold gl at h;split at h
 case h_2=>cases h
 rename_i cs off hpt;obtain⟨cb,o,c,e,f,rfl,h2,h3⟩:=Xy S hp hpt;obtain⟨cv,g1,g2⟩:=LC V h2 h3 h;exact⟨cv,by simpa[Instr.loadAt,Instr.sureAddr]using g1,g2⟩
theorem Gm(V:Valid E P)(S:iW E Lo w0 ι H w){t:Nat}{x av:AV}{vx:Value}{lo hi:Option AV}{Nb YX:Option Value}(hx:R ι w (Live Lo ι H) x vx)
  (jN:yb ι w (Live Lo ι H) lo Nb) (Ok:yb ι w (Live Lo ι H) hi YX)
  (h:jw E H t x lo hi=some av):∃cv,(Instr.sliceAt t vx Nb YX none).run P w=.ok cv w/\R ι w (Live Lo ι H) av cv:=by
 unfold jw at h;split at h
 case h_2=>cases h
 rename_i n e _ _ _ _ _ zL;have hu:=bg V zL w;split at h
 case h_2=>cases h
 rename_i ei l hh l9 hb;have sG:=oS (P:=P) (cap:=n) jN Ok hb (aLr _) (aLr _) false;have oc:∀cb o,(Instr.sliceAt t (.pointer (some ⟨cb,o,none⟩)) Nb YX none).run P w=
   .ok (.slice (some (if n=l then⟨cb,o,none⟩else⟨cb,o+l*ei.size,none⟩)) (hh-l) (n-l)) w:=by
  intro cb o;simp[Instr.sliceAt,hu,Instr.sureAddr,sG.1,cU V l9 w,addr_add]
 split at h
 ·rename_i b off;split at h
  case h_2=>cases h
  rename_i st cs I1;split at h
  ·cases h
  rename_i fK;simp only[not_or]at fK;simp only[R]at hx;obtain⟨cb,co,h1,rfl⟩:=hx;obtain⟨NK,co',o,g1,g2,g3,_⟩:=S.obj b _ I1 fK.1;rw[h1]at g1;cases g1
  simp only[jF]at g3;obtain⟨c,e',f,rfl,g4,_⟩:=g3;split at h
  ·rename_i Wl;cases h;refine⟨_,oc _ _,?_⟩;simp only[R,Wl,aLz];exact⟨_,_,rfl⟩
  ·rename_i Wl;cases h;refine⟨_,oc _ _,?_⟩;simp only[R];have dM:n≠l:=by omega
   refine⟨cb,co,n-l,c,e',f,h1,by rw[if_neg dM,aLt],by omega,by omega,g2,?_⟩;have hm:l*ei.size+(n-l)*ei.size=n*ei.size:=by rw[<-Nat.add_mul];congr 1;omega
   have hlen:off+n*ei.size<=cs.length:=by omega
   have tg:cs≠[]:=fun e=>by subst e;simp at fK
   have:=g4.size tg
   omega
 ·rename_i cs off;simp only[R]at hx;obtain⟨cb,o,c,e',f,rfl,h2,h3,h4⟩:=hx;split at h
  ·rename_i Wl;cases h;refine⟨_,oc _ _,?_⟩;simp only[R,Wl,aLz];exact⟨_,_,rfl⟩
  ·rename_i Wl;cases h;refine⟨_,oc _ _,?_⟩;simp only[R];have dM:n≠l:=by omega
   refine⟨cb,o+off+l*ei.size,n-l,c,e',f,by rw[if_neg dM],by omega,h2,h3,?_⟩
   have:=(h4.drop (off+l*ei.size)).take ((hh-l)*ei.size)
   rwa[<-aLt]at this
 ·cases h
theorem GW(off:Nat):∀(vs:List Value) (k:Nat) (cur:List Value),off+k+vs.length<=cur.length->
  (vs.zipIdx k).foldl (fun(cs:List Value) p=>cs.set (off+p.2) p.1) cur=cur.take (off+k)++vs++cur.drop (off+k+vs.length)
 |[],k,cur,h=>by simp
 |v::vs,k,cur,h=>by
  simp only[List.zipIdx_cons,List.foldl_cons];simp only[List.length_cons]at h;rw[GW off vs (k+1) (cur.set (off+k) v) (by simp;omega)];have h1:(cur.set (off+k) v).take (off+(k+1))=cur.take (off+k)++[v]:=by rw[show off+(k+1)=(off+k)+1 from by omega,List.take_set,List.take_succ_eq_append_getElem (by omega),List.set_append];simp[Nat.min_eq_left (show off+k<=cur.length by omega)]
  have h2:(cur.set (off+k) v).drop (off+(k+1)+vs.length)=cur.drop (off+k+(vs.length+1)):=by rw[List.drop_set_of_lt (by omega)];congr 1;omega
  rw[h1,h2]
  simp
theorem Eg(off:Nat):∀(zs:List (Value×Nat)) (cur:Array Value),
  (zs.foldl (fun cs p=>cs.setIfInBounds (off+p.2) p.1) cur).toList=zs.foldl (fun(cs:List Value) p=>cs.set (off+p.2) p.1) cur.toList
 |[],cur=>rfl
 |z::zs,cur=>by
  simp only[List.foldl_cons];rw[Eg off zs,Array.toList_setIfInBounds]
theorem zF{place:Nat->Option (Nat×Nat)}:∀{l:List (Nat×AV)} {vs:List (Nat×Value)} {cs out:List AV} {cells:Array Value},ZH ι w L l vs->Rs ι w L cs cells.toList->
  hZ place cs l=some out->∃res,Instr.fill place cells vs=some res/\Rs ι w L out res.toList
 |[],_,_,_,_,hl,hc,h=>by
  simp only[ZH]at hl;subst hl
  simp only[hZ,aLv.injEq]at h;subst h
  exact⟨_,rfl,hc⟩
 |(i,x)::l,_,cs,out,cells,hl,hc,h=>by
  simp only[ZH]at hl;obtain⟨y,ys,rfl,hxy,hl⟩:=hl;unfold hZ at h;split at h
  ·cases h
  rename_i off size hp;split at h
  ·cases h
  rename_i tU;simp only[ne_eq,Bool.or_eq_true,decide_eq_true_eq,not_or,Decidable.not_not,Nat.not_lt]at tU;obtain⟨yf,hle⟩:=tU;have aeC:=hxy.cells;have uN:y.cells.size=size:=by have:=aeC.length;simpa[yf]using this
  have vg:cells.size=cs.length:=by have:=hc.length;simpa using this
  unfold Instr.fill;simp only[hp];rw[if_neg (by simp[uN,vg];omega)];refine zF hl ?_ h;rw[<-Array.foldl_toList,Eg off];rw[Array.toList_zipIdx,GW off _ 0 _ (by simp[uN,vg];omega)];have e1:y.cells.toList.length=size:=by simpa using uN
  rw[e1];exact((hc.take off).append aeC).append (hc.drop (off+size))
end
end Dv
