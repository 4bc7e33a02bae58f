/- A part of the proof that PairChecks returns true for every input; no condition of its own. -/
import Derived.Test.YtblnjkjjedanaaaGreatDoorTac
import Derived.Maps.RangeRun
set_option linter.all false
set_option maxHeartbeats 100000000
set_option maxRecDepth 100000
open Bool renaming false_eq_true->aKT,and_eq_true->aLR,false_and->aNZ,not_eq_true'->aLZ
open Option renaming map_some->aLT,some->aKV,map->aN0,bind_some->aN6
open Nat renaming le_max_right->aNX,le_max_left->aNY,lt_or_ge->aN3,le_refl->aKR
open List renaming all_eq_true->aLN,replicate->aK3,all_cons->aN1,countP_eq_zero->aN2
namespace Dv
open Go Go.RowKit
def Qd:TypeDesc->Bool
 |.struct _|.array .. =>true
 |_=>false
def OZ:Value->Bool
 |.agg _=>true
 |_=>false
def zeroOf(isA:Bool)(size:Nat)(z:Value):Option (List AV):=
 match dP (DZ 19) z.cells.toList with
 |some cs=>if cs.length==size&&OZ z==isA then some cs else none
 |none=>none
def ZU(P:Program)(t:Nat):Option Bn:=
 match P.info? t,P.underlying t with
 |some i,some u=>
  if Qd u||i.size==1 then
   some {cV:=u,isAgg:=Qd u,size:=i.size,bytes:=i.bytes,zero:=i.zero.bind (zeroOf (Qd u) i.size),eS:=!P.stoodInHeld t&&!P.eqGuardType P.depth t}
  else none
 |_,_=>none
theorem adm{E:Env}{P:Program}{t:Nat}{i:Bn}(h:ZU P t=some i):anH E P t i:=by
 unfold ZU at h;split at h
 case h_2=>cases h
 rename_i ti u h1 h2;split at h
 case isFalse=>cases h
 rename_i hc;cases h;refine⟨h2,?_,⟨ti,h1,rfl,rfl,fun cs sd=>?_⟩,?_,?_⟩
 ·cases u<;>rfl
 ·simp only[Option.bind_eq_some_iff]at sd;obtain⟨z,g1,g2⟩:=sd;refine⟨z,g1,?_⟩;unfold zeroOf at g2;split at g2
  case h_2=>cases g2
  rename_i vK hm;split at g2
  case isFalse=>cases g2
  rename_i hc';cases g2;simp only[aLR,beq_iff_eq]at hc';refine⟨hm,hc'.1,fun ha=>?_,fun ha=>?_⟩
  ·simp only at ha
   have:=hc'.2.trans ha
   cases z<;>simp[OZ]at this
   exact⟨_,rfl⟩
  ·simp only at ha
   have:=hc'.2.trans ha
   cases z<;>simp[OZ]at this<;>rfl
 ·intro ha;simp only at ha⊢;simpa[ha]using hc
 ·intro he;simpa using he
def Qm(P:Program)(imp fL skip:List Nat)(f:Nat):Option FnI:=
 if skip.contains f then none else match P.funcs[f]? with
 |some fn=>match fn.body with
  |some c=>some {code:=c,ntmps:=fn.ntmps,results:=fn.results.toList,pure:=!imp.contains f,fL:=fL.contains f}
  |none=>none
 |none=>none
def Yp(E:Env)(P:Program):Bool:=
 P.funcs.all (fun fn=>fn.name != "runtime.NumGoroutine")&&P.follows .mixedOrders&&
 (List.range P.funcs.size).all fun f=>match E.fn f with
  |some fi=>codeOk E fi.code
  |none=>true
theorem Wu{E:Env}{P:Program}{imp fL skip:List Nat}(ht:E.ty=ZU P)(hf:E.fn=Qm P imp fL skip)(h:Yp E P=true):Valid E P:=by
 unfold Yp at h;simp only[aLR]at h;obtain⟨⟨h1,h2⟩,h3⟩:=h;refine⟨fun t i Tx=>adm (by rw[<-ht];exact Tx),fun f fi mI=>?_,h2⟩;have awn:=mI;rw[hf]at mI;unfold Qm at mI;split at mI
 ·cases mI
 split at mI
 case h_2=>cases mI
 rename_i fn jE;split at mI
 case h_2=>cases mI
 rename_i c hc;cases mI;refine⟨fn,jE,hc,rfl,rfl,?_,?_⟩
 ·have:=(Array.all_eq_true_iff_forall_mem.1 h1) fn (Array.mem_of_getElem? jE)
  simpa using this
 ·have iH:=(Array.getElem?_eq_some_iff.1 jE).1
  have:=aLN.1 h3 f (List.mem_range.2 iH)
  rw[awn]at this;exact this
def sU(E:Env)(f:Nat):Bool:=match E.fn f with
 |some fi=>codeOk E fi.code
 |none=>true
theorem Dl{E:Env}{P:Program}{imp fL skip:List Nat}(ht:E.ty=ZU P)(hf:E.fn=Qm P imp fL skip)(h1:P.funcs.all (fun fn=>fn.name != "runtime.NumGoroutine")=true)
  (h2:P.follows .mixedOrders=true) (h3:∀f,f<P.funcs.size->sU E f=true):Valid E P:=by
 refine Wu ht hf ?_;unfold Yp;simp only[h1,h2,Bool.true_and];exact aLN.2 fun f hf=>h3 f (List.mem_range.1 hf)
theorem gk{p:Nat->Bool}{s n f:Nat}(h:(List.range' s n).all p=true)(h1:s<=f)(h2:f<s+n):p f=true:=aLN.1 h f (List.mem_range'_1.2 ⟨h1,h2⟩)
def ajy:IntKind->IntKind->Bool
 |.i8,.i8|.i16,.i16|.i32,.i32|.i64,.i64|.u8,.u8|.u16,.u16|.u32,.u32|.u64,.u64=>true
 |a,b=>decide (a=b)
theorem acH{a b:IntKind}(h:ajy a b=true):a=b:=by
 unfold ajy at h;split at h<;>first|rfl|simpa using h
mutual
def p8:AV->AV->Bool
 |.int k n,.int j m=>n==m&&ajy k j
 |.bool a,.bool b=>a==b
 |.str a,.str b=>a==b
 |.jF,.jF=>true
 |.eX a i,.eX b j=>i==j&&Bo a b
 |.sf a i,.sf b j=>a==b&&i==j
 |.aH,.aH=>true
 |.eW,.eW=>true
 |.aK a i,.aK b j=>i==j&&Bo a b
 |.jV,.jV=>true
 |.tO a c,.tO b d=>Bo a b&&Bo c d
 |.jk,.jk=>true
 |.func f a c,.func g b d=>f==g&&Bo a b&&Bo c d
 |.nilIface,.nilIface=>true
 |.iface t a,.iface u b=>t==u&&p8 a b
 |.agg a,.agg b=>Bo a b
 |.tuple a,.tuple b=>Bo a b
 |_,_=>false
def Bo:List AV->List AV->Bool
 |[],[]=>true
 |a::as,b::bs=>p8 a b&&Bo as bs
 |_,_=>false
end
mutual
theorem KF:∀(a b:AV),p8 a b=true->a=b
 |.int k n,b,h=>by
  cases b<;>simp only[p8,aKT,aLR,beq_iff_eq]at h
  rw[h.1,acH h.2]
 |.bool a,b,h=>by cases b<;>simp only[p8,aKT,beq_iff_eq]at h;rw[h]
 |.str a,b,h=>by cases b<;>simp only[p8,aKT,beq_iff_eq]at h;rw[h]
 |.jF,b,h=>by cases b<;>simp only[p8,aKT]at h;rfl
 |.b9 ..,b,h=>by cases b<;>simp[p8]at h
 |.eX a i,b,h=>by
  cases b<;>simp only[p8,aKT,aLR,beq_iff_eq]at h
  rw[h.1,o8 _ _ h.2]
 |.sf a i,b,h=>by
  cases b<;>simp only[p8,aKT,aLR,beq_iff_eq]at h
  rw[h.1,h.2]
 |.aH,b,h=>by cases b<;>simp only[p8,aKT]at h;rfl
 |.eW,b,h=>by cases b<;>simp only[p8,aKT]at h;rfl
 |.aI ..,b,h=>by cases b<;>simp[p8]at h
 |.aK a i,b,h=>by
  cases b<;>simp only[p8,aKT,aLR,beq_iff_eq]at h
  rw[h.1,o8 _ _ h.2]
 |.jV,b,h=>by cases b<;>simp only[p8,aKT]at h;rfl
 |.jt _,b,h=>by cases b<;>simp[p8]at h
 |.tO a c,b,h=>by
  cases b<;>simp only[p8,aKT,aLR]at h
  rw[o8 _ _ h.1,o8 _ _ h.2]
 |.jk,b,h=>by cases b<;>simp only[p8,aKT]at h;rfl
 |.func f a c,b,h=>by
  cases b<;>simp only[p8,aKT,aLR,beq_iff_eq]at h
  rw[h.1.1,o8 _ _ h.1.2,o8 _ _ h.2]
 |.nilIface,b,h=>by cases b<;>simp only[p8,aKT]at h;rfl
 |.iface t a,b,h=>by
  cases b<;>simp only[p8,aKT,aLR,beq_iff_eq]at h
  rw[h.1,KF _ _ h.2]
 |.agg a,b,h=>by
  cases b<;>simp only[p8,aKT]at h
  rw[o8 _ _ h]
 |.tuple a,b,h=>by
  cases b<;>simp only[p8,aKT]at h
  rw[o8 _ _ h]
 |.yield l,b,h=>by cases b<;>simp[p8]at h
theorem o8:∀(a b:List AV),Bo a b=true->a=b
 |[],b,h=>by cases b<;>simp[Bo]at h;rfl
 |x::xs,b,h=>by
  cases b with
  |nil=>simp[Bo]at h
  |cons y ys=>
   simp only[Bo,aLR]at h;rw[KF _ _ h.1,o8 _ _ h.2]
end
abbrev wQ:=List (List AV×AV)
abbrev Table:=List (Nat×wQ)
def RG:wQ->List AV->Option AV
 |[],_=>none
 |(as,r)::K,args=>if Bo as args then some r else RG K args
def Yq(E:Env)(n:Nat)(f:Nat)(K:wQ):Bool:=K.all fun e=>match call E n f e.1 with
 |some v=>p8 v e.2
 |none=>false
theorem IX:∀{K:wQ} {args:List AV} {r:AV},RG K args=some r->(args,r)∈K
 |[],_,_,h=>by cases h
 |(as,r')::K,args,r,h=>by
  unfold RG at h;split at h
  ·rename_i hb;cases h;rw[o8 _ _ hb];simp
  ·exact List.mem_cons_of_mem _ (IX h)
theorem jZ{E:Env}(x:Nat->List AV->Option AV)(y:Nat->List AV->Hp->Option (AV×Hp)):∀c,codeOk {E with ov:=x,sj:=y} c=codeOk E c
 |.seq a b=>by simp only[codeOk,jZ x y a,jZ x y b]
 |.cond _ a b=>by simp only[codeOk,jZ x y a,jZ x y b]
 |.block _ a=>by simp only[codeOk,jZ x y a]
 |.loop a=>by simp only[codeOk,jZ x y a]
 |.scope a=>by simp only[codeOk,jZ x y a]
 |.rangeFunc _ _ a b=>by simp only[codeOk,jZ x y a,jZ x y b]
 |.region id ops draw=>rfl
 |.skip=>rfl
 |.exit _=>rfl
 |.label _=>rfl
 |.goto _=>rfl
 |.ret=>rfl
 |.refuse _=>rfl
theorem Valid.ov{E:Env}{P:Program}(V:Valid E P)(x:Nat->List AV->Option AV)(y:Nat->List AV->Hp->Option (AV×Hp)):Valid {E with ov:=x,sj:=y} P:=
 ⟨fun t i h=>by
  obtain⟨h1,h2,h3,h4,h5⟩:=V.ty t i h;exact⟨h1,h2,h3,h4,h5⟩,
  fun f fi h=>by
  obtain⟨fn,h1,h2,h3,h4,h5,h6⟩:=V.fn f fi h;exact⟨fn,h1,h2,h3,h4,h5,by rw[jZ];exact h6⟩,V.mixed⟩
theorem p9.glob{E E':Env}{P:Program}{pc:Pc}(h:p9 E P pc)(hg:E'.glob=E.glob):p9 E' P pc:=fun f as r hp L w vs hl hgl ha=>
 h f as r hp L w vs hl (fun g cs q=>hgl g cs (by rw[hg];exact q)) ha
theorem iZ.env{E E':Env}{Lo:Nat->Prop}{w0:World}{ι:eg}{H:Hp}{w:World}(hg:E'.glob=E.glob)(hc:∀c,codeOk E' c=codeOk E c)(S:iZ E Lo w0 ι H w):iZ E' Lo w0 ι H w:=
 ⟨S.below,S.lo,S.Pr,S.obj,S.inj,fun g cs h=>S.glob g cs (by rw[<-hg];exact h),fun b eN h1 h2=>by
  have:=S.uc b eN h1 h2
  cases eN<;>simp only[cz.uc]at this⊢
  simp only[hc];exact this,S.res⟩
theorem vU.env{E E':Env}{P:Program}{ic:Ic}(h:vU E P ic)(hg:E'.glob=E.glob)(hc:∀c,codeOk E' c=codeOk E c):vU E' P ic:=fun f as H v H2 hp Lo w0 ι w vs S ha=>
 (h f as H v H2 hp Lo w0 ι w vs (S.env hg.symm (fun c=>(hc c).symm)) ha).mono fun cv w' ⟨ι',h1,h2,h3,h4⟩=>⟨ι',h1,h2.env hg hc,h3,h4⟩
def KJ(a b:Pc):Prop:=∀f as r,a f as=some r->b f as=some r
def yA(a b:Ic):Prop:=∀f as H r,a f as H=some r->b f as H=some r
def yT(a b:Cd):Prop:=∀c ts H r,a c ts H=some r->b c ts H=some r
theorem yT.refl(a:Cd):yT a a:=fun _ _ _ _ h=>h
theorem yT.trans{a b c:Cd}(h:yT a b)(k:yT b c):yT a c:=fun _ _ _ _ q=>k _ _ _ _ (h _ _ _ _ q)
section
variable{E:Env}{rec HN:Cd}
theorem uP(h:yT rec HN):KJ (pK E rec) (pK E HN):=by
 intro f as r hr;unfold pK at hr⊢;cases mP:E.ov f as with
 |some q=>simp only[mP]at hr⊢;exact hr
 |none=>
  simp only[mP]at hr⊢;cases mI:E.fn f with
  |none=>simp only[mI]at hr;cases hr
  |some fi=>
   simp only[mI]at hr⊢;by_cases hd:(!(fi.pure||fi.fL))=true
   ·rw[if_pos hd]at hr;cases hr
   ·rw[if_neg hd]at hr⊢;cases lN:rec fi.code (as++aK3 (fi.ntmps-as.length) aZ) []with
    |none=>rw[lN]at hr;cases hr
    |some x=>rw[h _ _ _ _ lN];rw[lN]at hr;exact hr
theorem Oa(h:yT rec HN):yA (vh E rec) (vh E HN):=by
 intro f as H r hr;unfold vh at hr⊢;cases mI:E.fn f with
 |none=>simp only[mI]at hr;cases hr
 |some fi=>
  simp only[mI]at hr⊢;cases lN:rec fi.code (as++aK3 (fi.ntmps-as.length) aZ) H with
  |none=>rw[lN]at hr;cases hr
  |some x=>rw[h _ _ _ _ lN];rw[lN]at hr;exact hr
theorem qB(h:yT rec HN):yA (ue E rec) (ue E HN):=by
 intro f as H r hr;unfold ue at hr⊢;cases mP:E.sj f as H with
 |some q=>simp only[mP]at hr⊢;exact hr
 |none=>simp only[mP]at hr⊢;exact Oa h _ _ _ _ hr
theorem xX(h:yT rec HN):yA (yI rec) (yI HN):=by
 intro l as H r hr;simp only[yI]at hr⊢;cases q0:H[l]? with
 |none=>simp only[q0]at hr;cases hr
 |some b0=>
  cases b0 with
  |cells _ _=>simp only[q0]at hr;cases hr
  |map _ _ _=>simp only[q0]at hr;cases hr
  |kT _ _=>simp only[q0]at hr;cases hr
  |loop st nV ts ps assign body=>
   cases st<;>try (simp only[q0]at hr;cases hr)
   simp only[q0]at hr⊢;cases q1:Ms ts ps as with
   |none=>simp only[q1]at hr;cases hr
   |some dx=>
    simp only[q1]at hr⊢;cases q2:rec assign dx H with
    |none=>simp only[q2]at hr;cases hr
    |some x=>
     obtain⟨ex,t1,H1⟩:=x;rw[h _ _ _ _ q2];cases ex<;>try (simp only[q2]at hr;cases hr)
     simp only[q2]at hr⊢;cases q3:H1[l]? with
     |none=>simp only[q3]at hr;cases hr
     |some b1=>
      cases b1 with
      |cells _ _=>simp only[q3]at hr;cases hr
      |map _ _ _=>simp only[q3]at hr;cases hr
      |kT _ _=>simp only[q3]at hr;cases hr
      |loop st1 amQ Ad ps1 as1 b1=>
       cases st1<;>try (simp only[q3]at hr;cases hr)
       simp only[q3]at hr⊢;cases q4:rec body t1 (H1.set l (.loop .busy amQ Ad ps1 as1 b1))with
       |none=>rw[q4]at hr;cases hr
       |some y=>rw[h _ _ _ _ q4];rw[q4]at hr;exact hr
variable{pc Vb:Pc}{ic TX yc VL:Ic}{dr:Bool}
theorem map_le{α β:Type}{a b:Option α}{g:α->β}{r:β}(Hd:∀x,a=some x->b=some x)(h:a.map g=some r):b.map g=some r:=by
 cases a with
 |none=>cases h
 |some x=>rw[Hd x rfl];exact h
theorem Wo(hp:KJ pc Vb)(hi:yA ic TX)(hy:yA yc VL){H:Hp}{fv:AV}{args:List AV}{r}(h:pA E pc ic yc dr H fv args=some r):pA E Vb TX VL dr H fv args=some r:=by
 unfold pA at h⊢;cases fv with
 |func f first cap=>
  simp only at h⊢;have key:∀(c:Bool) (h:(if c=true then match bW H (first++args++cap)with
    |some (as,bs)=>aN0 (fun v=>(v,if bR v=true then cE.looks bs else cE.marks bs)) (pc f as)
    |none=>none
   else aN0 (fun x=>(x.fst,cE.Ee x.snd)) (ic f (first++args++cap) H))=some r),
   (if c=true then match bW H (first++args++cap)with
    |some (as,bs)=>aN0 (fun v=>(v,if bR v=true then cE.looks bs else cE.marks bs)) (Vb f as)
    |none=>none
   else aN0 (fun x=>(x.fst,cE.Ee x.snd)) (TX f (first++args++cap) H))=some r:=by
   intro c h;cases c with
   |true=>
    rw[if_pos rfl]at h⊢;cases hf:bW H (first++args++cap)with
    |none=>rw[hf]at h;cases h
    |some x=>rw[hf]at h;exact map_le (fun _ q=>hp _ _ _ q) h
   |false=>
    rw[if_neg (by simp)]at h⊢;exact map_le (fun _ q=>hi _ _ _ _ q) h
  split at h<;>exact key _ h
 |yield l=>exact map_le (fun _ q=>hy _ _ _ _ q) h
 |_=>cases h
theorem WJ(hp:KJ pc Vb)(hi:yA ic TX)(hy:yA yc VL){ts:List AV}{H:Hp}{aL:Nat}{o:Oper}{r}(h:eL E pc ic yc dr ts H aL o=some r):eL E Vb TX VL dr ts H aL o=some r:=by
 by_cases hc:∃c f,o.op=.call c/\c.callee=.value f
 ·obtain⟨c,f,h1,h2⟩:=hc;unfold eL at h⊢;simp only[h1,h2]at h⊢;cases q1:cn ts f with
  |none=>simp only[q1]at h;cases h
  |some fv=>
   cases q2:oa ts c.args.toList with
   |none=>simp only[q1,q2]at h;cases h
   |some as=>
    simp only[q1,q2]at h⊢;exact Wo hp hi hy h
 ·rw[<-h];unfold eL
  split<;>try rfl
  rename_i c Vu
  split<;>try rfl
  rename_i f pU;exact absurd ⟨c,f,Vu,pU⟩ hc
theorem Ar(hp:KJ pc Vb)(hi:yA ic TX)(hy:yA yc VL){ops:List Oper}{ts:List AV}{H:Hp}{aL:Nat}{o:Oper}{r}(h:cK E pc ic yc dr ops aL o ts H=some r):cK E Vb TX VL dr ops aL o ts H=some r:=by
 unfold cK at h⊢;by_cases hw:b6 ops ts o=true
 ·rw[if_pos hw]at h⊢;cases q:eL E pc ic yc dr ts H aL o with
  |none=>rw[q]at h;cases h
  |some x=>rw[WJ hp hi hy q];rw[q]at h;exact h
 ·rw[if_neg hw]at h⊢;exact h
theorem Er(hp:KJ pc Vb)(hi:yA ic TX)(hy:yA yc VL){ops:List Oper}:∀{rest:List Oper} {ts:List AV} {H:Hp} {r},Cq E pc ic yc ops rest ts H=some r->Cq E Vb TX VL ops rest ts H=some r
 |[],_,_,_,h=>h
 |o::rest,ts,H,r,h=>by
  unfold Cq at h⊢;cases q:cK E pc ic yc false ops H.length o ts H with
  |none=>rw[q]at h;cases h
  |some x=>
   rw[Ar hp hi hy q];rw[q]at h;exact Er hp hi hy h
theorem A8(hp:KJ pc Vb)(hi:yA ic TX)(hy:yA yc VL){ops:List Oper}:∀{rest:List Oper} {aL:Nat} {ts:List AV} {H:Hp} {r},s9 E pc ic yc ops rest aL ts H=some r->s9 E Vb TX VL ops rest aL ts H=some r
 |[],_,_,_,_,h=>h
 |o::rest,aL,ts,H,r,h=>by
  unfold s9 at h⊢;by_cases hc:(cu E o&&!mD H[aL]?)=true
  ·rw[if_pos hc]at h;cases h
  rw[if_neg hc]at h⊢;cases q:cK E pc ic yc true ops aL o ts H with
  |none=>rw[q]at h;cases h
  |some x=>
   rw[Ar hp hi hy q];rw[q]at h;obtain⟨dx,e⟩:=x;simp only at h⊢;cases q2:s9 E pc ic yc ops rest (if cu E o then aL+1 else aL) dx (e.app H)with
   |none=>rw[q2]at h;cases h
   |some y=>
    rw[A8 hp hi hy q2];rw[q2]at h;exact h
theorem XX(hp:KJ pc Vb)(hi:yA ic TX)(hy:yA yc VL){id:Nat}{ops:List Oper}{ts:List AV}{H:Hp}{r}(h:Br E pc ic yc id ops ts H=some r):Br E Vb TX VL id ops ts H=some r:=by
 unfold Br at h⊢;cases q:s9 E pc ic yc ops ops H.length ts (H++aK3 (ops.countP (cu E)) eP)with
 |none=>rw[q]at h;cases h
 |some x=>rw[A8 hp hi hy q];rw[q]at h;exact h
theorem Xw(h:yT rec HN):yT (dI E rec) (dI E HN):=by
 intro c ts H r hr;have hp:=uP (E:=E) h;have hi:=qB (E:=E) h;have hy:=xX h;cases c with
 |skip=>exact hr
 |label _=>exact hr
 |region id ops draw=>
  cases draw with
  |true=>
   simp only[dI,if_true]at hr⊢;exact map_le (fun _ q=>XX hp hi hy q) hr
  |false=>
   simp only[dI,aKT,if_false]at hr⊢;exact map_le (fun _ q=>Er hp hi hy q) hr
 |seq a b=>
  simp only[dI]at hr⊢;cases q:rec a ts H with
  |none=>rw[q]at hr;cases hr
  |some x=>
   rw[h _ _ _ _ q];rw[q]at hr;obtain⟨ex,t,H'⟩:=x;cases ex with
   |normal=>exact h _ _ _ _ hr
   |exit _=>exact hr
   |ret=>exact hr
 |cond c a b=>
  simp only[dI]at hr⊢;cases q:cn ts c with
  |none=>rw[q]at hr;cases hr
  |some v=>
   rw[q]at hr;cases v<;>try (cases hr)
   simp only at hr⊢;exact h _ _ _ _ hr
 |block id body=>
  simp only[dI]at hr⊢;cases q:rec body ts H with
  |none=>rw[q]at hr;cases hr
  |some x=>rw[h _ _ _ _ q];rw[q]at hr;exact hr
 |loop body=>
  simp only[dI]at hr⊢;cases q:rec body ts H with
  |none=>rw[q]at hr;cases hr
  |some x=>
   rw[h _ _ _ _ q];rw[q]at hr;obtain⟨ex,t,H'⟩:=x;cases ex with
   |normal=>exact h _ _ _ _ hr
   |exit _=>exact hr
   |ret=>exact hr
 |exit id=>exact hr
 |ret=>exact hr
 |rangeFunc g ps assign body=>
  simp only[dI]at hr⊢;cases q:cn ts g with
  |none=>rw[q]at hr;cases hr
  |some v=>
   rw[q]at hr;cases v<;>try (cases hr)
   rename_i f first cap
   simp only at hr⊢;cases q1:vh E rec f (first++[.yield H.length]++cap) (H++[.loop .ready none ts ps.toList assign body])with
   |none=>rw[q1]at hr;cases hr
   |some x=>
    rw[Oa h _ _ _ _ q1];rw[q1]at hr;obtain⟨v,H2⟩:=x;simp only at hr⊢;cases q2:H2[H.length]? with
    |none=>rw[q2]at hr;cases hr
    |some b=>
     rw[q2]at hr;cases b with
     |cells _ _=>cases hr
     |map _ _ _=>cases hr
     |kT _ _=>cases hr
     |loop st nV Oq Ou OC b3=>
      simp only at hr⊢;by_cases hb:st=.busy
      ·rw[if_pos hb]at hr;cases hr
      ·rw[if_neg hb]at hr⊢;cases nV with
       |none=>exact hr
       |some c=>exact h _ _ _ _ hr
 |goto _=>cases hr
 |scope _=>cases hr
 |refuse _=>cases hr
theorem Jm:∀n,yT (dK E n) (dK E (n+1))
 |0=>fun _ _ _ _ h=>by cases h
 |n+1=>by
  show yT (dI E (dK E n)) (dI E (dK E (n+1)))
  exact Xw (Jm n)
theorem jc{n m:Nat}(h:n<=m):yT (dK E n) (dK E m):=by
 induction h with
 |refl=>exact yT.refl _
 |step _ ih=>exact ih.trans (Jm _)
theorem qt{n m:Nat}(h:n<=m):KJ (call E n) (call E m):=uP (jc h)
end
def Cv(E:Env)(c:Code)(ts:List AV)(H:Hp)(Q:Ex->List AV->Hp->Prop):Prop:=∃n ex dx H',dK E n c ts H=some (ex,dx,H')/\Q ex dx H'
def Fn(E:Env)(f:Nat)(args:List AV)(Q:AV->Prop):Prop:=∃n r,call E n f args=some r/\Q r
def Fi(E:Env)(f:Nat)(args:List AV)(H:Hp)(Q:AV->Hp->Prop):Prop:=∃n r H',ue E (dK E n) f args H=some (r,H')/\Q r H'
def LS(E:Env)(ops rest:List Oper)(ts:List AV)(H:Hp)(Q:List AV->Hp->Prop):Prop:=
 ∃n dx H',Cq E (pK E (dK E n)) (ue E (dK E n)) (yI (dK E n)) ops rest ts H=some (dx,H')/\Q dx H'
section
variable{E:Env}{ts:List AV}{H:Hp}{Q:Ex->List AV->Hp->Prop}
theorem Cv.mono{c:Code}{Q':Ex->List AV->Hp->Prop}(h:Cv E c ts H Q)(hq:∀ex dx H',Q ex dx H'->Q' ex dx H'):Cv E c ts H Q':=by obtain⟨n,ex,dx,H',h1,h2⟩:=h;exact⟨n,ex,dx,H',h1,hq _ _ _ h2⟩
theorem Fn.mono{f:Nat}{args:List AV}{Q Q':AV->Prop}(h:Fn E f args Q)(hq:∀r,Q r->Q' r):Fn E f args Q':=by obtain⟨n,r,h1,h2⟩:=h;exact⟨n,r,h1,hq _ h2⟩
theorem Cv.skip(h:Q .normal ts H):Cv E .skip ts H Q:=⟨1,_,_,_,rfl,h⟩
theorem Cv.label{l}(h:Q .normal ts H):Cv E (.label l) ts H Q:=⟨1,_,_,_,rfl,h⟩
theorem Cv.exit{id:Nat}(h:Q (.exit id) ts H):Cv E (.exit id) ts H Q:=⟨1,_,_,_,rfl,h⟩
theorem Cv.ret(h:Q .ret ts H):Cv E .ret ts H Q:=⟨1,_,_,_,rfl,h⟩
theorem Cv.seq{a b:Code}(h:Cv E a ts H fun ex dx H'=>match ex with|.normal=>Cv E b dx H' Q|e=>Q e dx H'):Cv E (.seq a b) ts H Q:=by
 obtain⟨n,ex,dx,H',h1,h2⟩:=h;cases ex with
 |normal=>
  obtain⟨m,ex2,JA,H2,k1,k2⟩:=h2;refine⟨max n m+1,ex2,JA,H2,?_,k2⟩;show dI E (dK E (max n m)) (.seq a b) ts H=_
  unfold dI;simp only[jc (aNY n m) _ _ _ _ h1];exact jc (aNX n m) _ _ _ _ k1
 |exit id=>
  refine⟨n+1,_,_,_,?_,h2⟩;show dI E (dK E n) (.seq a b) ts H=_
  unfold dI;simp only[h1]
 |ret=>
  refine⟨n+1,_,_,_,?_,h2⟩;show dI E (dK E n) (.seq a b) ts H=_
  unfold dI;simp only[h1]
theorem Cv.cond{c:Operand}{a b:Code}{t:Bool}(hc:cn ts c=some (.bool t))(h:Cv E (if t then a else b) ts H Q):Cv E (.cond c a b) ts H Q:=by
 obtain⟨n,ex,dx,H',h1,h2⟩:=h;refine⟨n+1,ex,dx,H',?_,h2⟩;show dI E (dK E n) (.cond c a b) ts H=_
 unfold dI;simp only[hc];exact h1
theorem Cv.block{id:Nat}{c:Code}(h:Cv E c ts H fun ex dx H'=>match ex with|.exit BB=>if BB=id then Q .normal dx H' else Q (.exit BB) dx H'|e=>Q e dx H'):Cv E (.block id c) ts H Q:=by
 obtain⟨n,ex,dx,H',h1,h2⟩:=h;cases ex with
 |normal=>
  refine⟨n+1,_,_,_,?_,h2⟩;show dI E (dK E n) (.block id c) ts H=_
  unfold dI;simp only[h1]
 |ret=>
  refine⟨n+1,_,_,_,?_,h2⟩;show dI E (dK E n) (.block id c) ts H=_
  unfold dI;simp only[h1]
 |exit BB=>
  simp only at h2;by_cases he:BB=id
  ·rw[if_pos he]at h2;refine⟨n+1,_,_,_,?_,h2⟩;show dI E (dK E n) (.block id c) ts H=_
   unfold dI;simp only[h1,if_pos he]
  ·rw[if_neg he]at h2;refine⟨n+1,_,_,_,?_,h2⟩;show dI E (dK E n) (.block id c) ts H=_
   unfold dI;simp only[h1,if_neg he]
theorem Cv.loop{body:Code}(I:Nat->List AV->Hp->Prop)(N7:∀k ts H,I k ts H->Cv E body ts H fun ex dx H'=>match ex with
  |.normal=>∃k',k'<k/\I k' dx H'
  |e=>Q e dx H'):∀(k:Nat) (ts:List AV) (H:Hp),I k ts H->Cv E (.loop body) ts H Q:=by
 intro k;induction k using Nat.strongRecOn with
 |_ k ih=>
  intro ts H hI;obtain⟨n,ex,dx,H',h1,h2⟩:=N7 k ts H hI;cases ex with
  |normal=>
   obtain⟨k',hk,hI'⟩:=h2;obtain⟨m,ex2,JA,H2,k1,k2⟩:=ih k' hk dx H' hI';refine⟨max n m+1,ex2,JA,H2,?_,k2⟩;show dI E (dK E (max n m)) (.loop body) ts H=_
   unfold dI;simp only[jc (aNY n m) _ _ _ _ h1];exact jc (aNX n m) _ _ _ _ k1
  |ret=>
   refine⟨n+1,_,_,_,?_,h2⟩;show dI E (dK E n) (.loop body) ts H=_
   unfold dI;simp only[h1]
  |exit id=>
   refine⟨n+1,_,_,_,?_,h2⟩;show dI E (dK E n) (.loop body) ts H=_
   unfold dI;simp only[h1]
theorem Cv.round{body:Code}(h:Cv E body ts H fun ex dx H'=>match ex with|.normal=>Cv E (.loop body) dx H' Q|e=>Q e dx H'):Cv E (.loop body) ts H Q:=by
 obtain⟨n,ex,dx,H',h1,h2⟩:=h;cases ex with
 |normal=>
  obtain⟨m,ex2,JA,H2,k1,k2⟩:=h2;refine⟨max n m+1,ex2,JA,H2,?_,k2⟩;show dI E (dK E (max n m)) (.loop body) ts H=_
  unfold dI;simp only[jc (aNY n m) _ _ _ _ h1];exact jc (aNX n m) _ _ _ _ k1
 |ret=>
  refine⟨n+1,_,_,_,?_,h2⟩;show dI E (dK E n) (.loop body) ts H=_
  unfold dI;simp only[h1]
 |exit id=>
  refine⟨n+1,_,_,_,?_,h2⟩;show dI E (dK E n) (.loop body) ts H=_
  unfold dI;simp only[h1]
theorem Cv.region{id:Nat}{ops:Array Oper}(h:LS E ops.toList ops.toList ts H (Q .normal)):Cv E (.region id ops false) ts H Q:=by
 obtain⟨n,dx,H',h1,h2⟩:=h;refine⟨n+1,_,_,_,?_,h2⟩;show dI E (dK E n) (.region id ops false) ts H=_
 unfold dI;simp only[h1,aKT,if_false,aLT]
variable{ops rest:List Oper}{q:List AV->Hp->Prop}
theorem LS.nil(h:q ts H):LS E ops [] ts H q:=⟨0,_,_,rfl,h⟩
theorem LS.step{o:Oper}{Ad:List AV}{e:cE}(h1:cK E (fun _ _=>none) (fun _ _ _=>none) (fun _ _ _=>none) false ops H.length o ts H=some (Ad,e))(h:LS E ops rest Ad (e.app H) q):LS E ops (o::rest) ts H q:=by obtain⟨n,dx,H',k1,k2⟩:=h;refine⟨n,dx,H',?_,k2⟩;unfold Cq;rw[Ar (fun _ _ _ h=>by cases h) (fun _ _ _ _ h=>by cases h) (fun _ _ _ _ h=>by cases h) h1];exact k1
end
def Snd(E:Env)(P:Program)(c:Code)(ts:List AV)(H:Hp)(Q:Ex->List AV->Hp->Prop):Prop:=
 ∀(F:Fence),mS F->∀(B:Nat) (Lo:Nat->Prop) (w0:World) (ι:eg) (w:World) (a:Act),w0.heap.size<=B->B<=w.heap.size->St E B Lo w0 ι H ts a w->
  ∀K:Exit->Act->World->Prop,(∀ex dx H',Q ex dx H'->D9 E B Lo w0 ι H w dx H' (K ex.up))->c.wpIn F 0 P K a w
section
variable{E:Env}{P:Program}{ts:List AV}{H:Hp}{Q:Ex->List AV->Hp->Prop}
theorem Snd.mono{c:Code}{Q':Ex->List AV->Hp->Prop}(h:Snd E P c ts H Q)(hq:∀ex dx H',Q ex dx H'->Q' ex dx H'):Snd E P c ts H Q':=by
 intro F hF B Lo w0 ι w a hB Ja S K hK;exact h F hF B Lo w0 ι w a hB Ja S K fun ex dx H' q=>hK ex dx H' (hq _ _ _ q)
theorem Snd.seq{c d:Code}(h:Snd E P c ts H fun ex dx H'=>match ex with|.normal=>Snd E P d dx H' Q|e=>Q e dx H'):Snd E P (.seq c d) ts H Q:=by
 intro F hF B Lo w0 ι w a hB Ja S K hK;refine wpIn_seq (h F hF B Lo w0 ι w a hB Ja S _ fun ex dx H' q a1 w1 ι1 k1 k2 k3=>?_);cases ex with
 |normal=>exact q F hF B Lo w0 ι1 w1 a1 hB (Nat.le_trans Ja k2.size) k3 K fun ex2 JA H2 q2=>(hK ex2 JA H2 q2).chain k1 k2
 |exit id=>exact hK _ _ _ q _ _ _ k1 k2 k3
 |ret=>exact hK _ _ _ q _ _ _ k1 k2 k3
theorem Snd.pure(V:Valid E P){f:Nat}{fi:FnI}(mI:E.fn f=some fi){args:List AV}{r:AV}
  (h:Snd E P fi.code (args++aK3 (fi.ntmps-args.length) aZ) [] fun ex JA H2=>(∀id,ex≠ .exit id)/\∃rs bs,iW H2 E JA fi.results=some rs/\bW H2 [kU rs]=some ([r],bs))
  {L:Nat->Prop} {w:World} {vs:Array Value} (kO:∀c,L c->c<w.heap.size) (hg:DV E L w) (ha:Rs cS w L args vs.toList):
  r9 P ((callFunc f vs).run P w) (fun v w'=>Below w.heap.size w w'/\R cS w' L r v):=by
 refine .inr (.inl ⟨f,vs,w,mh V mI vs w,?_⟩);obtain⟨fn,f1,f2,f3,f4,f5,f6⟩:=V.fn f fi mI;have hL:Live L cS ([]:Hp)=L:=by
  funext c;refine propext ⟨?_,.inl⟩;rintro(h|⟨b,eN,co,h,_⟩)
  ·exact h
  ·simp at h
 have S:iZ E L w cS [] w:=by
  refine⟨Below.refl _ _,kO,?_,?_,?_,?_,?_,?_⟩
  ·intro b p h;cases h
  ·intro b eN h;simp at h
  ·intro b b' eN blk' c co co' h;simp at h
  ·rw[hL];exact hg
  ·intro b eN h;simp at h
  ·intro b p h;cases h
 refine callsIn_of_wp_marks f1 f2 trivial ?_;have hl:=ha.length;simp only[Array.length_toList]at hl;refine h Fence.wide (.inl rfl) w.heap.size L w cS w _ (aKR _) (aKR _) ⟨S,?_,⟨[],by simp,rfl,by simp⟩⟩ _ fun ex JA H2 hq a' w' ι' k1 k2 k3=>?_
 ·simp only[Array.toList_append,Array.toList_replicate];rw[f3,<-hl,hL];exact ha.append (uQ _)
 ·obtain⟨hex,rs,bs,kg,gg⟩:=hq;obtain⟨ks,n1,n2,n3⟩:=k3.mks;have nW:LeavesInM Fence.wide 0 P fn a'.tmps (SZ fun v w'=>Below w.heap.size w w'/\R cS w' L r v) a'.defers .returning w':=by
   rw[n2];refine qK V (by rw[f4];exact kg) ks w' k3.PS k3.tm n1 n3 (aKR _) fun w2 cv b1 b2 b3 b4 b5=>?_
   refine⟨b2.below,?_⟩;have so:Rs ι' w2 (Live L ι' H2) [kU rs] [cv]:=by simp only[Rs];exact⟨_,_,rfl,b5,rfl⟩
   have:=th b2 so gg
   simp only[Rs]at this;obtain⟨y,ys,q1,q2,_⟩:=this;cases q1;exact R.ext (xy fun c hc=>.inl hc) _ _ _ _ (eg.le_refl _) q2
  cases ex with
  |normal=>exact nW
  |ret=>exact nW
  |exit id=>exact absurd rfl (hex id)
structure Iter(w:World)(L:Nat->Prop)(r bm since:Nat)(es:Array MapEntry)(clock:Nat)(is:List Nat):Prop where
 it:w.heap[r]?=some (.mapIter (some bm) since (is.map fun i=>((es[i]?).map (·.born)).getD 0).toArray clock)
 mp:w.heap[bm]?=some (.map es clock)
 nr:¬L r
 nm:¬L bm
theorem Iter.ext{w w':World}{L L':Nat->Prop}{r bm since:Nat}{es:Array MapEntry}{clock:Nat}{is:List Nat}(h:Iter w L r bm since es clock is)(X:Ext w L w' L'):Iter w' L' r bm since es clock is:=
 ⟨(X.keep h.it h.nr).1,(X.keep h.mp h.nm).1,(X.keep h.it h.nr).2,(X.keep h.mp h.nm).2⟩
end
def gt(ts:List AV)(i:Nat):AV:=ts[i]?.getD aZ
theorem bJ{ts:List AV}{i:Nat}{v:AV}(h:i<ts.length):gt (ts.set i v) i=v:=by unfold gt;rw[List.getElem?_set_self h];rfl
theorem dF{ts:List AV}{i j:Nat}{v:AV}(h:i≠j):gt (ts.set i v) j=gt ts j:=by unfold gt;rw[List.getElem?_set_ne h]
section
variable{E:Env}{pc:Pc}{ic yc:Ic}{dr:Bool}{ops:List Oper}{aL:Nat}{ts:List AV}{H:Hp}
theorem cW{i:Nat}:cn ts (.tmp i)=some (gt ts i):=rfl
theorem ef{k:IntKind}{n:Int}:cn ts (.const (.int k n))=some (.int k n):=rfl
theorem Gx{b:Bool}:cn ts (.const (.bool b))=some (.bool b):=rfl
theorem oH{f:Nat}:cn ts (.func f)=some (.func f [] []):=rfl
theorem Wf{g:Nat}:cn ts (.global g)=some (.sf g 0):=rfl
theorem tZ:cn ts (.const (.slice none 0 0))=some .aH:=rfl
theorem eQ:oa ts []=some []:=rfl
variable{d:Nat}{t:Nat}{p:String}{af:Array Edge}
theorem abl{x:Operand}{v:AV}(h:cn ts x=some v):cK E pc ic yc dr ops aL ⟨some d,.move x,t,p,af,none⟩ ts H=some (ts.set d v,.bU []):=by simp[cK,b6,eL,h,bK]
theorem U4{x:Operand}{v:AV}(h:cn ts x=some v):cK E pc ic yc dr ops aL ⟨some d,.assign x,t,p,af,none⟩ ts H=some (ts.set d v,.bU []):=by simp[cK,b6,eL,h,bK]
theorem ac6{c a b:Operand}{q:Bool}{v:AV}(hc:cn ts c=some (.bool q))(h:cn ts (if q then a else b)=some v):cK E pc ic yc dr ops aL ⟨some d,.pick c a b,t,p,af,none⟩ ts H=some (ts.set d v,.bU []):=by
 simp only[cK,b6,eL,hc,bK,if_true];cases q<;>simp_all
theorem ZK{op:BinOp}{t1 t2:Nat}{x y:Operand}{u v r:AV}(hx:cn ts x=some u)(hy:cn ts y=some v)(h:dC E (bI x||bI y) op t1 u v=some r):
  cK E pc ic yc dr ops aL ⟨some d,.binOp op t1 x y t2,t,p,af,none⟩ ts H=some (ts.set d r,.bU []):=by
 simp[cK,b6,eL,hx,hy,h,bK]
theorem Ks{t1:Nat}{x y:Operand}{u v r:AV}(hx:cn ts x=some u)(hy:cn ts y=some v)(h:cF E t1 u v=some r):
  cK E pc ic yc dr ops aL ⟨some d,.indexAddr t1 x y,t,p,af,none⟩ ts H=some (ts.set d r,.bU []):=by
 simp[cK,b6,eL,hx,hy,h,bK]
theorem aev{t1:Nat}{x:Operand}{u r:AV}(hx:cn ts x=some u)(h:gT E H t1 u=some r):
  cK E pc ic yc dr ops aL ⟨some d,.load t1 x,t,p,af,none⟩ ts H=some (ts.set d r,.bU []):=by
 simp[cK,b6,eL,hx,h,bK]
theorem WN{t1:Nat}{x y:Operand}{u v:AV}{l:List (Nat×cz)}(hx:cn ts x=some u)(hy:cn ts y=some v)(h:iO E H t1 u v=some l):
  cK E pc ic yc dr ops aL ⟨none,.store t1 x y,t,p,af,none⟩ ts H=some (ts,.bU l):=by
 simp[cK,b6,eL,hx,hy,h,bK]
theorem Ya{t1:Nat}{z:AV}(h:fR E t1=some z):
  cK E pc ic yc dr ops aL ⟨some d,.alloc t1,t,p,af,none⟩ ts H=some (ts.set d (.b9 aL 0),.bU [(aL,.cells .live z.cells)]):=by
 simp[cK,b6,eL,h,bK]
theorem Pe{bi:Builtin}{args:Array Operand}{eO:Array Nat}{al:List AV}{r:AV}{l:List (Nat×cz)}(ha:oa ts args.toList=some al)(h:aV E H aL bi eO.toList al=some (r,l)):
  cK E pc ic yc dr ops aL ⟨some d,.call {callee:=.builtin bi,args:=args,argTypes:=eO},t,p,af,none⟩ ts H=some (ts.set d r,.bU l):=by
 simp[cK,b6,eL,ha,h,bK]
end
section
variable{E:Env}{ops:List Oper}{rest:List Oper}{ts:List AV}{H:Hp}{q:List AV->Hp->Prop}{aL:Nat}
theorem SX(pc:Pc):KJ (fun _ _=>none) pc:=fun _ _ _ h=>by cases h
theorem EH(ic:Ic):yA (fun _ _ _=>none) ic:=fun _ _ _ _ h=>by cases h
def qA(E:Env)(ops rest:List Oper)(aL:Nat)(ts:List AV)(H:Hp)(Q:List AV->Hp->List (List Nat×List Nat)->Prop):Prop:=
 ∃n dx H' l,s9 E (pK E (dK E n)) (ue E (dK E n)) (yI (dK E n)) ops rest aL ts H=some (dx,H',l)/\Q dx H' l
variable{Q:List AV->Hp->List (List Nat×List Nat)->Prop}
theorem qA.nil(h:Q ts H []):qA E ops [] aL ts H Q:=⟨0,_,_,_,rfl,h⟩
theorem qA.step{o:Oper}{Ad:List AV}{e:cE}(hl:cu E o=false)(h1:cK E (fun _ _=>none) (fun _ _ _=>none) (fun _ _ _=>none) true ops aL o ts H=some (Ad,e))
  (h:qA E ops rest aL Ad (e.app H) fun dx H' l=>Q dx H' (bH E ts o e::l)):qA E ops (o::rest) aL ts H Q:=by
 obtain⟨n,dx,H',l,k1,k2⟩:=h;refine⟨n,dx,H',_,?_,k2⟩;unfold s9;rw[hl];simp only[aNZ,aKT,if_false];rw[Ar (SX _) (EH _) (EH _) h1];simp only[k1]
theorem Cv.Ta{id:Nat}{ops:Array Oper}{Q:Ex->List AV->Hp->Prop}(hz:ops.toList.countP (cu E)=0)
  (h:qA E ops.toList ops.toList H.length ts H fun dx H' l=>(E.pairs id ops.toList.length).all (ur l)=true/\Q .normal dx H'):Cv E (.region id ops true) ts H Q:=by
 obtain⟨n,dx,H',l,h1,h2,h3⟩:=h;refine⟨n+1,_,_,_,?_,h3⟩;show dI E (dK E n) (.region id ops true) ts H=_
 unfold dI Br;simp only[if_true,hz,List.replicate_zero,List.append_nil,h1,h2,aLT]
theorem AX{H:Hp}{aL t e n b off len kc:Nat}{i ei:Bn}{x:AV}{xs cs:List AV}(hS:E.ty t=some i)(hu:i.cV=.slice e)(hE:E.ty e=some ei)(hl:qe x=some n)(hs:sV H ei.size x=some xs)(hn:0<n)
  (h0:ei.size≠0) (ho:xs.all df=true) (hz:ei.zero.isNone=false) (hb:(len+n)*ei.bytes<=gO) (hm:len+n<=4611686018427387904) (hH:H[b]?=some (.cells .live cs)) (hk:kc<len+n) (hc:off+len*ei.size<=cs.length):
  fQ E H aL false t (.aI b off len ei.size kc) x=some (.aI aL 0 (len+n) ei.size (len+n),[(b,.cells .dead []),(aL,.cells .live ((cs.drop off).take (len*ei.size)++xs))]):=by
 obtain⟨cV,isAgg,size,bytes,zero,eS⟩:=i;simp only at hu;subst hu;have h1:(decide (ei.size=0)||!xs.all df||ei.zero.isNone)=false:=by simp[h0,ho,hz]
 simp only[fQ,hS,hE,vD,aKT,if_false,hl,hs];rw[if_neg (by omega:¬n=0),h1];simp only[aKT,if_false,hH];rw[if_neg (by omega),if_pos ⟨trivial,hc,hb,hm⟩]
theorem builtin_append{H:Hp}{aL t u:Nat}{i:Bn}{e:Nat}{s x:AV}{r}(hu:E.ty u=some i)(hi:i.cV=.slice e)(h:fQ E H aL false t s x=r):aV E H aL .append [t,u] [s,x]=r:=by obtain⟨cV,isAgg,size,bytes,zero,eS⟩:=i;simp only at hi;subst hi;simp only[aV,hu];exact h
end
theorem uH{H:Hp}:(cE.bU []).app H=H:=rfl
theorem cQ{H:Hp}{b:Nat}{x:cz}(h:b<H.length):(cE.bU [(b,x)]).app H=H.set b x:=by simp[cE.app,eE,h]
inductive Tree where
 |nil
 |leaf (f:Nat) (l:List (Nat×wQ))
 |node (f:Nat) (a b:Tree)
def Tree.at:Tree->Nat->List (Nat×wQ)
 |.nil,_=>[]
 |.leaf g l,f=>if Nat.beq f g then l else []
 |.node g a b,f=>if Nat.blt f g then a.at f else b.at f
def Nu(k:Nat):List (Nat×wQ)->List AV->Option AV
 |[],_=>none
 |(j,K)::l,args=>if Nat.ble j k then(match RG K args with
  |some r=>some r
  |none=>Nu k l args)else Nu k l args
def Env.upto(E:Env)(T:Tree)(k:Nat):Env:={E with ov:=fun f args=>match Nu k (T.at f) args with
 |some r=>some r
 |none=>E.ov f args}
def Good(E:Env)(P:Program)(f:Nat)(as:List AV)(r:AV):Prop:=∀(L:Nat->Prop) (w:World) (vs:Array Value),(∀c,L c->c<w.heap.size)->DV E L w->
 Rs cS w L as vs.toList->r9 P ((callFunc f vs).run P w) (fun v w'=>Below w.heap.size w w'/\R cS w' L r v)
theorem BD{k:Nat}:∀{l:List (Nat×wQ)} {args:List AV} {r:AV},Nu k l args=some r->∃j K,(j,K)∈l/\j<=k/\(args,r)∈K
 |[],_,_,h=>by cases h
 |(j,K)::l,args,r,h=>by
  unfold Nu at h;split at h
  ·rename_i hj;split at h
   ·rename_i r' hr;cases h;exact⟨j,K,by simp,Nat.le_of_ble_eq_true hj,IX hr⟩
   ·obtain⟨j',K',h1,h2,h3⟩:=BD h;exact⟨j',K',by simp[h1],h2,h3⟩
  ·obtain⟨j',K',h1,h2,h3⟩:=BD h;exact⟨j',K',by simp[h1],h2,h3⟩
def ky(E:Env)(P:Program)(T:Tree)(k:Nat):Prop:=∀f j K,(j,K)∈T.at f->j<=k->∀as r,(as,r)∈K->Good E P f as r
theorem aes{E:Env}{P:Program}(V:Valid E P)(O:Eg E P){T:Tree}{k:Nat}(h:ky E P T k):Valid (E.upto T k) P/\Eg (E.upto T k) P:=by
 refine⟨V.ov _ _,⟨?_,O.sj.env rfl (fun c=>jZ _ _ c)⟩⟩;intro f as r hr L w vs hl hgl ha;simp only[Env.upto]at hr;split at hr
 ·rename_i r' hf;cases hr;obtain⟨j,K,h1,h2,h3⟩:=BD hf;exact h f j K h1 h2 as r h3 L w vs hl hgl ha
 ·exact O.ov f as r hr L w vs hl hgl ha
theorem ky.step{E:Env}{P:Program}(V:Valid E P)(O:Eg E P){T:Tree}{k n:Nat}(h:ky E P T k)(hc:∀f K,(k+1,K)∈T.at f->Yq (E.upto T k) n f K=true):ky E P T (k+1):=by
 intro f j K hm hj as r hr;rcases aN3 k j with iH|Hx
 ·have:j=k+1:=by omega
  subst this;have hk:=aLN.1 (hc f K hm) _ hr;simp only at hk;split at hk
  ·rename_i v hv;obtain⟨V',O'⟩:=aes V O h
   have:=JW V' O' n f as v hv
   rw[<-KF _ _ hk];exact fun L w vs hl hg ha=>this L w vs hl hg ha
  ·cases hk
 ·exact h f j K hm Hx as r hr
theorem ky.skip{E:Env}{P:Program}{T:Tree}{k:Nat}(h:ky E P T k)(hc:∀f K,(k+1,K)∉T.at f):ky E P T (k+1):=by
 intro f j K hm hj as r hr;rcases aN3 k j with iH|Hx
 ·have:j=k+1:=by omega
  subst this;exact absurd hm (hc f K)
 ·exact h f j K hm Hx as r hr
def Tree.leaves:Tree->List (Nat×Nat×wQ)
 |.nil=>[]
 |.leaf f l=>l.map fun x=>(f,x.1,x.2)
 |.node _ a b=>a.leaves++b.leaves
theorem tS:∀(T:Tree) (f j:Nat) (K:wQ),(j,K)∈T.at f->(f,j,K)∈T.leaves
 |.nil,_,_,_,h=>by simp[Tree.at]at h
 |.leaf g l,f,j,K,h=>by
  simp only[Tree.at]at h;split at h
  ·rename_i hf
   have:=Nat.eq_of_beq_eq_true hf
   subst this;exact List.mem_map.2 ⟨_,h,rfl⟩
  ·simp at h
 |.node g a b,f,j,K,h=>by
  simp only[Tree.at]at h;simp only[Tree.leaves,List.mem_append];split at h
  ·exact .inl (tS a f j K h)
  ·exact .inr (tS b f j K h)
theorem ky.next{E:Env}{P:Program}(V:Valid E P)(O:Eg E P){T:Tree}{k n:Nat}(h:ky E P T k)(hc:∀x,x∈T.leaves->x.2.1=k+1->Yq (E.upto T k) n x.1 x.2.2=true):ky E P T (k+1):=
 h.step V O fun f K hm=>hc (f,k+1,K) (tS T f _ K hm) rfl
theorem ky.zero{E:Env}{P:Program}{T:Tree}(hl:(T.leaves.filter fun x=>x.2.1==0).length=0):ky E P T 0:=by
 intro f j K hm hj as r hr;have h1:=tS T f j K hm
 have:(f,j,K)∈T.leaves.filter fun x=>x.2.1==0:=List.mem_filter.2 ⟨h1,by simp;omega⟩
 rw[List.length_eq_zero_iff.1 hl]at this;cases this
theorem Uu{T:Tree}{k:Nat}{l:Table}(hl:(T.leaves.filter fun x=>x.2.1==k).map (fun x=>(x.1,x.2.2))=l){f:Nat}{K:wQ}(hm:(k,K)∈T.at f):(f,K)∈l:=by rw[<-hl];exact List.mem_map.2 ⟨(f,k,K),List.mem_filter.2 ⟨tS T f k K hm,by simp⟩,rfl⟩
theorem ky.other{E:Env}{P:Program}{T:Tree}{k:Nat}{l:Table}(h:ky E P T k)(hl:(T.leaves.filter fun x=>x.2.1==k+1).map (fun x=>(x.1,x.2.2))=l)
  (hg:∀p,p∈l->∀e,e∈p.2->Good E P p.1 e.1 e.2):ky E P T (k+1):=by
 intro f j K hm hj as r hr;rcases aN3 k j with iH|Hx
 ·have:j=k+1:=by omega
  subst this;exact hg (f,K) (Uu hl hm) (as,r) hr
 ·exact h f j K hm Hx as r hr
variable{s:Nat}
end Dv
namespace Dv
open Go Go.RowKit
def mU(E:Env)(f:Nat)(al:List AV)(r:AV):Prop:=(∀fi,E.fn f=some fi->fi.pure=true)/\∃m,call E m f al=some r
def Mw:Pc:=fun _ _=>none
def yz:Ic:=fun _ _ _=>none
def nS(o:Oper):Bool:=match o.op with
 |.call c=>match c.callee with
  |.value _=>true
  |_=>false
 |_=>false
def Oj(E:Env)(ops:List Oper)(o:Oper)(ts:List AV)(H:Hp)(k:List AV->Hp->Prop):Prop:=
 match o.op with
 |.call {callee:=.value fo,args:=args,..}=>match cn ts fo,oa ts args.toList with
  |some (.func f first cap),some al=>∃wD bs r,bW H (first++al++cap)=some (wD,bs)/\mU E f wD r/\k (bK o.dst r ts) ((if bR r then cE.looks bs else cE.marks bs).app H)
  |_,_=>False
 |_=>match cK E Mw yz yz false ops H.length {o with guard:=none} ts H with
  |some (Ad,e)=>k Ad (e.app H)
  |none=>False
def uZ(E:Env)(ops:List Oper)(o:Oper)(ts:List AV)(H:Hp)(k:List AV->Hp->Prop):Prop:=
 if b6 ops ts o=true then Oj E ops o ts H k else k (bK o.dst aZ ts) H
def fA(E:Env)(ops:List Oper):List Oper->List AV->Hp->(List AV->Hp->Prop)->Prop
 |[],ts,H,q=>q ts H
 |o::rest,ts,H,q=>uZ E ops o ts H fun Ad H1=>fA E ops rest Ad H1 q
theorem rM{E:Env}{pc:Pc}{ic yc:Ic}{dr:Bool}{ops:List Oper}{aL:Nat}{o:Oper}{ts:List AV}{H:Hp}(h:b6 ops ts o=true):
  cK E pc ic yc dr ops aL o ts H=cK E pc ic yc dr ops aL {o with guard:=none} ts H:=by
 unfold cK;rw[if_pos h,if_pos (show b6 ops ts {o with guard:=none}=true from rfl)];rfl
theorem tY{E:Env}{pc:Pc}{ic yc:Ic}{dr:Bool}{ops:List Oper}{aL:Nat}{o:Oper}{ts:List AV}{H:Hp}(h:¬b6 ops ts o=true):
  cK E pc ic yc dr ops aL o ts H=some (bK o.dst aZ ts,.bU []):=by
 unfold cK;rw[if_neg h]
theorem LS.Xc{E:Env}{ops rest:List Oper}{ts:List AV}{H:Hp}{q:List AV->Hp->Prop}{d:Option Nat}{t:Nat}{p:String}{af:Array Edge}{g:Option (Nat×Bool)}{fo:Operand}{args:Array Operand}{eO:Array Nat}{f:Nat}{first cap al wD:List AV}{bs:List Nat}{r:AV}
  (hw:b6 ops ts ⟨d,.call {callee:=.value fo,args:=args,argTypes:=eO},t,p,af,g⟩=true) (hf:cn ts fo=some (.func f first cap)) (ha:oa ts args.toList=some al) (hz:bW H (first++al++cap)=some (wD,bs)) (hc:mU E f wD r)
  (h:LS E ops rest (bK d r ts) ((if bR r then cE.looks bs else cE.marks bs).app H) q):
  LS E ops (⟨d,.call {callee:=.value fo,args:=args,argTypes:=eO},t,p,af,g⟩::rest) ts H q:=by
 obtain⟨n,dx,H',k1,k2⟩:=h;obtain⟨hp,m,hm⟩:=hc;have l1:=jc (E:=E) (aNY n m);refine⟨max n m,dx,H',?_,k2⟩;unfold Cq;have h1:pK E (dK E (max n m)) f wD=some r:=qt (aNX n m) _ _ _ hm;have fZ:cK E (pK E (dK E (max n m))) (ue E (dK E (max n m))) (yI (dK E (max n m))) false ops H.length ⟨d,.call {callee:=.value fo,args:=args,argTypes:=eO},t,p,af,g⟩ ts H=some (bK d r ts,if bR r then cE.looks bs else cE.marks bs):=by
  rw[rM hw];cases jE:E.fn f with
  |none=>simp only[cK,b6,eL,hf,ha,pA,jE,hz,h1,if_true,aLT]
  |some fi=>
   obtain⟨code,ntmps,results,pu,du⟩:=fi
   have:=hp _ jE
   simp only at this;subst this;simp only[cK,b6,eL,hf,ha,pA,jE,hz,h1,if_true,aLT]
 rw[fZ];exact Er (uP l1) (qB l1) (xX l1) k1
theorem fA.ops{E:Env}{ops:List Oper}{q:List AV->Hp->Prop}:∀{rest:List Oper} {ts:List AV} {H:Hp},fA E ops rest ts H q->LS E ops rest ts H q
 |[],ts,H,h=>LS.nil h
 |o::rest,ts,H,h=>by
  unfold fA uZ at h;by_cases hw:b6 ops ts o=true
  ·rw[if_pos hw]at h;unfold Oj at h;split at h
   ·rename_i fo args eO h1;obtain⟨d,op,t,p,af,g⟩:=o;simp only at h1;subst h1;split at h
    ·rename_i f first cap al e1 e2
     obtain⟨wD,bs,r,g1,g2,g3⟩:=h;exact LS.Xc hw e1 e2 g1 g2 (fA.ops g3)
    ·exact h.elim
   ·split at h
    ·rename_i Ad e fZ;exact LS.step (by rw[rM hw];exact fZ) (fA.ops h)
    ·exact h.elim
  ·rw[if_neg hw]at h;exact LS.step (tY hw) (fA.ops h)
theorem Cv.run{E:Env}{id:Nat}{ops:Array Oper}{ts:List AV}{H:Hp}{Q:Ex->List AV->Hp->Prop}(h:fA E ops.toList ops.toList ts H (Q .normal)):Cv E (.region id ops false) ts H Q:=Cv.region h.ops
section
variable{E:Env}{ops rest:List Oper}{ts:List AV}{H:Hp}{q:List AV->Hp->Prop}{d t:Nat}{p:String}{af:Array Edge}
theorem cD:fA E ops [] ts H q=q ts H:=rfl
theorem qg{o:Oper}(hg:o.guard=none)(hc:∀c,o.op=.call c->∀f,c.callee≠ .value f):fA E ops (o::rest) ts H q=(match cK E Mw yz yz false ops H.length o ts H with
  |some (Ad,e)=>fA E ops rest Ad (e.app H) q
  |none=>False):=by
 show uZ E ops o ts H _=_
 have hw:b6 ops ts o=true:=by unfold b6;rw[hg]
 unfold uZ;rw[if_pos hw];unfold Oj
 split
 ·rename_i fo args eO h1;exact absurd rfl (hc _ h1 fo)
 ·rw[<-rM hw]
theorem Od{d:Option Nat}{fo:Operand}{args:Array Operand}{eO:Array Nat}:fA E ops (⟨d,.call {callee:=.value fo,args:=args,argTypes:=eO},t,p,af,none⟩::rest) ts H q=
  (match cn ts fo,oa ts args.toList with
  |some (.func f first cap),some al=>∃wD bs r,bW H (first++al++cap)=some (wD,bs)/\mU E f wD r/\fA E ops rest (bK d r ts) ((if bR r then cE.looks bs else cE.marks bs).app H) q
  |_,_=>False):=by
 show uZ E ops _ ts H _=_
 unfold uZ;rw[if_pos (show b6 ops ts _=true from rfl)];rfl
theorem run_move{x:Operand}:fA E ops (⟨some d,.move x,t,p,af,none⟩::rest) ts H q=(match cn ts x with
  |some v=>fA E ops rest (ts.set d v) H q
  |none=>False):=by
 rw[qg rfl (by intro c h;cases h)];cases hx:cn ts x with
 |none=>simp[cK,b6,eL,hx]
 |some v=>rw[abl hx];rfl
theorem run_assign{x:Operand}:fA E ops (⟨some d,.assign x,t,p,af,none⟩::rest) ts H q=(match cn ts x with
  |some v=>fA E ops rest (ts.set d v) H q
  |none=>False):=by
 rw[qg rfl (by intro c h;cases h)];cases hx:cn ts x with
 |none=>simp[cK,b6,eL,hx]
 |some v=>rw[U4 hx];rfl
theorem XN{c a b:Operand}:fA E ops (⟨some d,.pick c a b,t,p,af,none⟩::rest) ts H q=(match cn ts c with
  |some (.bool z)=>(match cn ts (if z then a else b)with
   |some v=>fA E ops rest (ts.set d v) H q
   |none=>False)
  |_=>False):=by
 rw[qg rfl (by intro c h;cases h)];cases hc:cn ts c with
 |none=>simp[cK,b6,eL,hc]
 |some u=>
  cases u<;>try (simp[cK,b6,eL,hc];done)
  rename_i z;cases hx:cn ts (if z then a else b)with
  |none=>simp only[cK,b6,eL,hc,hx,if_true,Option.map_none]
  |some v=>rw[ac6 hc hx];simp only[hx];rfl
theorem Vc{op:BinOp}{t1 t2:Nat}{x y:Operand}:fA E ops (⟨some d,.binOp op t1 x y t2,t,p,af,none⟩::rest) ts H q=(match cn ts x,cn ts y with
  |some u,some v=>(match dC E (bI x||bI y) op t1 u v with
   |some r=>fA E ops rest (ts.set d r) H q
   |none=>False)
  |_,_=>False):=by
 rw[qg rfl (by intro c h;cases h)];cases hx:cn ts x with
 |none=>simp[cK,b6,eL,hx]
 |some u=>
  cases hy:cn ts y with
  |none=>simp[cK,b6,eL,hx,hy]
  |some v=>
   cases hr:dC E (bI x||bI y) op t1 u v with
   |none=>simp[cK,b6,eL,hx,hy,hr]
   |some r=>rw[ZK hx hy hr];simp only[hr];rfl
theorem HO{t1:Nat}{x y:Operand}:fA E ops (⟨some d,.indexAddr t1 x y,t,p,af,none⟩::rest) ts H q=(match cn ts x,cn ts y with
  |some u,some v=>(match cF E t1 u v with
   |some r=>fA E ops rest (ts.set d r) H q
   |none=>False)
  |_,_=>False):=by
 rw[qg rfl (by intro c h;cases h)];cases hx:cn ts x with
 |none=>simp[cK,b6,eL,hx]
 |some u=>
  cases hy:cn ts y with
  |none=>simp[cK,b6,eL,hx,hy]
  |some v=>
   cases hr:cF E t1 u v with
   |none=>simp[cK,b6,eL,hx,hy,hr]
   |some r=>rw[Ks hx hy hr];simp only[hr];rfl
theorem run_load{t1:Nat}{x:Operand}:fA E ops (⟨some d,.load t1 x,t,p,af,none⟩::rest) ts H q=(match cn ts x with
  |some u=>(match gT E H t1 u with
   |some r=>fA E ops rest (ts.set d r) H q
   |none=>False)
  |none=>False):=by
 rw[qg rfl (by intro c h;cases h)];cases hx:cn ts x with
 |none=>simp[cK,b6,eL,hx]
 |some u=>
  cases hr:gT E H t1 u with
  |none=>simp[cK,b6,eL,hx,hr]
  |some r=>rw[aev hx hr];simp only[hr];rfl
theorem run_store{t1:Nat}{x y:Operand}:fA E ops (⟨none,.store t1 x y,t,p,af,none⟩::rest) ts H q=(match cn ts x,cn ts y with
  |some u,some v=>(match iO E H t1 u v with
   |some l=>fA E ops rest ts ((cE.bU l).app H) q
   |none=>False)
  |_,_=>False):=by
 rw[qg rfl (by intro c h;cases h)];cases hx:cn ts x with
 |none=>simp[cK,b6,eL,hx]
 |some u=>
  cases hy:cn ts y with
  |none=>simp[cK,b6,eL,hx,hy]
  |some v=>
   cases hr:iO E H t1 u v with
   |none=>simp[cK,b6,eL,hx,hy,hr]
   |some l=>rw[WN hx hy hr];simp only[hr]
theorem Tz{t1:Nat}:fA E ops (⟨some d,.alloc t1,t,p,af,none⟩::rest) ts H q=(match fR E t1 with
  |some z=>fA E ops rest (ts.set d (.b9 H.length 0)) ((cE.bU [(H.length,.cells .live z.cells)]).app H) q
  |none=>False):=by
 rw[qg rfl (by intro c h;cases h)];cases hz:fR E t1 with
 |none=>simp[cK,b6,eL,hz]
 |some z=>rw[Ya hz]
theorem MM{bi:Builtin}{args:Array Operand}{eO:Array Nat}:fA E ops (⟨some d,.call {callee:=.builtin bi,args:=args,argTypes:=eO},t,p,af,none⟩::rest) ts H q=(match oa ts args.toList with
  |some al=>(match aV E H H.length bi eO.toList al with
   |some (r,l)=>fA E ops rest (ts.set d r) ((cE.bU l).app H) q
   |none=>False)
  |none=>False):=by
 rw[qg rfl (by intro c h f hf;cases h;cases hf)];cases ha:oa ts args.toList with
 |none=>simp[cK,b6,eL,ha]
 |some al=>
  cases hr:aV E H H.length bi eO.toList al with
  |none=>simp[cK,b6,eL,ha,hr]
  |some x=>
   obtain⟨r,l⟩:=x;rw[Pe ha hr];simp only[hr]
theorem T0{t1:Nat}{x:Operand}{lo hi:Option Operand}{ti:Bn}(ht:E.ty t1=some ti)(hna:ti.isAgg=(match ti.cV with|.struct _|.array .. =>true|_=>false))(ha:ti.isAgg=false):
  fA E ops (⟨some d,.slice t1 x lo hi none,t,p,af,none⟩::rest) ts H q=(match cn ts x,jd ts lo,jd ts hi with
  |some u,some l,some h=>(match iS E t1 u l h with
   |some r=>fA E ops rest (ts.set d r) H q
   |none=>False)
  |_,_,_=>False):=by
 rw[qg rfl (by intro c h;cases h)];have fZ:∀u l h,cn ts x=some u->jd ts lo=some l->jd ts hi=some h->∀r,iS E t1 u l h=r->
   cK E Mw yz yz false ops H.length ⟨some d,.slice t1 x lo hi none,t,p,af,none⟩ ts H=(r.map fun r=>(ts.set d r,cE.bU [])):=by
  intro u l h h1 h2 h3 r hr;subst hr;obtain⟨cV,isAgg,size,bytes,zero,eS⟩:=ti;simp only at ha hna;subst ha;cases cV<;>simp at hna<;>(simp only[cK,b6,eL,h1,h2,h3,ht,bK,if_true];cases iS E t1 u l h<;>rfl)
 cases hx:cn ts x with
 |none=>simp[cK,b6,eL,hx]
 |some u=>
  cases hl:jd ts lo with
  |none=>simp[cK,b6,eL,hx,hl]
  |some l=>
   cases hh:jd ts hi with
   |none=>simp[cK,b6,eL,hx,hl,hh]
   |some h=>
    rw[fZ u l h hx hl hh _ rfl];cases hs:iS E t1 u l h with
    |none=>simp only[hs];rfl
    |some r=>simp only[hs];rfl
def wo(ops:List Oper)(j:Nat):Option Nat:=(ops[j]?).bind (·.dst)
def Ii:AV->Option Bool
 |.bool b=>some b
 |_=>none
theorem UN{d:Option Nat}{op:Op}{j:Nat}{want:Bool}:fA E ops (⟨d,op,t,p,af,some (j,want)⟩::rest) ts H q=
  (if(wo ops j).bind (fun dj=>Ii (gt ts dj))=some want then fA E ops (⟨d,op,t,p,af,none⟩::rest) ts H q
   else fA E ops rest (bK d aZ ts) H q):=by
 have hw:b6 ops ts ⟨d,op,t,p,af,some (j,want)⟩=true↔(wo ops j).bind (fun dj=>Ii (gt ts dj))=some want:=by
  unfold b6 wo;cases hj:(ops[j]?).bind (·.dst)with
  |none=>simp[hj]
  |some dj=>
   simp only[hj,aN6];unfold gt;cases hv:ts[dj]? with
   |none=>simp[Ii,aZ]
   |some v=>cases v<;>simp[Ii]
 show uZ E ops _ ts H _=_
 unfold uZ;by_cases h:b6 ops ts ⟨d,op,t,p,af,some (j,want)⟩=true
 ·rw[if_pos h,if_pos (hw.1 h)];show _=uZ E ops _ ts H _
  unfold uZ;rw[if_pos (show b6 ops ts ⟨d,op,t,p,af,none⟩=true from rfl)];rfl
 ·rw[if_neg h,if_neg (fun q=>h (hw.2 q))]
end
def ck(r:Option AV)(k:AV->Prop):Prop:=match r with
 |some v=>k v
 |none=>False
theorem aR{v:AV}{k:AV->Prop}:ck (some v) k=k v:=rfl
@[congr] theorem ahl {a b:Option AV} {k:AV->Prop} (h:a=b):ck a k=ck b k:=by rw[h]
def tg(r:Option (AV×List (Nat×cz)))(k:AV×List (Nat×cz)->Prop):Prop:=match r with
 |some v=>k v
 |none=>False
theorem dm{v:AV×List (Nat×cz)}{k:AV×List (Nat×cz)->Prop}:tg (some v) k=k v:=rfl
@[congr] theorem ahJ {a b:Option (AV×List (Nat×cz))} {k:AV×List (Nat×cz)->Prop} (h:a=b):tg a k=tg b k:=by rw[h]
def Ei(r:Option (List (Nat×cz)))(k:List (Nat×cz)->Prop):Prop:=match r with
 |some v=>k v
 |none=>False
theorem dT{v:List (Nat×cz)}{k:List (Nat×cz)->Prop}:Ei (some v) k=k v:=rfl
@[congr] theorem ah3 {a b:Option (List (Nat×cz))} {k:List (Nat×cz)->Prop} (h:a=b):Ei a k=Ei b k:=by rw[h]
def sS(c:Bool)(a b:Prop):Prop:=if c=true then a else b
theorem jO{a b:Prop}:sS true a b=a:=by simp[sS]
theorem iK{a b:Prop}:sS false a b=b:=by simp[sS]
@[congr] theorem agx {c d:Bool} {a b:Prop} (h:c=d):sS c a b=sS d a b:=by rw[h]
@[congr] theorem als {E:Env} {ops rest:List Oper} {ts dx:List AV} {H H':Hp} {q:List AV->Hp->Prop} (h1:ts=dx) (h2:H=H'):fA E ops rest ts H q=fA E ops rest dx H' q:=by rw[h1,h2]
def Rf(ts:List AV):Operand->AV
 |.tmp i=>gt ts i
 |.const (.int k n)=>.int k n
 |.const (.bool b)=>.bool b
 |.const (.slice none 0 0)=>.aH
 |.const (.string s)=>.str s.data.toList
 |.func f=>.func f [] []
 |.global g=>.sf g 0
 |_=>aZ
def qi:Operand->Bool
 |.tmp _|.const (.int ..)|.const (.bool _)|.const (.slice none 0 0)|.const (.string _)|.func _|.global _=>true
 |_=>false
theorem tN{ts:List AV}{x:Operand}(h:qi x=true):cn ts x=some (Rf ts x):=by
 unfold qi at h;split at h<;>first|rfl|cases h
def aiV(ts:List AV)(l:List Operand):List AV:=l.map (Rf ts)
theorem afY{ts:List AV}:∀{l:List Operand},l.all qi=true->oa ts l=some (aiV ts l)
 |[],_=>rfl
 |x::l,h=>by
  simp only[aN1,aLR]at h;simp only[oa,tN h.1,afY h.2,aiV,List.map_cons]
def IA(c a b:AV):Option AV:=match c with
 |.bool z=>some (if z then a else b)
 |_=>none
theorem FI{a b:AV}:IA (.bool true) a b=some a:=rfl
theorem Ds{a b:AV}:IA (.bool false) a b=some b:=rfl
def sI(ops:List Oper)(ts:List AV)(j:Nat)(want:Bool):Bool:=match wo ops j with
 |some dj=>Ii (gt ts dj)==some want
 |none=>false
section
variable{E:Env}{ops rest:List Oper}{ts:List AV}{H:Hp}{q:List AV->Hp->Prop}{d t:Nat}{p:String}{af:Array Edge}
theorem aa4{x:Operand}(h:qi x=true):fA E ops (⟨some d,.move x,t,p,af,none⟩::rest) ts H q=fA E ops rest (ts.set d (Rf ts x)) H q:=by rw[run_move,tN h]
theorem B4{x:Operand}(h:qi x=true):fA E ops (⟨some d,.assign x,t,p,af,none⟩::rest) ts H q=fA E ops rest (ts.set d (Rf ts x)) H q:=by rw[run_assign,tN h]
theorem aaU{c a b:Operand}(hc:qi c=true)(ha:qi a=true)(hb:qi b=true):fA E ops (⟨some d,.pick c a b,t,p,af,none⟩::rest) ts H q=
  ck (IA (Rf ts c) (Rf ts a) (Rf ts b)) fun v=>fA E ops rest (ts.set d v) H q:=by
 rw[XN,tN hc];cases hq:Rf ts c<;>try rfl
 rename_i z;cases z
 ·simp only[aKT,if_false,tN hb,IA];rfl
 ·simp only[if_true,tN ha,IA];rfl
theorem MH{op:BinOp}{t1 t2:Nat}{x y:Operand}(hx:qi x=true)(hy:qi y=true):fA E ops (⟨some d,.binOp op t1 x y t2,t,p,af,none⟩::rest) ts H q=
  ck (dC E (bI x||bI y) op t1 (Rf ts x) (Rf ts y)) fun r=>fA E ops rest (ts.set d r) H q:=by
 rw[Vc,tN hx,tN hy];rfl
theorem JF{t1:Nat}{x y:Operand}(hx:qi x=true)(hy:qi y=true):fA E ops (⟨some d,.indexAddr t1 x y,t,p,af,none⟩::rest) ts H q=
  ck (cF E t1 (Rf ts x) (Rf ts y)) fun r=>fA E ops rest (ts.set d r) H q:=by
 rw[HO,tN hx,tN hy];rfl
theorem adN{t1:Nat}{x:Operand}(hx:qi x=true):fA E ops (⟨some d,.load t1 x,t,p,af,none⟩::rest) ts H q=
  ck (gT E H t1 (Rf ts x)) fun r=>fA E ops rest (ts.set d r) H q:=by
 rw[run_load,tN hx];rfl
theorem YD{t1:Nat}{x y:Operand}(hx:qi x=true)(hy:qi y=true):fA E ops (⟨none,.store t1 x y,t,p,af,none⟩::rest) ts H q=
  Ei (iO E H t1 (Rf ts x) (Rf ts y)) fun l=>fA E ops rest ts ((cE.bU l).app H) q:=by
 rw[run_store,tN hx,tN hy];rfl
theorem YZ{t1:Nat}:fA E ops (⟨some d,.alloc t1,t,p,af,none⟩::rest) ts H q=
  ck (fR E t1) fun z=>fA E ops rest (ts.set d (.b9 H.length 0)) ((cE.bU [(H.length,.cells .live z.cells)]).app H) q:=by
 rw[Tz];rfl
theorem P9{bi:Builtin}{args:Array Operand}{eO:Array Nat}(h:args.toList.all qi=true):fA E ops (⟨some d,.call {callee:=.builtin bi,args:=args,argTypes:=eO},t,p,af,none⟩::rest) ts H q=
  tg (aV E H H.length bi eO.toList (aiV ts args.toList)) fun x=>fA E ops rest (ts.set d x.1) ((cE.bU x.2).app H) q:=by
 rw[MM,afY h];simp only;unfold tg
 split<;>simp_all
theorem tH{d:Option Nat}{op:Op}{j:Nat}{want:Bool}:fA E ops (⟨d,op,t,p,af,some (j,want)⟩::rest) ts H q=
  sS (sI ops ts j want) (fA E ops (⟨d,op,t,p,af,none⟩::rest) ts H q) (fA E ops rest (bK d aZ ts) H q):=by
 rw[UN];unfold sS sI;cases wo ops j with
 |none=>simp
 |some dj=>simp only[aN6,beq_iff_eq]
end
section
variable{E:Env}{ops rest:List Oper}{ts:List AV}{H:Hp}{q:List AV->Hp->Prop}{d t:Nat}{p:String}{af:Array Edge}
theorem jf{i0:Nat}:fA E ops (⟨some d,.move (.tmp i0),t,p,af,none⟩::rest) ts H q=fA E ops rest (ts.set d (gt ts i0)) H q:=aa4 rfl
theorem oL{i0:Nat}:fA E ops (⟨some d,.assign (.tmp i0),t,p,af,none⟩::rest) ts H q=fA E ops rest (ts.set d (gt ts i0)) H q:=B4 rfl
theorem oI{k0:IntKind}{z0:Int}:fA E ops (⟨some d,.assign (.const (.int k0 z0)),t,p,af,none⟩::rest) ts H q=fA E ops rest (ts.set d (.int k0 z0)) H q:=B4 rfl
theorem Q4:fA E ops (⟨some d,.assign (.const (.slice none 0 0)),t,p,af,none⟩::rest) ts H q=fA E ops rest (ts.set d (.aH)) H q:=B4 rfl
theorem AD{i0:Nat}{i1:Nat}{op:BinOp}{t1 t2:Nat}:fA E ops (⟨some d,.binOp op t1 (.tmp i0) (.tmp i1) t2,t,p,af,none⟩::rest) ts H q=ck (dC E false op t1 (gt ts i0) (gt ts i1)) fun r=>fA E ops rest (ts.set d r) H q:=MH rfl rfl
theorem pE{i0:Nat}{k1:IntKind}{z1:Int}{op:BinOp}{t1 t2:Nat}:fA E ops (⟨some d,.binOp op t1 (.tmp i0) (.const (.int k1 z1)) t2,t,p,af,none⟩::rest) ts H q=ck (dC E true op t1 (gt ts i0) (.int k1 z1)) fun r=>fA E ops rest (ts.set d r) H q:=MH rfl rfl
theorem Ep{i0:Nat}{i1:Nat}{t1:Nat}:fA E ops (⟨some d,.indexAddr t1 (.tmp i0) (.tmp i1),t,p,af,none⟩::rest) ts H q=ck (cF E t1 (gt ts i0) (gt ts i1)) fun r=>fA E ops rest (ts.set d r) H q:=JF rfl rfl
theorem SG{i0:Nat}{i1:Nat}{t1:Nat}:fA E ops (⟨none,.store t1 (.tmp i0) (.tmp i1),t,p,af,none⟩::rest) ts H q=Ei (iO E H t1 (gt ts i0) (gt ts i1)) fun l=>fA E ops rest ts ((cE.bU l).app H) q:=YD rfl rfl
theorem abr{i0:Nat}{t1:Nat}:fA E ops (⟨some d,.load t1 (.tmp i0),t,p,af,none⟩::rest) ts H q=ck (gT E H t1 (gt ts i0)) fun r=>fA E ops rest (ts.set d r) H q:=adN rfl
theorem xN{i0:Nat}{i1:Nat}{b2:Bool}:fA E ops (⟨some d,.pick (.tmp i0) (.tmp i1) (.const (.bool b2)),t,p,af,none⟩::rest) ts H q=ck (IA (gt ts i0) (gt ts i1) (.bool b2)) fun v=>fA E ops rest (ts.set d v) H q:=aaU rfl rfl rfl
theorem DH{i0 t1:Nat}:fA E ops (⟨some d,.call {callee:=.builtin .len,args:=#[.tmp i0],argTypes:=#[t1]},t,p,af,none⟩::rest) ts H q=tg (aV E H H.length .len [t1] [gt ts i0]) fun x=>fA E ops rest (ts.set d x.1) ((cE.bU x.2).app H) q:=P9 rfl
end
section
variable{E:Env}{c:Bool}{t:Nat}{k:IntKind}{a b:Int}
theorem nz:dC E c .add t (.int k a) (.int k b)=some (.int k (aX k (a+b))):=by simp[dC,vF]
theorem oF:dC E c .sub t (.int k a) (.int k b)=some (.int k (aX k (a-b))):=by simp[dC,vF]
theorem Pq:dC E c .mul t (.int k a) (.int k b)=some (.int k (aX k (a*b))):=by simp[dC,vF]
theorem Ru:dC E c .eql t (.int k a) (.int k b)=some (.bool (a==b)):=by simp[dC,vF]
theorem Qj:dC E c .neq t (.int k a) (.int k b)=some (.bool (a !=b)):=by simp[dC,vF]
theorem iU:dC E c .lss t (.int k a) (.int k b)=some (.bool (decide (a<b))):=by simp[dC,vF]
theorem akF:dC E c .leq t (.int k a) (.int k b)=some (.bool (decide (a<=b))):=by simp[dC,vF]
theorem Ck:dC E c .gtr t (.int k a) (.int k b)=some (.bool (decide (a>b))):=by simp[dC,vF]
theorem CH:dC E c .geq t (.int k a) (.int k b)=some (.bool (decide (a≥b))):=by simp[dC,vF]
theorem aiv(h:b≠0):dC E c .quo t (.int k a) (.int k b)=some (.int k (aX k (a.tdiv b))):=by simp[dC,vF,h]
theorem ajt(h:b≠0):dC E c .rem t (.int k a) (.int k b)=some (.int k (a.tmod b)):=by simp[dC,vF,h]
theorem PB{x:Bool}:unE .not (.bool x)=some (.bool (!x)):=rfl
end
theorem Zp{E:Env}{pc:Pc}{ic yc:Ic}{dr dr':Bool}{ts:List AV}{H:Hp}{aL:Nat}{o:Oper}(hc:nS o=false):eL E pc ic yc dr ts H aL o=eL E pc ic yc dr' ts H aL o:=by
 obtain⟨d,op,t,p,af,g⟩:=o;cases op<;>try rfl
 case makeFunc fn a b=>cases fn<;>rfl
 case next it s=>cases s<;>rfl
 case call c=>
  obtain⟨callee,args,eO⟩:=c;cases callee<;>first|rfl|(simp[nS]at hc;done)
theorem ID{E:Env}{pc:Pc}{ic yc:Ic}{dr dr':Bool}{ops:List Oper}{ts:List AV}{H:Hp}{aL nid':Nat}{o:Oper}(hl:cu E o=false)(hc:nS o=false):
  cK E pc ic yc dr ops aL o ts H=cK E pc ic yc dr' ops nid' o ts H:=by
 unfold cK;rw[Zp (dr':=dr') hc,Ej (nid':=nid') hl]
theorem qA.Xc{E:Env}{ops rest:List Oper}{aL:Nat}{ts:List AV}{H:Hp}{Q:List AV->Hp->Prop}{d:Option Nat}{t:Nat}{p:String}{af:Array Edge}{g:Option (Nat×Bool)}{fo:Operand}{args:Array Operand}{eO:Array Nat}{f:Nat}{first cap al wD:List AV}{bs:List Nat}{r:AV}
  (hw:b6 ops ts ⟨d,.call {callee:=.value fo,args:=args,argTypes:=eO},t,p,af,g⟩=true)
  (hf:cn ts fo=some (.func f first cap)) (ha:oa ts args.toList=some al) (hz:bW H (first++al++cap)=some (wD,bs)) (hc:mU E f wD r)
  (h:qA E ops rest aL (bK d r ts) ((if bR r then cE.looks bs else cE.marks bs).app H) fun dx H' _=>Q dx H'):
  qA E ops (⟨d,.call {callee:=.value fo,args:=args,argTypes:=eO},t,p,af,g⟩::rest) aL ts H fun dx H' _=>Q dx H':=by
 obtain⟨n,dx,H',l,k1,k2⟩:=h;obtain⟨hp,m,hm⟩:=hc;have l1:=jc (E:=E) (aNY n m);refine⟨max n m,dx,H',bH E ts ⟨d,.call {callee:=.value fo,args:=args,argTypes:=eO},t,p,af,g⟩ (if bR r then cE.looks bs else cE.marks bs)::l,?_,k2⟩;unfold s9;have h1:pK E (dK E (max n m)) f wD=some r:=qt (aNX n m) _ _ _ hm;rw[show cu E ⟨d,.call {callee:=.value fo,args:=args,argTypes:=eO},t,p,af,g⟩=false from rfl];simp only[aNZ,aKT,if_false];have fZ:cK E (pK E (dK E (max n m))) (ue E (dK E (max n m))) (yI (dK E (max n m))) true ops aL ⟨d,.call {callee:=.value fo,args:=args,argTypes:=eO},t,p,af,g⟩ ts H=some (bK d r ts,if bR r then cE.looks bs else cE.marks bs):=by
  rw[rM hw];cases jE:E.fn f with
  |none=>simp only[cK,b6,eL,hf,ha,pA,jE,hz,h1,if_true,aLT]
  |some fi=>
   obtain⟨code,ntmps,results,pu,du⟩:=fi
   have:=hp _ jE
   simp only at this;subst this;simp only[cK,b6,eL,hf,ha,pA,jE,hz,h1,if_true,aLT]
 rw[fZ];simp only[A8 (uP l1) (qB l1) (xX l1) k1]
theorem fA.s9{E:Env}{ops:List Oper}{q:List AV->Hp->Prop}{aL:Nat}:∀{rest:List Oper} {ts:List AV} {H:Hp},rest.all (fun o=>!cu E o)=true->fA E ops rest ts H q->qA E ops rest aL ts H fun dx H' _=>q dx H'
 |[],ts,H,_,h=>qA.nil h
 |o::rest,ts,H,hl,h=>by
  simp only[aN1,aLR,aLZ]at hl;have jn:rest.all (fun o=>!cu E o)=true:=by simpa using hl.2
  unfold fA uZ at h;by_cases hw:b6 ops ts o=true
  ·rw[if_pos hw]at h;unfold Oj at h;split at h
   ·rename_i fo args eO h1;obtain⟨d,op,t,p,af,g⟩:=o;simp only at h1;subst h1;split at h
    ·rename_i f first cap al e1 e2
     obtain⟨wD,bs,r,g1,g2,g3⟩:=h;exact qA.Xc hw e1 e2 g1 g2 (fA.s9 jn g3)
    ·exact h.elim
   ·rename_i hnc;have hc:nS o=false:=by
     unfold nS
     split
     ·rename_i c Vu
      split
      ·rename_i f pU;obtain⟨callee,args,eO⟩:=c;simp only at pU;subst pU;exact absurd Vu (hnc f args eO)
      ·rfl
     ·rfl
    split at h
    ·rename_i Ad e fZ;refine qA.step hl.1 ?_ (fA.s9 jn h);rw[<-rM hw]at fZ;rw[ID (dr':=false) (nid':=H.length) hl.1 hc];exact fZ
    ·exact h.elim
  ·rw[if_neg hw]at h;exact qA.step hl.1 (tY hw) (fA.s9 jn h)
theorem Cv.Co{E:Env}{id:Nat}{ops:Array Oper}{ts:List AV}{H:Hp}{Q:Ex->List AV->Hp->Prop}(hl:ops.toList.all (fun o=>!cu E o)=true)(hp:E.pairs id ops.toList.length=[])
  (h:fA E ops.toList ops.toList ts H (Q .normal)):Cv E (.region id ops true) ts H Q:=by
 refine Cv.Ta ?_ ?_
 ·rw[aN2];intro o ho
  have:=aLN.1 hl o ho
  simpa using this
 ·obtain⟨n,dx,H',l,h1,h2⟩:=fA.s9 (aL:=H.length) hl h;exact⟨n,dx,H',l,h1,by rw[hp];rfl,h2⟩
section
variable{E:Env}{ops rest:List Oper}{ts:List AV}{H:Hp}{q:List AV->Hp->Prop}{d t:Nat}{p:String}{af:Array Edge}
theorem agG{f:Nat}{args:Array Operand}{eO:Array Nat}{al:List AV}{r:AV}(ha:oa ts args.toList=some al)(hz:bE al=true)(hc:mU E f al r)(h:fA E ops rest (ts.set d r) H q):
  fA E ops (⟨some d,.call {callee:=.value (.func f),args:=args,argTypes:=eO},t,p,af,none⟩::rest) ts H q:=by
 rw[Od];simp only[oH,ha];refine⟨al,[],r,?_,hc,?_⟩
 ·unfold bW;simp[hz]
 ·have:∀(e:cE),e=(if bR r=true then cE.looks []else cE.marks [])->e.app H=H:=by
   intro e he;subst he;split<;>rfl
  rw[this _ rfl];exact h
theorem Sr{t1:Nat}{ps:Array (Nat×Operand)}{pl:Nat->Option (Nat×Nat)}{z cs:List AV}{vs:List (Nat×AV)}(hp:gX E t1=some pl)(hz:(E.ty t1).bind (·.zero)=some z)(he:xT ts ps.toList=some vs)(hf:gV pl z vs=some cs):
  fA E ops (⟨some d,.build t1 ps,t,p,af,none⟩::rest) ts H q=fA E ops rest (ts.set d (.agg cs)) H q:=by
 rw[qg rfl (by intro c h;cases h)];simp only[cK,b6,eL,hp,hz,he,hf,if_true,aLT,bK];rfl
end
theorem Fm{E:Env}{f:Nat}{fi:FnI}{args:List AV}{G:AV->Prop}(mP:E.ov f args=none)(jE:E.fn f=some fi)(hp:fi.pure=true)
  (h:Cv E fi.code (args++aK3 (fi.ntmps-args.length) aZ) [] fun ex ts H=>(∀id,ex≠ .exit id)/\∃rs r bs,iW H E ts fi.results=some rs/\bW H [kU rs]=some ([r],bs)/\G r):∃r,mU E f args r/\G r:=by
 obtain⟨n,ex,ts,H,h1,h2,rs,r,bs,h3,h4,h5⟩:=h;refine⟨r,⟨fun fi' h'=>(by rw[jE]at h';cases h';exact hp),n,?_⟩,h5⟩;unfold call pK;simp only[mP,jE,hp,Bool.true_or,Bool.not_true,aKT,if_false,h1];cases ex with
 |exit id=>exact absurd rfl (h2 id)
 |normal=>simp only[h3,h4]
 |ret=>simp only[h3,h4]
theorem Ml{H:Hp}{v:AV}(h:aU v=true):bW H [v]=some ([v],[]):=by unfold bW;simp[bE,h]
def quiet(o:Oper):Bool:=match o.op with
 |.move _|.assign _|.pick .. |.load .. |.binOp .. |.unOp .. |.fieldAddr .. |.field .. |.indexAddr .. |.extract .. |.build .. =>true
 |.call c=>(match c.callee with|.value _=>true|_=>false)
 |_=>false
def calm:cE->Bool
 |.bU []|.looks _|.marks _|.Ee _=>true
 |_=>false
theorem zJ{E:Env}{ts:List AV}{o:Oper}{e:cE}(h:calm e=true):(bH E ts o e).2=[]:=by
 unfold bH
 split
 ·rfl
 ·cases e with
  |bU l=>cases l with
   |nil=>rfl
   |cons a l=>cases h
  |_=>rfl
theorem N3{x:Option AV}{v:AV}{e:cE}(h:(x.map fun x=>(x,cE.bU []))=some (v,e)):calm e=true:=by
 cases x with
 |none=>cases h
 |some x=>simp only[aLT,aKV.injEq,Prod.mk.injEq]at h;rw[<-h.2];rfl
theorem Ry{E:Env}{ops:List Oper}{aL:Nat}{o:Oper}{ts Ad:List AV}{H:Hp}{e:cE}(hq:quiet o=true)(hc:nS o=false)(h:cK E Mw yz yz false ops aL o ts H=some (Ad,e)):calm e=true:=by
 unfold cK at h;split at h
 ·split at h
  ·rename_i v e' ho;simp only[aKV.injEq,Prod.mk.injEq]at h;obtain⟨_,rfl⟩:=h;obtain⟨d,op,t,p,af,g⟩:=o;cases op<;>simp only[quiet,aKT]at hq<;>simp only[eL]at ho
   all_goals first
    |exact N3 ho
    |(repeat' split at ho)<;>first|exact N3 ho|(cases ho;done)|skip
   all_goals (simp[nS]at hc)
   all_goals (split at hq<;>simp_all)
  ·cases h
 ·simp only[aKV.injEq,Prod.mk.injEq]at h;rw[<-h.2];rfl
theorem qA.apX{E:Env}{ops rest:List Oper}{aL:Nat}{ts:List AV}{H:Hp}{Q:List AV->Hp->List (List Nat×List Nat)->Prop}{d:Option Nat}{t:Nat}{p:String}{af:Array Edge}{g:Option (Nat×Bool)}{fo:Operand}{args:Array Operand}{eO:Array Nat}{f:Nat}{first cap al wD:List AV}{bs:List Nat}{r:AV}
  (hw:b6 ops ts ⟨d,.call {callee:=.value fo,args:=args,argTypes:=eO},t,p,af,g⟩=true)
  (hf:cn ts fo=some (.func f first cap)) (ha:oa ts args.toList=some al) (hz:bW H (first++al++cap)=some (wD,bs)) (hc:mU E f wD r)
  (h:qA E ops rest aL (bK d r ts) ((if bR r then cE.looks bs else cE.marks bs).app H) fun dx H' l=>∀x,x.2=[]->Q dx H' (x::l)):
  qA E ops (⟨d,.call {callee:=.value fo,args:=args,argTypes:=eO},t,p,af,g⟩::rest) aL ts H Q:=by
 obtain⟨n,dx,H',l,k1,k2⟩:=h;obtain⟨hp,m,hm⟩:=hc;have l1:=jc (E:=E) (aNY n m);refine⟨max n m,dx,H',bH E ts ⟨d,.call {callee:=.value fo,args:=args,argTypes:=eO},t,p,af,g⟩ (if bR r then cE.looks bs else cE.marks bs)::l,?_,k2 _ (zJ (by split<;>rfl))⟩;unfold s9;have h1:pK E (dK E (max n m)) f wD=some r:=qt (aNX n m) _ _ _ hm;rw[show cu E ⟨d,.call {callee:=.value fo,args:=args,argTypes:=eO},t,p,af,g⟩=false from rfl];simp only[aNZ,aKT,if_false];have fZ:cK E (pK E (dK E (max n m))) (ue E (dK E (max n m))) (yI (dK E (max n m))) true ops aL ⟨d,.call {callee:=.value fo,args:=args,argTypes:=eO},t,p,af,g⟩ ts H=some (bK d r ts,if bR r then cE.looks bs else cE.marks bs):=by
  rw[rM hw];cases jE:E.fn f with
  |none=>simp only[cK,b6,eL,hf,ha,pA,jE,hz,h1,if_true,aLT]
  |some fi=>
   obtain⟨code,ntmps,results,pu,du⟩:=fi
   have:=hp _ jE
   simp only at this;subst this;simp only[cK,b6,eL,hf,ha,pA,jE,hz,h1,if_true,aLT]
 rw[fZ];simp only[A8 (uP l1) (qB l1) (xX l1) k1]
def QL(rest:List Oper)(l:List (List Nat×List Nat)):Prop:=∀(j:Nat) (o:Oper) (t:List Nat×List Nat),rest[j]?=some o->l[j]?=some t->quiet o=true->t.2=[]
theorem QL.cons{o:Oper}{rest:List Oper}{x:List Nat×List Nat}{l:List (List Nat×List Nat)}(h:QL rest l)(hx:quiet o=true->x.2=[]):QL (o::rest) (x::l):=by
 intro j o' t h1 h2 hq;cases j with
 |zero=>
  simp only[List.getElem?_cons_zero,aKV.injEq]at h1 h2;subst h1;subst h2
  exact hx hq
 |succ j=>exact h j o' t (by simpa using h1) (by simpa using h2) hq
theorem fA.acL{E:Env}{ops:List Oper}{q:List AV->Hp->Prop}{aL:Nat}:∀{rest:List Oper} {ts:List AV} {H:Hp},rest.all (fun o=>!cu E o)=true->fA E ops rest ts H q->qA E ops rest aL ts H fun dx H' l=>q dx H'/\QL rest l
 |[],ts,H,_,h=>qA.nil ⟨h,by intro j o t h1;simp at h1⟩
 |o::rest,ts,H,hl,h=>by
  simp only[aN1,aLR,aLZ]at hl;have jn:rest.all (fun o=>!cu E o)=true:=by simpa using hl.2
  unfold fA uZ at h;by_cases hw:b6 ops ts o=true
  ·rw[if_pos hw]at h;unfold Oj at h;split at h
   ·rename_i fo args eO h1;obtain⟨d,op,t,p,af,g⟩:=o;simp only at h1;subst h1;split at h
    ·rename_i f first cap al e1 e2
     obtain⟨wD,bs,r,g1,g2,g3⟩:=h;refine qA.apX hw e1 e2 g1 g2 ?_;obtain⟨n,dx,H',l,k1,k2,k3⟩:=fA.acL (aL:=aL) jn g3;exact⟨n,dx,H',l,k1,fun x hx=>⟨k2,k3.cons fun _=>hx⟩⟩
    ·exact h.elim
   ·rename_i hnc;have hc:nS o=false:=by
     unfold nS
     split
     ·rename_i c Vu
      split
      ·rename_i f pU;obtain⟨callee,args,eO⟩:=c;simp only at pU;subst pU;exact absurd Vu (hnc f args eO)
      ·rfl
     ·rfl
    split at h
    ·rename_i Ad e fZ;rw[<-rM hw]at fZ;have asu:=fZ;rw[ID (dr':=true) (nid':=aL) hl.1 hc]at asu;refine qA.step hl.1 asu ?_;obtain⟨n,dx,H',l,k1,k2,k3⟩:=fA.acL (aL:=aL) jn h;exact⟨n,dx,H',l,k1,k2,k3.cons fun hq=>zJ (Ry hq hc fZ)⟩
    ·exact h.elim
  ·rw[if_neg hw]at h;refine qA.step hl.1 (tY hw) ?_;obtain⟨n,dx,H',l,k1,k2,k3⟩:=fA.acL (aL:=aL) jn h;exact⟨n,dx,H',l,k1,k2,k3.cons fun _=>zJ rfl⟩
def quietAt(ops:List Oper)(i:Nat):Bool:=match ops[i]? with
 |some o=>quiet o
 |none=>false
theorem Cv.aiG{E:Env}{id:Nat}{ops:Array Oper}{ts:List AV}{H:Hp}{Q:Ex->List AV->Hp->Prop}(hl:ops.toList.all (fun o=>!cu E o)=true)(hp:(E.pairs id ops.toList.length).all (fun p=>quietAt ops.toList p.1&&quietAt ops.toList p.2)=true)
  (h:fA E ops.toList ops.toList ts H (Q .normal)):Cv E (.region id ops true) ts H Q:=by
 refine Cv.Ta ?_ ?_
 ·rw[aN2];intro o ho
  have:=aLN.1 hl o ho
  simpa using this
 ·obtain⟨n,dx,H',l,h1,h2,h3⟩:=fA.acL (aL:=H.length) hl h;refine⟨n,dx,H',l,h1,?_,h2⟩;rw[aLN]at hp⊢;intro p hpm
  have:=hp p hpm
  simp only[aLR]at this;unfold ur;have q:∀i x,quietAt ops.toList i=true->l[i]?=some x->x.2=[]:=by
   intro i x hq hx;unfold quietAt at hq;cases ho:ops.toList[i]? with
   |none=>rw[ho]at hq;cases hq
   |some o=>rw[ho]at hq;exact h3 i o x ho hx hq
  cases e1:l[p.1]? with
  |none=>rfl
  |some x=>
   cases e2:l[p.2]? with
   |none=>rfl
   |some y=>
    obtain⟨r1,w1⟩:=x;obtain⟨r2,w2⟩:=y;have a:=q _ _ this.1 e1;have b:=q _ _ this.2 e2;simp only at a b;subst a;subst b
    simp[zN]
end Dv
namespace Dv
open Classical in
noncomputable def aP(E:Env)(f:Nat)(al:List AV):Option AV:=if h:∃r,mU E f al r then some h.choose else none
open Go Go.RowKit
theorem mU.uniq{E:Env}{f:Nat}{al:List AV}{r s:AV}(h:mU E f al r)(k:mU E f al s):r=s:=by obtain⟨_,m,hm⟩:=h;obtain⟨_,n,hn⟩:=k;have a:=qt (E:=E) (aNY m n) _ _ _ hm;have b:=qt (E:=E) (aNX m n) _ _ _ hn;rw[a]at b;exact aKV.inj b
theorem eh{E:Env}{f:Nat}{al:List AV}{r:AV}(h:mU E f al r):aP E f al=some r:=by have hx:∃r,mU E f al r:=⟨r,h⟩;unfold aP;rw[dif_pos hx,hx.choose_spec.uniq h]
theorem uT{E:Env}{f:Nat}{al:List AV}{r:AV}(h:aP E f al=some r):mU E f al r:=by
 unfold aP at h;split at h
 ·rename_i hx
  have:=aKV.inj h
  exact this▸hx.choose_spec
 ·cases h
def Hn(x:Option (AV×cE))(k:AV->cE->Prop):Prop:=match x with
 |some (v,e)=>k v e
 |none=>False
theorem Db{v:AV}{e:cE}{k:AV->cE->Prop}:Hn (some (v,e)) k=k v e:=rfl
@[congr] theorem ajQ {a b:Option (AV×cE)} {k:AV->cE->Prop} (h:a=b):Hn a k=Hn b k:=by rw[h]
def pT(x:Option (List AV))(k:List AV->Prop):Prop:=match x with
 |some l=>k l
 |none=>False
theorem ch{l:List AV}{k:List AV->Prop}:pT (some l) k=k l:=rfl
@[congr] theorem aij {a b:Option (List AV)} {k:List AV->Prop} (h:a=b):pT a k=pT b k:=by rw[h]
def BW(x:Option (List (Nat×AV)))(k:List (Nat×AV)->Prop):Prop:=match x with
 |some l=>k l
 |none=>False
theorem iF{l:List (Nat×AV)}{k:List (Nat×AV)->Prop}:BW (some l) k=k l:=rfl
@[congr] theorem air {a b:Option (List (Nat×AV))} {k:List (Nat×AV)->Prop} (h:a=b):BW a k=BW b k:=by rw[h]
def tX(x:Option (List AV×List Nat))(k:List AV->List Nat->Prop):Prop:=match x with
 |some (v,e)=>k v e
 |none=>False
theorem dQ{v:List AV}{e:List Nat}{k:List AV->List Nat->Prop}:tX (some (v,e)) k=k v e:=rfl
@[congr] theorem ahz {a b:Option (List AV×List Nat)} {k:List AV->List Nat->Prop} (h:a=b):tX a k=tX b k:=by rw[h]
def Fa(fv:AV)(al:List AV)(k:Nat->List AV->Prop):Prop:=match fv with
 |.func f first cap=>k f (first++al++cap)
 |_=>False
theorem nP{f:Nat}{al:List AV}{k:Nat->List AV->Prop}:Fa (.func f [] []) al k=k f al:=by simp[Fa]
theorem xD{f:Nat}{a c al:List AV}{k:Nat->List AV->Prop}:Fa (.func f a c) al k=k f (a++al++c):=rfl
@[congr] theorem agM {a b:AV} {al bl:List AV} {k:Nat->List AV->Prop} (h:a=b) (h2:al=bl):Fa a al k=Fa b bl k:=by rw[h,h2]
def Sd(x:Option AV)(l:Option (List AV)):Option (List AV):=match x,l with
 |some v,some vs=>some (v::vs)
 |_,_=>none
theorem cO{v:AV}{l:List AV}:Sd (some v) (some l)=some (v::l):=rfl
theorem jl{ts:List AV}{x:Operand}{xs:List Operand}:oa ts (x::xs)=Sd (cn ts x) (oa ts xs):=by
 rw[oa];cases cn ts x<;>cases oa ts xs<;>rfl
def aeG(i:Nat)(x:Option AV)(l:Option (List (Nat×AV))):Option (List (Nat×AV)):=match x,l with
 |some v,some vs=>some ((i,v)::vs)
 |_,_=>none
theorem nu{i:Nat}{v:AV}{l:List (Nat×AV)}:aeG i (some v) (some l)=some ((i,v)::l):=rfl
theorem Fs{ts:List AV}:xT ts []=some []:=rfl
theorem Gd{ts:List AV}{i:Nat}{x:Operand}{xs:List (Nat×Operand)}:xT ts ((i,x)::xs)=aeG i (cn ts x) (xT ts xs):=by
 rw[xT];cases cn ts x<;>cases xT ts xs<;>rfl
def zn(c a b:Option AV):Option AV:=match c with
 |some (.bool t)=>if t then a else b
 |_=>none
theorem RO{a b:Option AV}:zn (some (.bool true)) a b=a:=rfl
theorem Su{a b:Option AV}:zn (some (.bool false)) a b=b:=rfl
def fT(E:Env)(t:Nat)(vs:List (Nat×AV)):Option AV:=match gX E t,(E.ty t).bind (·.zero)with
 |some pl,some z=>(gV pl z vs).map .agg
 |_,_=>none
def ow(b:Bool)(H:Hp)(al:List AV):Option (List AV×List Nat):=if b then some (al,[])else bW H al
theorem iA{H:Hp}{al:List AV}:bW H al=ow (bE al) H al:=by
 unfold ow;cases h:bE al
 ·rfl
 ·rw[bW,h];rfl
theorem qj{H:Hp}{al:List AV}:ow true H al=some (al,[]):=rfl
section
variable{E:Env}{ops rest:List Oper}{ts:List AV}{H:Hp}{q:List AV->Hp->Prop}{d:Option Nat}{t:Nat}{p:String}{af:Array Edge}
theorem qm{o:Oper}(hg:o.guard=none)(hc:∀c,o.op=.call c->∀f,c.callee≠ .value f):fA E ops (o::rest) ts H q=Hn (eL E Mw yz yz false ts H H.length o) fun v e=>fA E ops rest (bK o.dst v ts) (e.app H) q:=by
 rw[qg hg hc];unfold cK;rw[if_pos (show b6 ops ts o=true by unfold b6;rw[hg])];cases eL E Mw yz yz false ts H H.length o with
 |none=>rfl
 |some x=>rfl
theorem qC{H:Hp}:(cE.bU []).app H=H:=rfl
theorem ye{H:Hp}{l:List Nat}:(cE.looks l).app H=H:=rfl
theorem wZ{H:Hp}{b:Bool}:(if b=true then cE.looks []else cE.marks []).app H=H:=by cases b<;>rfl
theorem Y4{H:Hp}{x:cz}:(cE.bU [(H.length,x)]).app H=H++[x]:=by
 show eE H H.length x=_
 unfold eE;rw[if_neg (by omega)]
theorem gx{x:Operand}:fA E ops (⟨d,.move x,t,p,af,none⟩::rest) ts H q=ck (cn ts x) fun v=>fA E ops rest (bK d v ts) H q:=by
 rw[qm rfl (by intro c h;cases h)];show Hn ((cn ts x).map _) _=_
 cases cn ts x<;>rfl
theorem dE{x:Operand}:fA E ops (⟨d,.assign x,t,p,af,none⟩::rest) ts H q=ck (cn ts x) fun v=>fA E ops rest (bK d v ts) H q:=by
 rw[qm rfl (by intro c h;cases h)];show Hn ((cn ts x).map _) _=_
 cases cn ts x<;>rfl
theorem Yv{c a b:Operand}:fA E ops (⟨d,.pick c a b,t,p,af,none⟩::rest) ts H q=ck (zn (cn ts c) (cn ts a) (cn ts b)) fun v=>fA E ops rest (bK d v ts) H q:=by
 rw[qm rfl (by intro c h;cases h)];simp only[eL,zn];cases hc:cn ts c with
 |none=>rfl
 |some v=>
  cases v<;>try rfl
  rename_i z;cases z
  ·simp only[aKT,if_false];cases cn ts b<;>rfl
  ·simp only[if_true];cases cn ts a<;>rfl
theorem oX{t1:Nat}:fA E ops (⟨d,.alloc t1,t,p,af,none⟩::rest) ts H q=ck (fR E t1) fun z=>fA E ops rest (bK d (.b9 H.length 0) ts) (H++[.cells .live z.cells]) q:=by
 rw[qm rfl (by intro c h;cases h)];simp only[eL];cases fR E t1 with
 |none=>rfl
 |some z=>simp only[aLT,Db,aR,Y4]
theorem DU{t1:Nat}{x:Operand}:fA E ops (⟨d,.box t1 x,t,p,af,none⟩::rest) ts H q=ck (cn ts x) fun z=>fA E ops rest (bK d (.b9 H.length 0) ts) (H++[.cells .live z.cells]) q:=by
 rw[qm rfl (by intro c h;cases h)];simp only[eL];cases cn ts x with
 |none=>rfl
 |some z=>simp only[aLT,Db,aR,Y4]
theorem iL{t1:Nat}{x:Operand}:fA E ops (⟨d,.load t1 x,t,p,af,none⟩::rest) ts H q=ck (cn ts x) fun a=>ck (gT E H t1 a) fun v=>fA E ops rest (bK d v ts) H q:=by
 rw[qm rfl (by intro c h;cases h)];simp only[eL];cases cn ts x with
 |none=>rfl
 |some a=>simp only[aR];cases gT E H t1 a<;>rfl
theorem gE{t1:Nat}{x y:Operand}:fA E ops (⟨none,.store t1 x y,t,p,af,none⟩::rest) ts H q=ck (cn ts x) fun a=>ck (cn ts y) fun v=>Ei (iO E H t1 a v) fun l=>fA E ops rest ts ((cE.bU l).app H) q:=by
 rw[qm rfl (by intro c h;cases h)];simp only[eL];cases cn ts x with
 |none=>rfl
 |some a=>
  cases cn ts y with
  |none=>rfl
  |some v=>simp only[aR];cases iO E H t1 a v<;>rfl
theorem iG{op:BinOp}{t1 t2:Nat}{x y:Operand}:fA E ops (⟨d,.binOp op t1 x y t2,t,p,af,none⟩::rest) ts H q=ck (cn ts x) fun a=>ck (cn ts y) fun b=>ck (dC E (bI x||bI y) op t1 a b) fun v=>fA E ops rest (bK d v ts) H q:=by
 rw[qm rfl (by intro c h;cases h)];simp only[eL];cases cn ts x with
 |none=>rfl
 |some a=>
  cases cn ts y with
  |none=>rfl
  |some b=>simp only[aR];cases dC E (bI x||bI y) op t1 a b<;>rfl
theorem T2{op:UnOp}{t1:Nat}{x:Operand}:fA E ops (⟨d,.unOp op t1 x,t,p,af,none⟩::rest) ts H q=ck (cn ts x) fun a=>ck (unE op a) fun v=>fA E ops rest (bK d v ts) H q:=by
 rw[qm rfl (by intro c h;cases h)];simp only[eL];cases cn ts x with
 |none=>rfl
 |some a=>simp only[aR];cases unE op a<;>rfl
theorem FE{t1 f:Nat}{x:Operand}:fA E ops (⟨d,.fieldAddr t1 x f,t,p,af,none⟩::rest) ts H q=ck (cn ts x) fun a=>ck (dy E t1 a f) fun v=>fA E ops rest (bK d v ts) H q:=by
 rw[qm rfl (by intro c h;cases h)];simp only[eL];cases cn ts x with
 |none=>rfl
 |some a=>simp only[aR];cases dy E t1 a f<;>rfl
theorem v7{t1:Nat}{x y:Operand}:fA E ops (⟨d,.indexAddr t1 x y,t,p,af,none⟩::rest) ts H q=ck (cn ts x) fun a=>ck (cn ts y) fun b=>ck (cF E t1 a b) fun v=>fA E ops rest (bK d v ts) H q:=by
 rw[qm rfl (by intro c h;cases h)];simp only[eL];cases cn ts x with
 |none=>rfl
 |some a=>
  cases cn ts y with
  |none=>rfl
  |some b=>simp only[aR];cases cF E t1 a b<;>rfl
def nth(v:AV)(i:Nat):Option AV:=match v with
 |.tuple vs=>vs[i]?
 |_=>none
theorem T1{vs:List AV}{i:Nat}:nth (.tuple vs) i=vs[i]?:=rfl
theorem Sh{t1:Nat}{ps:Array (Nat×Operand)}:fA E ops (⟨d,.build t1 ps,t,p,af,none⟩::rest) ts H q=BW (xT ts ps.toList) fun vs=>ck (fT E t1 vs) fun v=>fA E ops rest (bK d v ts) H q:=by
 rw[qm rfl (by intro c h;cases h)];simp only[eL,fT];cases xT ts ps.toList with
 |none=>cases gX E t1<;>cases (E.ty t1).bind (·.zero)<;>rfl
 |some vs=>
  cases gX E t1 with
  |none=>rfl
  |some pl=>
   cases (E.ty t1).bind (·.zero)with
   |none=>rfl
   |some z=>simp only[iF];cases gV pl z vs<;>rfl
theorem pS{t1:Nat}{x y:Operand}:fA E ops (⟨d,.makeSlice t1 x y,t,p,af,none⟩::rest) ts H q=ck (cn ts x) fun a=>ck (cn ts y) fun b=>tg (fM E H.length t1 a b) fun r=>fA E ops rest (bK d r.1 ts) ((cE.bU r.2).app H) q:=by
 rw[qm rfl (by intro c h;cases h)];simp only[eL];cases cn ts x with
 |none=>rfl
 |some a=>
  cases cn ts y with
  |none=>rfl
  |some b=>simp only[aR];cases fM E H.length t1 a b<;>rfl
theorem eT{bi:Builtin}{args:Array Operand}{eO:Array Nat}:fA E ops (⟨d,.call {callee:=.builtin bi,args:=args,argTypes:=eO},t,p,af,none⟩::rest) ts H q=
  pT (oa ts args.toList) fun al=>tg (aV E H H.length bi eO.toList al) fun r=>fA E ops rest (bK d r.1 ts) ((cE.bU r.2).app H) q:=by
 rw[qm rfl (by intro c h f hf;cases h;cases hf)];simp only[eL];cases oa ts args.toList with
 |none=>rfl
 |some al=>simp only[ch];cases aV E H H.length bi eO.toList al<;>rfl
theorem rQ{x:Operand}{args:Array Operand}{eO:Array Nat}:fA E ops (⟨d,.call {callee:=.value x,args:=args,argTypes:=eO},t,p,af,none⟩::rest) ts H q=
  ck (cn ts x) fun fv=>pT (oa ts args.toList) fun al=>Fa fv al fun f bl=>tX (bW H bl) fun cl bs=>ck (aP E f cl) fun r=>fA E ops rest (bK d r ts) ((if bR r=true then cE.looks bs else cE.marks bs).app H) q:=by
 rw[Od];cases cn ts x with
 |none=>rfl
 |some fv=>
  cases oa ts args.toList with
  |none=>cases fv<;>rfl
  |some al=>
   cases fv<;>try rfl
   rename_i f a c;simp only[aR,ch,xD];apply propext;constructor
   ·rintro⟨wD,bs,r,h1,h2,h3⟩;rw[h1,dQ,eh h2,aR];exact h3
   ·intro h;cases hz:bW H (a++al++c)with
    |none=>rw[hz]at h;exact h.elim
    |some y=>
     obtain⟨cl,bs⟩:=y;rw[hz,dQ]at h;cases hr:aP E f cl with
     |none=>rw[hr]at h;exact h.elim
     |some r=>rw[hr,aR]at h;exact⟨cl,bs,r,rfl,uT hr,h⟩
end
def Ax(k:List AV->Hp->Prop)(Q:Ex->List AV->Hp->Prop)(ex:Ex)(ts:List AV)(H:Hp):Prop:=match ex with
 |.normal=>k ts H
 |e=>Q e ts H
def qf(id:Nat)(Q:Ex->List AV->Hp->Prop)(ex:Ex)(ts:List AV)(H:Hp):Prop:=match ex with
 |.exit j=>if j=id then Q .normal ts H else Q (.exit j) ts H
 |e=>Q e ts H
def An(v:AV)(a b:Prop):Prop:=match v with
 |.bool t=>if t=true then a else b
 |_=>False
theorem eG{t:Bool}{a b:Prop}:An (.bool t) a b=if t=true then a else b:=rfl
@[congr] theorem af8 {u v:AV} {a b:Prop} (h:u=v):An u a b=An v a b:=by rw[h]
def Em(E:Env)(id:Nat)(ops:List Oper):Prop:=ops.all (fun o=>!cu E o)=true/\(E.pairs id ops.length).all (fun p=>quietAt ops p.1&&quietAt ops p.2)=true
@[congr] theorem aaA {E:Env} {id:Nat} {ops:List Oper}:Em E id ops=Em E id ops:=rfl
def W(E:Env):Code->List AV->Hp->(Ex->List AV->Hp->Prop)->Prop
 |.skip,ts,H,Q=>Q .normal ts H
 |.exit id,ts,H,Q=>Q (.exit id) ts H
 |.ret,ts,H,Q=>Q .ret ts H
 |.seq a b,ts,H,Q=>W E a ts H (Ax (fun ts H=>W E b ts H Q) Q)
 |.block id a,ts,H,Q=>W E a ts H (qf id Q)
 |.cond c a b,ts,H,Q=>ck (cn ts c) fun v=>An v (W E a ts H Q) (W E b ts H Q)
 |.region id ops false,ts,H,Q=>fA E ops.toList ops.toList ts H (Q .normal)
 |.region id ops true,ts,H,Q=>Em E id ops.toList/\fA E ops.toList ops.toList ts H (Q .normal)
 |c,ts,H,Q=>Cv E c ts H Q
theorem W.cv{E:Env}:∀{c:Code} {ts:List AV} {H:Hp} {Q:Ex->List AV->Hp->Prop},W E c ts H Q->Cv E c ts H Q
 |.skip,_,_,_,h=>Cv.skip h
 |.exit _,_,_,_,h=>Cv.exit h
 |.ret,_,_,_,h=>Cv.ret h
 |.seq a b,ts,H,Q,h=>by
  refine Cv.seq ?_
  have:=W.cv (c:=a) h
  refine this.mono ?_;intro ex dx H' k;cases ex with
  |normal=>exact W.cv (c:=b) k
  |ret=>exact k
  |exit id=>exact k
 |.block id a,ts,H,Q,h=>by
  refine Cv.block ?_;refine(W.cv (c:=a) h).mono ?_;intro ex dx H' k;cases ex<;>exact k
 |.cond c a b,ts,H,Q,h=>by
  unfold W at h;cases hc:cn ts c with
  |none=>rw[hc]at h;exact h.elim
  |some v=>
   rw[hc,aR]at h;cases v<;>try exact h.elim
   rename_i z;refine Cv.cond hc ?_;rw[eG]at h;cases z
   ·simp only[aKT,if_false]at h⊢;exact W.cv h
   ·simp only[if_true]at h⊢;exact W.cv h
 |.region id ops false,_,_,_,h=>Cv.run h
 |.region id ops true,_,_,_,h=>Cv.aiG h.1.1 h.1.2 h.2
 |.loop _,_,_,_,h=>h
 |.label _,_,_,_,h=>h
 |.scope _,_,_,_,h=>h
 |.rangeFunc ..,_,_,_,h=>h
 |.goto _,_,_,_,h=>h
 |.refuse _,_,_,_,h=>h
section
variable{E:Env}{ts:List AV}{H:Hp}{Q:Ex->List AV->Hp->Prop}
theorem gJ:W E .skip ts H Q=Q .normal ts H:=rfl
theorem lY{id:Nat}:W E (.exit id) ts H Q=Q (.exit id) ts H:=rfl
theorem qk:W E .ret ts H Q=Q .ret ts H:=rfl
theorem gS{a b:Code}:W E (.seq a b) ts H Q=W E a ts H (Ax (fun ts H=>W E b ts H Q) Q):=rfl
theorem fF{id:Nat}{a:Code}:W E (.block id a) ts H Q=W E a ts H (qf id Q):=rfl
theorem gI{c:Operand}{a b:Code}:W E (.cond c a b) ts H Q=ck (cn ts c) fun v=>An v (W E a ts H Q) (W E b ts H Q):=rfl
theorem dB{id:Nat}{ops:Array Oper}:W E (.region id ops false) ts H Q=fA E ops.toList ops.toList ts H (Q .normal):=rfl
theorem Ci{id:Nat}{ops:Array Oper}:W E (.region id ops true) ts H Q=(Em E id ops.toList/\fA E ops.toList ops.toList ts H (Q .normal)):=rfl
theorem wb{b:Code}:W E (.loop b) ts H Q=Cv E (.loop b) ts H Q:=rfl
@[congr] theorem aui {c:Code} {ts dx:List AV} {H H':Hp} (h1:ts=dx) (h2:H=H'):W E c ts H Q=W E c dx H' Q:=by rw[h1,h2]
@[congr] theorem ai8 {k:List AV->Hp->Prop} {ex ex':Ex} {ts dx:List AV} {H H':Hp} (h:ex=ex') (h1:ts=dx) (h2:H=H'):Ax k Q ex ts H=Ax k Q ex' dx H':=by rw[h,h1,h2]
@[congr] theorem aet {id:Nat} {ex ex':Ex} {ts dx:List AV} {H H':Hp} (h:ex=ex') (h1:ts=dx) (h2:H=H'):qf id Q ex ts H=qf id Q ex' dx H':=by rw[h,h1,h2]
theorem fB{k:List AV->Hp->Prop}:Ax k Q .normal ts H=k ts H:=rfl
theorem Ge{k:List AV->Hp->Prop}:Ax k Q .ret ts H=Q .ret ts H:=rfl
theorem lO{k:List AV->Hp->Prop}{id:Nat}:Ax k Q (.exit id) ts H=Q (.exit id) ts H:=rfl
theorem gN{id:Nat}:qf id Q .normal ts H=Q .normal ts H:=rfl
theorem vV{id:Nat}:qf id Q .ret ts H=Q .ret ts H:=rfl
theorem hZ{id j:Nat}:qf id Q (.exit j) ts H=if j=id then Q .normal ts H else Q (.exit j) ts H:=rfl
end
def oS(E:Env)(results:List ResultVar)(G:AV->Prop)(ex:Ex)(ts:List AV)(H:Hp):Prop:=match ex with
 |.exit _=>False
 |_=>pT (iW H E ts results) fun rs=>tX (bW H [kU rs]) fun rl bs=>∃r,rl=[r]/\G r
theorem lu{E:Env}{results:List ResultVar}{G:AV->Prop}{ts:List AV}{H:Hp}:oS E results G .ret ts H=pT (iW H E ts results) fun rs=>tX (bW H [kU rs]) fun rl bs=>∃r,rl=[r]/\G r:=rfl
theorem XY{E:Env}{results:List ResultVar}{G:AV->Prop}{ts:List AV}{H:Hp}:oS E results G .normal ts H=pT (iW H E ts results) fun rs=>tX (bW H [kU rs]) fun rl bs=>∃r,rl=[r]/\G r:=rfl
theorem lk{G:AV->Prop}{v:AV}:(∃r,[v]=[r]/\G r)=G v:=by
 apply propext;constructor
 ·rintro⟨r,h,g⟩;cases h;exact g
 ·intro g;exact⟨v,rfl,g⟩
@[congr] theorem agF {E:Env} {results:List ResultVar} {G:AV->Prop} {ex:Ex} {ts dx:List AV} {H H':Hp} (h1:ts=dx) (h2:H=H'):oS E results G ex ts H=oS E results G ex dx H':=by rw[h1,h2]
theorem jy{E:Env}{ts:List AV}{H:Hp}:iW H E ts []=some []:=rfl
theorem uM{E:Env}{ts:List AV}{H:Hp}{i:Nat}{rs:List ResultVar}:iW H E ts (.tmp i::rs)=Sd (some (gt ts i)) (iW H E ts rs):=by
 rw[iW];cases iW H E ts rs<;>rfl
theorem mf{E:Env}{ts:List AV}{H:Hp}{a t:Nat}{rs:List ResultVar}:iW H E ts (.cell a t::rs)=Sd (gT E H t (gt ts a)) (iW H E ts rs):=by
 rw[iW];show(match gT E H t (gt ts a),iW H E ts rs with|some v,some vs=>some (v::vs)|_,_=>none)=_
 cases gT E H t (gt ts a)<;>cases iW H E ts rs<;>rfl
theorem xu{v:AV}:kU [v]=v:=rfl
theorem asP{u v:AV}:kU [u,v]=.tuple [u,v]:=rfl
theorem alP{u v w:AV}:kU [u,v,w]=.tuple [u,v,w]:=rfl
theorem Yn{E:Env}{f:Nat}{code:Code}{nt:Nat}{results:List ResultVar}{pu du:Bool}{args:List AV}{G:AV->Prop}(mP:E.ov f args=none)(jE:E.fn f=some {code:=code,ntmps:=nt,results:=results,pure:=pu,fL:=du})(hp:pu=true)
  (h:W E code (args++aK3 (nt-args.length) aZ) [] (oS E results G)):∃r,aP E f args=some r/\G r:=by
 have:∃r,mU E f args r/\G r:=by
  refine Fm mP jE hp ((W.cv h).mono ?_);intro ex ts H k;cases ex with
  |exit id=>exact k.elim
  |normal=>
   rw[XY]at k;refine⟨fun id h=>(by cases h),?_⟩;show∃rs r bs,iW H E ts results=some rs/\_
   cases h1:iW H E ts results with
   |none=>rw[h1]at k;exact k.elim
   |some rs=>
    rw[h1,ch]at k;cases h2:bW H [kU rs]with
    |none=>rw[h2]at k;exact k.elim
    |some y=>
     obtain⟨rl,bs⟩:=y;rw[h2,dQ]at k;obtain⟨r,rfl,g⟩:=k;exact⟨rs,r,bs,rfl,h2,g⟩
  |ret=>
   rw[lu]at k;refine⟨fun id h=>(by cases h),?_⟩;show∃rs r bs,iW H E ts results=some rs/\_
   cases h1:iW H E ts results with
   |none=>rw[h1]at k;exact k.elim
   |some rs=>
    rw[h1,ch]at k;cases h2:bW H [kU rs]with
    |none=>rw[h2]at k;exact k.elim
    |some y=>
     obtain⟨rl,bs⟩:=y;rw[h2,dQ]at k;obtain⟨r,rfl,g⟩:=k;exact⟨rs,r,bs,rfl,h2,g⟩
 obtain⟨r,h1,h2⟩:=this;exact⟨r,eh h1,h2⟩
theorem fn1{E:Env}{f:Nat}{code:Code}{nt:Nat}{results:List ResultVar}{pu du:Bool}{a:AV}{G:AV->Prop}(mP:E.ov f [a]=none)(jE:E.fn f=some {code:=code,ntmps:=nt,results:=results,pure:=pu,fL:=du})(hp:pu=true)(hn:1<=nt)
  (h:∀ts:List AV,ts.length=nt->gt ts 0=a->W E code ts [] (oS E results G)):∃r,aP E f [a]=some r/\G r:=
 Yn mP jE hp (h _ (by simp;omega) rfl)
theorem fn2{E:Env}{f:Nat}{code:Code}{nt:Nat}{results:List ResultVar}{pu du:Bool}{a b:AV}{G:AV->Prop}(mP:E.ov f [a,b]=none)(jE:E.fn f=some {code:=code,ntmps:=nt,results:=results,pure:=pu,fL:=du})(hp:pu=true)(hn:2<=nt)
  (h:∀ts:List AV,ts.length=nt->gt ts 0=a->gt ts 1=b->W E code ts [] (oS E results G)):∃r,aP E f [a,b]=some r/\G r:=
 Yn mP jE hp (h _ (by simp;omega) rfl rfl)
theorem fn3{E:Env}{f:Nat}{code:Code}{nt:Nat}{results:List ResultVar}{pu du:Bool}{a b c:AV}{G:AV->Prop}(mP:E.ov f [a,b,c]=none)(jE:E.fn f=some {code:=code,ntmps:=nt,results:=results,pure:=pu,fL:=du})(hp:pu=true)(hn:3<=nt)
  (h:∀ts:List AV,ts.length=nt->gt ts 0=a->gt ts 1=b->gt ts 2=c->W E code ts [] (oS E results G)):∃r,aP E f [a,b,c]=some r/\G r:=
 Yn mP jE hp (h _ (by simp;omega) rfl rfl rfl)
end Dv
namespace Dv
open Go Go.RowKit
def DR(E:Env)(f:Nat)(al:List AV)(H:Hp)(r:AV)(H':Hp):Prop:=∃n,ue E (dK E n) f al H=some (r,H')
theorem DR.uniq{E:Env}{f:Nat}{al:List AV}{H:Hp}{r s:AV}{H1 H2:Hp}(h:DR E f al H r H1)(k:DR E f al H s H2):r=s/\H1=H2:=by
 obtain⟨m,hm⟩:=h;obtain⟨n,hn⟩:=k;have a:=qB (jc (E:=E) (aNY m n)) _ _ _ _ hm;have b:=qB (jc (E:=E) (aNX m n)) _ _ _ _ hn;rw[a]at b;simpa using b
open Classical in
noncomputable def de(E:Env)(f:Nat)(al:List AV)(H:Hp):Option (AV×Hp):=if h:∃x:AV×Hp,DR E f al H x.1 x.2 then some h.choose else none
theorem CZ{E:Env}{f:Nat}{al:List AV}{H H':Hp}{r:AV}(h:DR E f al H r H'):de E f al H=some (r,H'):=by
 have hx:∃x:AV×Hp,DR E f al H x.1 x.2:=⟨(r,H'),h⟩;unfold de;rw[dif_pos hx]
 have:=hx.choose_spec.uniq h
 rw[<-this.1,<-this.2]
theorem Rm{E:Env}{f:Nat}{al:List AV}{H H':Hp}{r:AV}(h:de E f al H=some (r,H')):DR E f al H r H':=by
 unfold de at h;split at h
 ·rename_i hx
  have:=aKV.inj h
  have hs:=hx.choose_spec;rw[this]at hs;exact hs
 ·cases h
def AQ(E:Env)(f:Nat)(al:List AV)(r:AV):Prop:=∃m,call E m f al=some r
theorem AQ.uniq{E:Env}{f:Nat}{al:List AV}{r s:AV}(h:AQ E f al r)(k:AQ E f al s):r=s:=by obtain⟨m,hm⟩:=h;obtain⟨n,hn⟩:=k;have a:=qt (E:=E) (aNY m n) _ _ _ hm;have b:=qt (E:=E) (aNX m n) _ _ _ hn;rw[a]at b;exact aKV.inj b
open Classical in
noncomputable def Cm(E:Env)(f:Nat)(al:List AV):Option AV:=if h:∃r,AQ E f al r then some h.choose else none
theorem UK{E:Env}{f:Nat}{al:List AV}{r:AV}(h:AQ E f al r):Cm E f al=some r:=by have hx:∃r,AQ E f al r:=⟨r,h⟩;unfold Cm;rw[dif_pos hx,hx.choose_spec.uniq h]
theorem QU{E:Env}{f:Nat}{al:List AV}{r:AV}(h:Cm E f al=some r):AQ E f al r:=by
 unfold Cm at h;split at h
 ·rename_i hx
  have:=aKV.inj h
  exact this▸hx.choose_spec
 ·cases h
def bQ(E:Env)(f:Nat):Bool:=match E.fn f with
 |some {pure:=false,..}=>true
 |_=>false
def ku(E:Env)(f:Nat):Bool:=match E.fn f with
 |some {fL:=d,..}=>d
 |_=>false
abbrev WR:=List Nat×List Nat
def LC(E:Env)(dr st:Bool)(f:Nat)(bl:List AV)(H:Hp)(k:AV->cE->Prop):Prop:=
 if bQ E f=true then
  (if(ku E f&&(dr&&st))=true then∃wD bs r,bW H bl=some (wD,bs)/\AQ E f wD r/\k r (if bR r then cE.looks bs else cE.marks bs)
   else∃r H',DR E f bl H r H'/\k r (.Ee H'))
 else∃wD bs r,bW H bl=some (wD,bs)/\mU E f wD r/\k r (if bR r then cE.looks bs else cE.marks bs)
def dz(E:Env)(dr:Bool)(o:Oper)(aL:Nat)(ts:List AV)(H:Hp)(k:AV->cE->Prop):Prop:=
 match o.op with
 |.call {callee:=.value fo,args:=args,..}=>match cn ts fo,oa ts args.toList with
  |some (.func f first cap),some al=>LC E dr (rT fo) f (first++al++cap) H k
  |_,_=>False
 |_=>Hn (eL E Mw yz yz false ts H aL o) k
theorem adu{E:Env}{dr st:Bool}{f:Nat}{first cap args:List AV}{H:Hp}{k:AV->cE->Prop}(h:LC E dr st f (first++args++cap) H k):
  ∃n v e,(∀m,n<=m->pA E (pK E (dK E m)) (ue E (dK E m)) (yI (dK E m)) (dr&&st) H (.func f first cap) args=some (v,e))/\k v e:=by
 unfold LC at h;by_cases hi:bQ E f=true
 ·rw[if_pos hi]at h;unfold bQ at hi;have mI:∃fi,E.fn f=some fi/\fi.pure=false:=by
   split at hi
   ·rename_i heq;exact⟨_,heq,rfl⟩
   ·cases hi
  obtain⟨fi,mI,hpu⟩:=mI;obtain⟨code,ntmps,results,pu,du⟩:=fi;simp only at hpu;subst hpu;have ao8:ku E f=du:=by unfold ku;rw[mI]
  rw[ao8]at h;by_cases hd:(du&&(dr&&st))=true
  ·rw[if_pos hd]at h;obtain⟨wD,bs,r,h1,⟨n,h2⟩,h3⟩:=h;refine⟨n,r,_,fun m hm=>?_,h3⟩;have h2':pK E (dK E m) f wD=some r:=qt hm _ _ _ h2;unfold pA;simp only[mI,hd,if_true,h1,h2',aLT]
  ·rw[if_neg hd]at h;obtain⟨r,H',⟨n,h1⟩,h2⟩:=h;refine⟨n,r,_,fun m hm=>?_,h2⟩;have h1':=qB (jc (E:=E) hm) _ _ _ _ h1;unfold pA
   have:(du&&(dr&&st))=false:=by simpa using hd
   simp only[mI,this,aKT,if_false,h1',aLT]
 ·rw[if_neg hi]at h;obtain⟨wD,bs,r,h1,⟨hp,n,h2⟩,h3⟩:=h;refine⟨n,r,_,fun m hm=>?_,h3⟩;have h2':pK E (dK E m) f wD=some r:=qt hm _ _ _ h2;unfold pA;cases jE:E.fn f with
  |none=>simp only[jE,if_true,h1,h2',aLT]
  |some fi=>
   obtain⟨code,ntmps,results,pu,du⟩:=fi
   have:=hp _ jE
   simp only at this;subst this;simp only[jE,if_true,h1,h2',aLT]
theorem Ob{E:Env}{dr:Bool}{ops:List Oper}{o:Oper}{aL:Nat}{ts:List AV}{H:Hp}{k:AV->cE->Prop}(hw:b6 ops ts o=true)(h:dz E dr o aL ts H k):
  ∃n v e,(∀m,n<=m->cK E (pK E (dK E m)) (ue E (dK E m)) (yI (dK E m)) dr ops aL o ts H=some (bK o.dst v ts,e))/\k v e:=by
 unfold dz at h;split at h
 ·rename_i fo args eO h1;obtain⟨d,op,t,p,af,g⟩:=o;simp only at h1;subst h1;split at h
  ·rename_i f first cap al e1 e2
   obtain⟨n,v,e,h2,h3⟩:=adu h;refine⟨n,v,e,fun m hm=>?_,h3⟩;unfold cK;rw[if_pos hw];simp only[eL,e1,e2,h2 m hm]
  ·exact h.elim
 ·rename_i hnc;have hc:nS o=false:=by
   unfold nS
   split
   ·rename_i c Vu
    split
    ·rename_i f pU;obtain⟨callee,args,eO⟩:=c;simp only at pU;subst pU;exact absurd Vu (hnc f args eO)
    ·rfl
   ·rfl
  cases ho:eL E Mw yz yz false ts H aL o with
  |none=>rw[ho]at h;exact h.elim
  |some x=>
   obtain⟨v,e⟩:=x;rw[ho,Db]at h;refine⟨0,v,e,fun m _=>?_,h⟩;rw[Zp (dr':=dr) hc]at ho
   have:=WJ (SX (pK E (dK E m))) (EH (ue E (dK E m))) (EH (yI (dK E m))) ho
   unfold cK;rw[if_pos hw,this]
def uA:List Oper->List (Option Nat)
 |[]=>[]
 |o::l=>o.dst::uA l
theorem Mu:∀(l:List Oper) (j:Nat),((uA l)[j]?).bind id=(l[j]?).bind (·.dst)
 |[],j=>by simp[uA]
 |o::l,0=>rfl
 |o::l,j+1=>by simpa[uA]using Mu l j
def RF(ds:List (Option Nat))(j:Nat):Option Nat:=(ds[j]?).bind id
def gl(ds:List (Option Nat))(ts:List AV)(o:Oper):Bool:=
 match o.guard with
 |none=>true
 |some (j,want)=>match RF ds j with
  |none=>false
  |some d=>match ts[d]? with
   |some (.bool b)=>b==want
   |_=>false
theorem Nj{ops:List Oper}{ts:List AV}{o:Oper}:gl (uA ops) ts o=b6 ops ts o:=by
 unfold gl b6 RF;cases o.guard with
 |none=>rfl
 |some g=>
  obtain⟨j,want⟩:=g;simp only[Mu];rfl
def bV(E:Env)(dr tr:Bool)(ds:List (Option Nat)):List Oper->Nat->List AV->Hp->List WR->(List AV->Hp->List WR->Prop)->Prop
 |[],_,ts,H,l,q=>q ts H l
 |o::rest,aL,ts,H,l,q=>
  if gl ds ts o=true then
   (dr=true->cu E o=true->mD H[aL]?=true)/\
   dz E dr o (if dr=true then aL else H.length) ts H fun v e=>bV E dr tr ds rest (if dr=true/\cu E o=true then aL+1 else aL) (bK o.dst v ts) (e.app H) (if tr=true then bH E ts o e::l else l) q
  else(dr=true->cu E o=true->mD H[aL]?=true)/\
   bV E dr tr ds rest (if dr=true/\cu E o=true then aL+1 else aL) (bK o.dst aZ ts) H (if tr=true then bH E ts o (.bU [])::l else l) q
theorem bV.Z8{E:Env}{ops:List Oper}{q:List AV->Hp->Prop}:∀{rest:List Oper} {aL:Nat} {ts:List AV} {H:Hp} {l:List WR},bV E false false (uA ops) rest aL ts H l (fun ts H _=>q ts H)->LS E ops rest ts H q
 |[],_,ts,H,l,h=>LS.nil h
 |o::rest,aL,ts,H,l,h=>by
  unfold bV at h;simp only[aKT,if_false,false_and,Nj]at h;by_cases hw:b6 ops ts o=true
  ·rw[if_pos hw]at h;obtain⟨n,v,e,h1,h2⟩:=Ob (ops:=ops) hw h.2;obtain⟨m,dx,H',k1,k2⟩:=bV.Z8 h2;refine⟨max n m,dx,H',?_,k2⟩;unfold Cq;rw[h1 _ (aNY n m)];have l2:=jc (E:=E) (aNX n m);exact Er (uP l2) (qB l2) (xX l2) k1
  ·rw[if_neg hw]at h;exact LS.step (tY hw) (bV.Z8 h.2)
theorem bV.Kg{E:Env}{ops:List Oper}{tr:Bool}{q:List AV->Hp->List WR->Prop}:∀{rest:List Oper} {aL:Nat} {ts:List AV} {H:Hp} {l:List WR},bV E true tr (uA ops) rest aL ts H l q->qA E ops rest aL ts H (fun ts H l'=>q ts H (if tr=true then l'.reverse++l else l))
 |[],_,ts,H,l,h=>qA.nil (by cases tr<;>exact h)
 |o::rest,aL,ts,H,l,h=>by
  unfold bV at h;simp only[if_true,true_and,forall_const,Nj]at h;have kg:(cu E o=true->mD H[aL]?=true)->(cu E o&&!mD H[aL]?)=false:=by
   intro hr;cases hl:cu E o with
   |false=>rfl
   |true=>simp[hr hl]
  by_cases hw:b6 ops ts o=true
  ·rw[if_pos hw]at h;obtain⟨hr,h⟩:=h;obtain⟨n,v,e,h1,h2⟩:=Ob (ops:=ops) hw h;obtain⟨m,dx,H',l',k1,k2⟩:=bV.Kg h2;refine⟨max n m,dx,H',bH E ts o e::l',?_,?_⟩
   ·unfold s9;rw[kg hr];simp only[aKT,if_false];rw[h1 _ (aNY n m)];have l2:=jc (E:=E) (aNX n m);simp only[A8 (uP l2) (qB l2) (xX l2) k1]
   ·cases tr<;>simpa using k2
  ·rw[if_neg hw]at h;obtain⟨hr,h⟩:=h;obtain⟨m,dx,H',l',k1,k2⟩:=bV.Kg h;refine⟨m,dx,H',bH E ts o (.bU [])::l',?_,?_⟩
   ·unfold s9;rw[kg hr];simp only[aKT,if_false];rw[tY hw]
    have:(cE.bU []).app H=H:=rfl
    simp only[this,k1]
   ·cases tr<;>simpa using k2
theorem Cv.azF{E:Env}{id:Nat}{ops:Array Oper}{ts:List AV}{H:Hp}{Q:Ex->List AV->Hp->Prop}(h:bV E false false (uA ops.toList) ops.toList 0 ts H [] (fun ts H _=>Q .normal ts H)):Cv E (.region id ops false) ts H Q:=Cv.region (bV.Z8 h)
def wF:Nat->Hp
 |0=>[]
 |n+1=>eP::wF n
theorem Gk:∀n,wF n=aK3 n eP
 |0=>rfl
 |n+1=>by rw[List.replicate_succ,<-Gk n];rfl
def X4(b:Bool)(n:Nat):Nat:=if b=true then n+1 else n
theorem ag4{n:Nat}:X4 true n=n+1:=rfl
theorem akq{n:Nat}:X4 false n=n:=rfl
def qd(E:Env):List Oper->Nat
 |[]=>0
 |o::l=>X4 (cu E o) (qd E l)
theorem Cn(E:Env):∀l,qd E l=l.countP (cu E)
 |[]=>rfl
 |o::l=>by
  rw[List.countP_cons,<-Cn E l,qd,X4]
  split<;>rfl
theorem Cv.aoi{E:Env}{id:Nat}{ops:Array Oper}{ts:List AV}{H:Hp}{Q:Ex->List AV->Hp->Prop}
  (h:bV E true true (uA ops.toList) ops.toList H.length ts (H++wF (qd E ops.toList)) [] (fun ts H l=>(E.pairs id ops.toList.length).all (ur l.reverse)=true/\Q .normal ts H)):Cv E (.region id ops true) ts H Q:=by
 rw[Gk,Cn]at h;obtain⟨n,dx,H',l,h1,h2,h3⟩:=bV.Kg h;refine⟨n+1,.normal,dx,H',?_,h3⟩;show dI E (dK E n) (.region id ops true) ts H=_
 unfold dI Br;simp only[List.append_nil,List.reverse_reverse,if_true]at h2;simp only[if_true,h1,h2,aLT]
theorem Cv.aqg{E:Env}{id:Nat}{ops:Array Oper}{ts:List AV}{H:Hp}{Q:Ex->List AV->Hp->Prop}(hp:E.pairs id ops.toList.length=[])
  (h:bV E true false (uA ops.toList) ops.toList H.length ts (H++wF (qd E ops.toList)) [] (fun ts H _=>Q .normal ts H)):Cv E (.region id ops true) ts H Q:=by
 rw[Gk,Cn]at h;obtain⟨n,dx,H',l,h1,h3⟩:=bV.Kg h;refine⟨n+1,.normal,dx,H',?_,h3⟩;show dI E (dK E n) (.region id ops true) ts H=_
 unfold dI Br;simp only[if_true,h1,hp,List.all_nil,aLT]
end Dv
