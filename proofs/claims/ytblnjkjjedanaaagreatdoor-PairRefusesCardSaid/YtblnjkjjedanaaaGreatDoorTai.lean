/- A part of the proof that PairRefuses returns true for every input; no condition of its own. -/
import Derived.Test.YtblnjkjjedanaaaGreatDoorTah
set_option linter.all false
set_option maxHeartbeats 100000000
set_option maxRecDepth 100000
open Bool renaming false_eq_true->aLs
open Option renaming map_some->aNj,some->aLv
open Nat renaming le_max_right->aOC,le_max_left->aOD
namespace Dv
open Classical in
noncomputable def aO(E:Env)(f:Nat)(al:List AV):Option AV:=if h:∃r,mw E f al r then some h.choose else none
open Go Go.RowKit
theorem mw.uniq{E:Env}{f:Nat}{al:List AV}{r s:AV}(h:mw E f al r)(k:mw E f al s):r=s:=by obtain⟨_,m,hm⟩:=h;obtain⟨_,n,hn⟩:=k;have a:=qM (E:=E) (aOD m n) _ _ _ hm;have b:=qM (E:=E) (aOC m n) _ _ _ hn;rw[a]at b;exact aLv.inj b
theorem ed{E:Env}{f:Nat}{al:List AV}{r:AV}(h:mw E f al r):aO E f al=some r:=by have hx:∃r,mw E f al r:=⟨r,h⟩;unfold aO;rw[dif_pos hx,hx.choose_spec.uniq h]
theorem yH{E:Env}{f:Nat}{al:List AV}{r:AV}(h:aO E f al=some r):mw E f al r:=by
 unfold aO at h;split at h
 ·rename_i hx
  have:=aLv.inj h
  exact this▸hx.choose_spec
 ·cases h
def FN(x:Option (AV×cJ))(k:AV->cJ->Prop):Prop:=match x with
 |some (v,e)=>k v e
 |none=>False
theorem AI{v:AV}{e:cJ}{k:AV->cJ->Prop}:FN (some (v,e)) k=k v e:=rfl
@[congr] theorem afZ {a b:Option (AV×cJ)} {k:AV->cJ->Prop} (h:a=b):FN a k=FN b k:=by rw[h]
def oP(x:Option (List AV))(k:List AV->Prop):Prop:=match x with
 |some l=>k l
 |none=>False
theorem b8{l:List AV}{k:List AV->Prop}:oP (some l) k=k l:=rfl
@[congr] theorem afW {a b:Option (List AV)} {k:List AV->Prop} (h:a=b):oP a k=oP b k:=by rw[h]
def AK(x:Option (List (Nat×AV)))(k:List (Nat×AV)->Prop):Prop:=match x with
 |some l=>k l
 |none=>False
theorem hJ{l:List (Nat×AV)}{k:List (Nat×AV)->Prop}:AK (some l) k=k l:=rfl
@[congr] theorem af7 {a b:Option (List (Nat×AV))} {k:List (Nat×AV)->Prop} (h:a=b):AK a k=AK b k:=by rw[h]
def zd(x:Option (List AV×List Nat))(k:List AV->List Nat->Prop):Prop:=match x with
 |some (v,e)=>k v e
 |none=>False
theorem dT{v:List AV}{e:List Nat}{k:List AV->List Nat->Prop}:zd (some (v,e)) k=k v e:=rfl
@[congr] theorem af0 {a b:Option (List AV×List Nat)} {k:List AV->List Nat->Prop} (h:a=b):zd a k=zd b k:=by rw[h]
def Ds(fv:AV)(al:List AV)(k:Nat->List AV->Prop):Prop:=match fv with
 |.func f first cap=>k f (first++al++cap)
 |_=>False
theorem nY{f:Nat}{al:List AV}{k:Nat->List AV->Prop}:Ds (.func f [] []) al k=k f al:=by simp[Ds]
theorem xq{f:Nat}{a c al:List AV}{k:Nat->List AV->Prop}:Ds (.func f a c) al k=k f (a++al++c):=rfl
@[congr] theorem afY {a b:AV} {al bl:List AV} {k:Nat->List AV->Prop} (h:a=b) (h2:al=bl):Ds a al k=Ds b bl k:=by rw[h,h2]
def Ql(x:Option AV)(l:Option (List AV)):Option (List AV):=match x,l with
 |some v,some vs=>some (v::vs)
 |_,_=>none
theorem cQ{v:AV}{l:List AV}:Ql (some v) (some l)=some (v::l):=rfl
theorem jq{ts:List AV}{x:Operand}{xs:List Operand}:nL ts (x::xs)=Ql (ch ts x) (nL ts xs):=by
 rw[nL];cases ch ts x<;>cases nL ts xs<;>rfl
def ad9(i:Nat)(x:Option AV)(l:Option (List (Nat×AV))):Option (List (Nat×AV)):=match x,l with
 |some v,some vs=>some ((i,v)::vs)
 |_,_=>none
theorem mU{i:Nat}{v:AV}{l:List (Nat×AV)}:ad9 i (some v) (some l)=some ((i,v)::l):=rfl
theorem D9{ts:List AV}:xH ts []=some []:=rfl
theorem D8{ts:List AV}{i:Nat}{x:Operand}{xs:List (Nat×Operand)}:xH ts ((i,x)::xs)=ad9 i (ch ts x) (xH ts xs):=by
 rw[xH];cases ch ts x<;>cases xH ts xs<;>rfl
def yw(c a b:Option AV):Option AV:=match c with
 |some (.bool t)=>if t then a else b
 |_=>none
theorem Q6{a b:Option AV}:yw (some (.bool true)) a b=a:=rfl
theorem Q5{a b:Option AV}:yw (some (.bool false)) a b=b:=rfl
def iJ(E:Env)(t:Nat)(vs:List (Nat×AV)):Option AV:=match gQ E t,(E.ty t).bind (·.zero)with
 |some pl,some z=>(hZ pl z vs).map .agg
 |_,_=>none
def oG(b:Bool)(H:Hp)(al:List AV):Option (List AV×List Nat):=if b then some (al,[])else bW H al
theorem gS{H:Hp}{al:List AV}:bW H al=oG (bE al) H al:=by
 unfold oG;cases h:bE al
 ·rfl
 ·rw[bW,h];rfl
theorem qu{H:Hp}{al:List AV}:oG true H al=some (al,[]):=rfl
section
variable{E:Env}{ops rest:List Oper}{ts:List AV}{H:Hp}{q:List AV->Hp->Prop}{d:Option Nat}{t:Nat}{p:String}{af:Array Edge}
theorem qB{o:Oper}(hg:o.guard=none)(hc:∀c,o.op=.call c->∀f,c.callee≠ .value f):ft E ops (o::rest) ts H q=FN (eN E LQ yg yg false ts H H.length o) fun v e=>ft E ops rest (bQ o.dst v ts) (e.app H) q:=by
 rw[qq hg hc];unfold cO;rw[if_pos (show bU ops ts o=true by unfold bU;rw[hg])];cases eN E LQ yg yg false ts H H.length o with
 |none=>rfl
 |some x=>rfl
theorem qK{H:Hp}:(cJ.bM []).app H=H:=rfl
theorem xx{H:Hp}{l:List Nat}:(cJ.looks l).app H=H:=rfl
theorem vT{H:Hp}{b:Bool}:(if b=true then cJ.looks []else cJ.marks []).app H=H:=by cases b<;>rfl
theorem UB{H:Hp}{x:cG}:(cJ.bM [(H.length,x)]).app H=H++[x]:=by
 show dP H H.length x=_
 unfold dP;rw[if_neg (by omega)]
theorem ga{x:Operand}:ft E ops (⟨d,.move x,t,p,af,none⟩::rest) ts H q=cu (ch ts x) fun v=>ft E ops rest (bQ d v ts) H q:=by
 rw[qB rfl (by intro c h;cases h)];show FN ((ch ts x).map _) _=_
 cases ch ts x<;>rfl
theorem dF{x:Operand}:ft E ops (⟨d,.assign x,t,p,af,none⟩::rest) ts H q=cu (ch ts x) fun v=>ft E ops rest (bQ d v ts) H q:=by
 rw[qB rfl (by intro c h;cases h)];show FN ((ch ts x).map _) _=_
 cases ch ts x<;>rfl
theorem VR{c a b:Operand}:ft E ops (⟨d,.pick c a b,t,p,af,none⟩::rest) ts H q=cu (yw (ch ts c) (ch ts a) (ch ts b)) fun v=>ft E ops rest (bQ d v ts) H q:=by
 rw[qB rfl (by intro c h;cases h)];simp only[eN,yw];cases hc:ch ts c with
 |none=>rfl
 |some v=>
  cases v<;>try rfl
  rename_i z;cases z
  ·simp only[aLs,if_false];cases ch ts b<;>rfl
  ·simp only[if_true];cases ch ts a<;>rfl
theorem pn{t1:Nat}:ft E ops (⟨d,.alloc t1,t,p,af,none⟩::rest) ts H q=cu (gX E t1) fun z=>ft E ops rest (bQ d (.b6 H.length 0) ts) (H++[.cells .live z.cells]) q:=by
 rw[qB rfl (by intro c h;cases h)];simp only[eN];cases gX E t1 with
 |none=>rfl
 |some z=>simp only[aNj,AI,aP,UB]
theorem B4{t1:Nat}{x:Operand}:ft E ops (⟨d,.box t1 x,t,p,af,none⟩::rest) ts H q=cu (ch ts x) fun z=>ft E ops rest (bQ d (.b6 H.length 0) ts) (H++[.cells .live z.cells]) q:=by
 rw[qB rfl (by intro c h;cases h)];simp only[eN];cases ch ts x with
 |none=>rfl
 |some z=>simp only[aNj,AI,aP,UB]
theorem iv{t1:Nat}{x:Operand}:ft E ops (⟨d,.load t1 x,t,p,af,none⟩::rest) ts H q=cu (ch ts x) fun a=>cu (gl E H t1 a) fun v=>ft E ops rest (bQ d v ts) H q:=by
 rw[qB rfl (by intro c h;cases h)];simp only[eN];cases ch ts x with
 |none=>rfl
 |some a=>simp only[aP];cases gl E H t1 a<;>rfl
theorem gh{t1:Nat}{x y:Operand}:ft E ops (⟨none,.store t1 x y,t,p,af,none⟩::rest) ts H q=cu (ch ts x) fun a=>cu (ch ts y) fun v=>AJ (iC E H t1 a v) fun l=>ft E ops rest ts ((cJ.bM l).app H) q:=by
 rw[qB rfl (by intro c h;cases h)];simp only[eN];cases ch ts x with
 |none=>rfl
 |some a=>
  cases ch ts y with
  |none=>rfl
  |some v=>simp only[aP];cases iC E H t1 a v<;>rfl
theorem ie{op:BinOp}{t1 t2:Nat}{x y:Operand}:ft E ops (⟨d,.binOp op t1 x y t2,t,p,af,none⟩::rest) ts H q=cu (ch ts x) fun a=>cu (ch ts y) fun b=>cu (dy E (bK x||bK y) op t1 a b) fun v=>ft E ops rest (bQ d v ts) H q:=by
 rw[qB rfl (by intro c h;cases h)];simp only[eN];cases ch ts x with
 |none=>rfl
 |some a=>
  cases ch ts y with
  |none=>rfl
  |some b=>simp only[aP];cases dy E (bK x||bK y) op t1 a b<;>rfl
theorem RZ{op:UnOp}{t1:Nat}{x:Operand}:ft E ops (⟨d,.unOp op t1 x,t,p,af,none⟩::rest) ts H q=cu (ch ts x) fun a=>cu (YP op a) fun v=>ft E ops rest (bQ d v ts) H q:=by
 rw[qB rfl (by intro c h;cases h)];simp only[eN];cases ch ts x with
 |none=>rfl
 |some a=>simp only[aP];cases YP op a<;>rfl
theorem Ek{t1 f:Nat}{x:Operand}:ft E ops (⟨d,.fieldAddr t1 x f,t,p,af,none⟩::rest) ts H q=cu (ch ts x) fun a=>cu (dx E t1 a f) fun v=>ft E ops rest (bQ d v ts) H q:=by
 rw[qB rfl (by intro c h;cases h)];simp only[eN];cases ch ts x with
 |none=>rfl
 |some a=>simp only[aP];cases dx E t1 a f<;>rfl
theorem wD{t1:Nat}{x y:Operand}:ft E ops (⟨d,.indexAddr t1 x y,t,p,af,none⟩::rest) ts H q=cu (ch ts x) fun a=>cu (ch ts y) fun b=>cu (cI E t1 a b) fun v=>ft E ops rest (bQ d v ts) H q:=by
 rw[qB rfl (by intro c h;cases h)];simp only[eN];cases ch ts x with
 |none=>rfl
 |some a=>
  cases ch ts y with
  |none=>rfl
  |some b=>simp only[aP];cases cI E t1 a b<;>rfl
def nth(v:AV)(i:Nat):Option AV:=match v with
 |.tuple vs=>vs[i]?
 |_=>none
theorem SQ{vs:List AV}{i:Nat}:nth (.tuple vs) i=vs[i]?:=rfl
theorem QC{t1:Nat}{ps:Array (Nat×Operand)}:ft E ops (⟨d,.build t1 ps,t,p,af,none⟩::rest) ts H q=AK (xH ts ps.toList) fun vs=>cu (iJ E t1 vs) fun v=>ft E ops rest (bQ d v ts) H q:=by
 rw[qB rfl (by intro c h;cases h)];simp only[eN,iJ];cases xH ts ps.toList with
 |none=>cases gQ E t1<;>cases (E.ty t1).bind (·.zero)<;>rfl
 |some vs=>
  cases gQ E t1 with
  |none=>rfl
  |some pl=>
   cases (E.ty t1).bind (·.zero)with
   |none=>rfl
   |some z=>simp only[hJ];cases hZ pl z vs<;>rfl
theorem pR{t1:Nat}{x y:Operand}:ft E ops (⟨d,.makeSlice t1 x y,t,p,af,none⟩::rest) ts H q=cu (ch ts x) fun a=>cu (ch ts y) fun b=>sE (fL E H.length t1 a b) fun r=>ft E ops rest (bQ d r.1 ts) ((cJ.bM r.2).app H) q:=by
 rw[qB rfl (by intro c h;cases h)];simp only[eN];cases ch ts x with
 |none=>rfl
 |some a=>
  cases ch ts y with
  |none=>rfl
  |some b=>simp only[aP];cases fL E H.length t1 a b<;>rfl
theorem eT{bi:Builtin}{args:Array Operand}{eg:Array Nat}:ft E ops (⟨d,.call {callee:=.builtin bi,args:=args,argTypes:=eg},t,p,af,none⟩::rest) ts H q=
  oP (nL ts args.toList) fun al=>sE (aZ E H H.length bi eg.toList al) fun r=>ft E ops rest (bQ d r.1 ts) ((cJ.bM r.2).app H) q:=by
 rw[qB rfl (by intro c h f hf;cases h;cases hf)];simp only[eN];cases nL ts args.toList with
 |none=>rfl
 |some al=>simp only[b8];cases aZ E H H.length bi eg.toList al<;>rfl
theorem rW{x:Operand}{args:Array Operand}{eg:Array Nat}:ft E ops (⟨d,.call {callee:=.value x,args:=args,argTypes:=eg},t,p,af,none⟩::rest) ts H q=
  cu (ch ts x) fun fv=>oP (nL ts args.toList) fun al=>Ds fv al fun f bl=>zd (bW H bl) fun cl bs=>cu (aO E f cl) fun r=>ft E ops rest (bQ d r ts) ((if bJ r=true then cJ.looks bs else cJ.marks bs).app H) q:=by
 rw[Mj];cases ch ts x with
 |none=>rfl
 |some fv=>
  cases nL ts args.toList with
  |none=>cases fv<;>rfl
  |some al=>
   cases fv<;>try rfl
   rename_i f a c;simp only[aP,b8,xq];apply propext;constructor
   ·rintro⟨vS,bs,r,h1,h2,h3⟩;rw[h1,dT,ed h2,aP];exact h3
   ·intro h;cases hz:bW H (a++al++c)with
    |none=>rw[hz]at h;exact h.elim
    |some y=>
     obtain⟨cl,bs⟩:=y;rw[hz,dT]at h;cases hr:aO E f cl with
     |none=>rw[hr]at h;exact h.elim
     |some r=>rw[hr,aP]at h;exact⟨cl,bs,r,rfl,yH hr,h⟩
end
def zg(k:List AV->Hp->Prop)(Q:Ex->List AV->Hp->Prop)(ex:Ex)(ts:List AV)(H:Hp):Prop:=match ex with
 |.normal=>k ts H
 |e=>Q e ts H
def qg(id:Nat)(Q:Ex->List AV->Hp->Prop)(ex:Ex)(ts:List AV)(H:Hp):Prop:=match ex with
 |.exit j=>if j=id then Q .normal ts H else Q (.exit j) ts H
 |e=>Q e ts H
def yZ(v:AV)(a b:Prop):Prop:=match v with
 |.bool t=>if t=true then a else b
 |_=>False
theorem eG{t:Bool}{a b:Prop}:yZ (.bool t) a b=if t=true then a else b:=rfl
@[congr] theorem adN {u v:AV} {a b:Prop} (h:u=v):yZ u a b=yZ v a b:=by rw[h]
def CY(E:Env)(id:Nat)(ops:List Oper):Prop:=ops.all (fun o=>!ck E o)=true/\(E.pairs id ops.length).all (fun p=>quietAt ops p.1&&quietAt ops p.2)=true
@[congr] theorem Zd {E:Env} {id:Nat} {ops:List Oper}:CY E id ops=CY E id ops:=rfl
def W(E:Env):Code->List AV->Hp->(Ex->List AV->Hp->Prop)->Prop
 |.skip,ts,H,Q=>Q .normal ts H
 |.exit id,ts,H,Q=>Q (.exit id) ts H
 |.ret,ts,H,Q=>Q .ret ts H
 |.seq a b,ts,H,Q=>W E a ts H (zg (fun ts H=>W E b ts H Q) Q)
 |.block id a,ts,H,Q=>W E a ts H (qg id Q)
 |.cond c a b,ts,H,Q=>cu (ch ts c) fun v=>yZ v (W E a ts H Q) (W E b ts H Q)
 |.region id ops false,ts,H,Q=>ft E ops.toList ops.toList ts H (Q .normal)
 |.region id ops true,ts,H,Q=>CY E id ops.toList/\ft E ops.toList ops.toList ts H (Q .normal)
 |c,ts,H,Q=>Cv E c ts H Q
theorem W.cv{E:Env}:∀{c:Code} {ts:List AV} {H:Hp} {Q:Ex->List AV->Hp->Prop},W E c ts H Q->Cv E c ts H Q
 |.skip,_,_,_,h=>Cv.skip h
 |.exit _,_,_,_,h=>Cv.exit h
 |.ret,_,_,_,h=>Cv.ret h
 |.seq a b,ts,H,Q,h=>by
  refine Cv.seq ?_
  have:=W.cv (c:=a) h
  refine this.mono ?_;intro ex df H' k;cases ex with
  |normal=>exact W.cv (c:=b) k
  |ret=>exact k
  |exit id=>exact k
 |.block id a,ts,H,Q,h=>by
  refine Cv.block ?_;refine(W.cv (c:=a) h).mono ?_;intro ex df H' k;cases ex<;>exact k
 |.cond c a b,ts,H,Q,h=>by
  unfold W at h;cases hc:ch ts c with
  |none=>rw[hc]at h;exact h.elim
  |some v=>
   rw[hc,aP]at h;cases v<;>try exact h.elim
   rename_i z;refine Cv.cond hc ?_;rw[eG]at h;cases z
   ·simp only[aLs,if_false]at h⊢;exact W.cv h
   ·simp only[if_true]at h⊢;exact W.cv h
 |.region id ops false,_,_,_,h=>Cv.run h
 |.region id ops true,_,_,_,h=>Cv.ajJ h.1.1 h.1.2 h.2
 |.loop _,_,_,_,h=>h
 |.label _,_,_,_,h=>h
 |.scope _,_,_,_,h=>h
 |.rangeFunc ..,_,_,_,h=>h
 |.goto _,_,_,_,h=>h
 |.refuse _,_,_,_,h=>h
section
variable{E:Env}{ts:List AV}{H:Hp}{Q:Ex->List AV->Hp->Prop}
theorem gD:W E .skip ts H Q=Q .normal ts H:=rfl
theorem kX{id:Nat}:W E (.exit id) ts H Q=Q (.exit id) ts H:=rfl
theorem qx:W E .ret ts H Q=Q .ret ts H:=rfl
theorem gM{a b:Code}:W E (.seq a b) ts H Q=W E a ts H (zg (fun ts H=>W E b ts H Q) Q):=rfl
theorem fE{id:Nat}{a:Code}:W E (.block id a) ts H Q=W E a ts H (qg id Q):=rfl
theorem gz{c:Operand}{a b:Code}:W E (.cond c a b) ts H Q=cu (ch ts c) fun v=>yZ v (W E a ts H Q) (W E b ts H Q):=rfl
theorem dm{id:Nat}{ops:Array Oper}:W E (.region id ops false) ts H Q=ft E ops.toList ops.toList ts H (Q .normal):=rfl
theorem AN{id:Nat}{ops:Array Oper}:W E (.region id ops true) ts H Q=(CY E id ops.toList/\ft E ops.toList ops.toList ts H (Q .normal)):=rfl
theorem vR{b:Code}:W E (.loop b) ts H Q=Cv E (.loop b) ts H Q:=rfl
@[congr] theorem ast {c:Code} {ts df:List AV} {H H':Hp} (h1:ts=df) (h2:H=H'):W E c ts H Q=W E c df H' Q:=by rw[h1,h2]
@[congr] theorem af8 {k:List AV->Hp->Prop} {ex ex':Ex} {ts df:List AV} {H H':Hp} (h:ex=ex') (h1:ts=df) (h2:H=H'):zg k Q ex ts H=zg k Q ex' df H':=by rw[h,h1,h2]
@[congr] theorem ZB {id:Nat} {ex ex':Ex} {ts df:List AV} {H H':Hp} (h:ex=ex') (h1:ts=df) (h2:H=H'):qg id Q ex ts H=qg id Q ex' df H':=by rw[h,h1,h2]
theorem fu{k:List AV->Hp->Prop}:zg k Q .normal ts H=k ts H:=rfl
theorem Du{k:List AV->Hp->Prop}:zg k Q .ret ts H=Q .ret ts H:=rfl
theorem kW{k:List AV->Hp->Prop}{id:Nat}:zg k Q (.exit id) ts H=Q (.exit id) ts H:=rfl
theorem gH{id:Nat}:qg id Q .normal ts H=Q .normal ts H:=rfl
theorem vN{id:Nat}:qg id Q .ret ts H=Q .ret ts H:=rfl
theorem gR{id j:Nat}:qg id Q (.exit j) ts H=if j=id then Q .normal ts H else Q (.exit j) ts H:=rfl
end
def mS(E:Env)(results:List ResultVar)(G:AV->Prop)(ex:Ex)(ts:List AV)(H:Hp):Prop:=match ex with
 |.exit _=>False
 |_=>oP (iU H E ts results) fun rs=>zd (bW H [kE rs]) fun rl bs=>∃r,rl=[r]/\G r
theorem kK{E:Env}{results:List ResultVar}{G:AV->Prop}{ts:List AV}{H:Hp}:mS E results G .ret ts H=oP (iU H E ts results) fun rs=>zd (bW H [kE rs]) fun rl bs=>∃r,rl=[r]/\G r:=rfl
theorem Uq{E:Env}{results:List ResultVar}{G:AV->Prop}{ts:List AV}{H:Hp}:mS E results G .normal ts H=oP (iU H E ts results) fun rs=>zd (bW H [kE rs]) fun rl bs=>∃r,rl=[r]/\G r:=rfl
theorem kO{G:AV->Prop}{v:AV}:(∃r,[v]=[r]/\G r)=G v:=by
 apply propext;constructor
 ·rintro⟨r,h,g⟩;cases h;exact g
 ·intro g;exact⟨v,rfl,g⟩
@[congr] theorem afV {E:Env} {results:List ResultVar} {G:AV->Prop} {ex:Ex} {ts df:List AV} {H H':Hp} (h1:ts=df) (h2:H=H'):mS E results G ex ts H=mS E results G ex df H':=by rw[h1,h2]
theorem jE{E:Env}{ts:List AV}{H:Hp}:iU H E ts []=some []:=rfl
theorem uU{E:Env}{ts:List AV}{H:Hp}{i:Nat}{rs:List ResultVar}:iU H E ts (.tmp i::rs)=Ql (some (gt ts i)) (iU H E ts rs):=by
 rw[iU];cases iU H E ts rs<;>rfl
theorem k9{E:Env}{ts:List AV}{H:Hp}{a t:Nat}{rs:List ResultVar}:iU H E ts (.cell a t::rs)=Ql (gl E H t (gt ts a)) (iU H E ts rs):=by
 rw[iU];show(match gl E H t (gt ts a),iU H E ts rs with|some v,some vs=>some (v::vs)|_,_=>none)=_
 cases gl E H t (gt ts a)<;>cases iU H E ts rs<;>rfl
theorem wT{v:AV}:kE [v]=v:=rfl
theorem aqx{u v:AV}:kE [u,v]=.tuple [u,v]:=rfl
theorem aqy{u v w:AV}:kE [u,v,w]=.tuple [u,v,w]:=rfl
theorem VF{E:Env}{f:Nat}{code:Code}{nt:Nat}{results:List ResultVar}{pu du:Bool}{args:List AV}{G:AV->Prop}(mG:E.ov f args=none)(jj:E.fn f=some {code:=code,ntmps:=nt,results:=results,pure:=pu,eX:=du})(hp:pu=true)
  (h:W E code (args++List.replicate (nt-args.length) aX) [] (mS E results G)):∃r,aO E f args=some r/\G r:=by
 have:∃r,mw E f args r/\G r:=by
  refine DK mG jj hp ((W.cv h).mono ?_);intro ex ts H k;cases ex with
  |exit id=>exact k.elim
  |normal=>
   rw[Uq]at k;refine⟨fun id h=>(by cases h),?_⟩;show∃rs r bs,iU H E ts results=some rs/\_
   cases h1:iU H E ts results with
   |none=>rw[h1]at k;exact k.elim
   |some rs=>
    rw[h1,b8]at k;cases h2:bW H [kE rs]with
    |none=>rw[h2]at k;exact k.elim
    |some y=>
     obtain⟨rl,bs⟩:=y;rw[h2,dT]at k;obtain⟨r,rfl,g⟩:=k;exact⟨rs,r,bs,rfl,h2,g⟩
  |ret=>
   rw[kK]at k;refine⟨fun id h=>(by cases h),?_⟩;show∃rs r bs,iU H E ts results=some rs/\_
   cases h1:iU H E ts results with
   |none=>rw[h1]at k;exact k.elim
   |some rs=>
    rw[h1,b8]at k;cases h2:bW H [kE rs]with
    |none=>rw[h2]at k;exact k.elim
    |some y=>
     obtain⟨rl,bs⟩:=y;rw[h2,dT]at k;obtain⟨r,rfl,g⟩:=k;exact⟨rs,r,bs,rfl,h2,g⟩
 obtain⟨r,h1,h2⟩:=this;exact⟨r,ed h1,h2⟩
theorem fn1{E:Env}{f:Nat}{code:Code}{nt:Nat}{results:List ResultVar}{pu du:Bool}{a:AV}{G:AV->Prop}(mG:E.ov f [a]=none)(jj:E.fn f=some {code:=code,ntmps:=nt,results:=results,pure:=pu,eX:=du})(hp:pu=true)(hn:1<=nt)
  (h:∀ts:List AV,ts.length=nt->gt ts 0=a->W E code ts [] (mS E results G)):∃r,aO E f [a]=some r/\G r:=
 VF mG jj hp (h _ (by simp;omega) rfl)
theorem fn2{E:Env}{f:Nat}{code:Code}{nt:Nat}{results:List ResultVar}{pu du:Bool}{a b:AV}{G:AV->Prop}(mG:E.ov f [a,b]=none)(jj:E.fn f=some {code:=code,ntmps:=nt,results:=results,pure:=pu,eX:=du})(hp:pu=true)(hn:2<=nt)
  (h:∀ts:List AV,ts.length=nt->gt ts 0=a->gt ts 1=b->W E code ts [] (mS E results G)):∃r,aO E f [a,b]=some r/\G r:=
 VF mG jj hp (h _ (by simp;omega) rfl rfl)
theorem fn3{E:Env}{f:Nat}{code:Code}{nt:Nat}{results:List ResultVar}{pu du:Bool}{a b c:AV}{G:AV->Prop}(mG:E.ov f [a,b,c]=none)(jj:E.fn f=some {code:=code,ntmps:=nt,results:=results,pure:=pu,eX:=du})(hp:pu=true)(hn:3<=nt)
  (h:∀ts:List AV,ts.length=nt->gt ts 0=a->gt ts 1=b->gt ts 2=c->W E code ts [] (mS E results G)):∃r,aO E f [a,b,c]=some r/\G r:=
 VF mG jj hp (h _ (by simp;omega) rfl rfl rfl)
end Dv
namespace Dv
open Go Go.RowKit
def BI(E:Env)(f:Nat)(al:List AV)(H:Hp)(r:AV)(H':Hp):Prop:=∃n,um E (dJ E n) f al H=some (r,H')
theorem BI.uniq{E:Env}{f:Nat}{al:List AV}{H:Hp}{r s:AV}{H1 H2:Hp}(h:BI E f al H r H1)(k:BI E f al H s H2):r=s/\H1=H2:=by
 obtain⟨m,hm⟩:=h;obtain⟨n,hn⟩:=k;have a:=qT (jd (E:=E) (aOD m n)) _ _ _ _ hm;have b:=qT (jd (E:=E) (aOC m n)) _ _ _ _ hn;rw[a]at b;simpa using b
open Classical in
noncomputable def cL(E:Env)(f:Nat)(al:List AV)(H:Hp):Option (AV×Hp):=if h:∃x:AV×Hp,BI E f al H x.1 x.2 then some h.choose else none
theorem AR{E:Env}{f:Nat}{al:List AV}{H H':Hp}{r:AV}(h:BI E f al H r H'):cL E f al H=some (r,H'):=by
 have hx:∃x:AV×Hp,BI E f al H x.1 x.2:=⟨(r,H'),h⟩;unfold cL;rw[dif_pos hx]
 have:=hx.choose_spec.uniq h
 rw[<-this.1,<-this.2]
theorem NG{E:Env}{f:Nat}{al:List AV}{H H':Hp}{r:AV}(h:cL E f al H=some (r,H')):BI E f al H r H':=by
 unfold cL at h;split at h
 ·rename_i hx
  have:=aLv.inj h
  have hs:=hx.choose_spec;rw[this]at hs;exact hs
 ·cases h
def yY(E:Env)(f:Nat)(al:List AV)(r:AV):Prop:=∃m,call E m f al=some r
theorem yY.uniq{E:Env}{f:Nat}{al:List AV}{r s:AV}(h:yY E f al r)(k:yY E f al s):r=s:=by obtain⟨m,hm⟩:=h;obtain⟨n,hn⟩:=k;have a:=qM (E:=E) (aOD m n) _ _ _ hm;have b:=qM (E:=E) (aOC m n) _ _ _ hn;rw[a]at b;exact aLv.inj b
open Classical in
noncomputable def AS(E:Env)(f:Nat)(al:List AV):Option AV:=if h:∃r,yY E f al r then some h.choose else none
theorem RL{E:Env}{f:Nat}{al:List AV}{r:AV}(h:yY E f al r):AS E f al=some r:=by have hx:∃r,yY E f al r:=⟨r,h⟩;unfold AS;rw[dif_pos hx,hx.choose_spec.uniq h]
theorem NH{E:Env}{f:Nat}{al:List AV}{r:AV}(h:AS E f al=some r):yY E f al r:=by
 unfold AS at h;split at h
 ·rename_i hx
  have:=aLv.inj h
  exact this▸hx.choose_spec
 ·cases h
def cg(E:Env)(f:Nat):Bool:=match E.fn f with
 |some {pure:=false,..}=>true
 |_=>false
def vf(E:Env)(f:Nat):Bool:=match E.fn f with
 |some {eX:=d,..}=>d
 |_=>false
abbrev Rw:=List Nat×List Nat
def J7(E:Env)(dr st:Bool)(f:Nat)(bl:List AV)(H:Hp)(k:AV->cJ->Prop):Prop:=
 if cg E f=true then
  (if(vf E f&&(dr&&st))=true then∃vS bs r,bW H bl=some (vS,bs)/\yY E f vS r/\k r (if bJ r then cJ.looks bs else cJ.marks bs)
   else∃r H',BI E f bl H r H'/\((dr&&st)=true->oO H H'=true)/\k r (.vK H'))
 else∃vS bs r,bW H bl=some (vS,bs)/\mw E f vS r/\k r (if bJ r then cJ.looks bs else cJ.marks bs)
def de(E:Env)(dr:Bool)(o:Oper)(aM:Nat)(ts:List AV)(H:Hp)(k:AV->cJ->Prop):Prop:=
 match o.op with
 |.call {callee:=.value fo,args:=args,..}=>match ch ts fo,nL ts args.toList with
  |some (.func f first cap),some al=>J7 E dr (pU fo) f (first++al++cap) H k
  |_,_=>False
 |_=>FN (eN E LQ yg yg false ts H aM o) k
theorem ZV{E:Env}{dr st:Bool}{f:Nat}{first cap args:List AV}{H:Hp}{k:AV->cJ->Prop}(h:J7 E dr st f (first++args++cap) H k):
  ∃n v e,(∀m,n<=m->oM E (qc E (dJ E m)) (um E (dJ E m)) (yi (dJ E m)) (dr&&st) H (.func f first cap) args=some (v,e))/\k v e:=by
 unfold J7 at h;by_cases hi:cg E f=true
 ·rw[if_pos hi]at h;unfold cg at hi;have oJ:∃fi,E.fn f=some fi/\fi.pure=false:=by
   split at hi
   ·rename_i heq;exact⟨_,heq,rfl⟩
   ·cases hi
  obtain⟨fi,oJ,hpu⟩:=oJ;obtain⟨code,ntmps,results,pu,du⟩:=fi;simp only at hpu;subst hpu;have aoe:vf E f=du:=by unfold vf;rw[oJ]
  rw[aoe]at h;by_cases hd:(du&&(dr&&st))=true
  ·rw[if_pos hd]at h;obtain⟨vS,bs,r,h1,⟨n,h2⟩,h3⟩:=h;refine⟨n,r,_,fun m hm=>?_,h3⟩;have h2':qc E (dJ E m) f vS=some r:=qM hm _ _ _ h2;unfold oM;simp only[oJ,hd,if_true,h1,h2',aNj]
  ·rw[if_neg hd]at h;obtain⟨r,H',⟨n,h1⟩,hk,h2⟩:=h;refine⟨n,r,_,fun m hm=>?_,h2⟩;have h1':=qT (jd (E:=E) hm) _ _ _ _ h1;unfold oM
   have:(du&&(dr&&st))=false:=by simpa using hd
   have T5:((dr&&st)&&!oO H H')=false:=by
    cases hds:(dr&&st)with
    |false=>rfl
    |true=>rw[hk hds];rfl
   simp only[oJ,this,aLs,if_false,h1',T5]
 ·rw[if_neg hi]at h;obtain⟨vS,bs,r,h1,⟨hp,n,h2⟩,h3⟩:=h;refine⟨n,r,_,fun m hm=>?_,h3⟩;have h2':qc E (dJ E m) f vS=some r:=qM hm _ _ _ h2;unfold oM;cases jj:E.fn f with
  |none=>simp only[jj,if_true,h1,h2',aNj]
  |some fi=>
   obtain⟨code,ntmps,results,pu,du⟩:=fi
   have:=hp _ jj
   simp only at this;subst this;simp only[jj,if_true,h1,h2',aNj]
theorem Mv{E:Env}{dr:Bool}{ops:List Oper}{o:Oper}{aM:Nat}{ts:List AV}{H:Hp}{k:AV->cJ->Prop}(hw:bU ops ts o=true)(h:de E dr o aM ts H k):
  ∃n v e,(∀m,n<=m->cO E (qc E (dJ E m)) (um E (dJ E m)) (yi (dJ E m)) dr ops aM o ts H=some (bQ o.dst v ts,e))/\k v e:=by
 unfold de at h;split at h
 ·rename_i fo args eg h1;obtain⟨d,op,t,p,af,g⟩:=o;simp only at h1;subst h1;split at h
  ·rename_i f first cap al e1 e2
   obtain⟨n,v,e,h2,h3⟩:=ZV h;refine⟨n,v,e,fun m hm=>?_,h3⟩;unfold cO;rw[if_pos hw];simp only[eN,e1,e2,h2 m hm]
  ·exact h.elim
 ·rename_i hnc;have hc:oe o=false:=by
   unfold oe
   split
   ·rename_i c T9
    split
    ·rename_i f pT;obtain⟨callee,args,eg⟩:=c;simp only at pT;subst pT;exact absurd T9 (hnc f args eg)
    ·rfl
   ·rfl
  cases ho:eN E LQ yg yg false ts H aM o with
  |none=>rw[ho]at h;exact h.elim
  |some x=>
   obtain⟨v,e⟩:=x;rw[ho,AI]at h;refine⟨0,v,e,fun m _=>?_,h⟩;rw[Xj (dr':=dr) hc]at ho
   have:=Xl (QW (qc E (dJ E m))) (Df (um E (dJ E m))) (Df (yi (dJ E m))) ho
   unfold cO;rw[if_pos hw,this]
def vF:List Oper->List (Option Nat)
 |[]=>[]
 |o::l=>o.dst::vF l
theorem KD:∀(l:List Oper) (j:Nat),((vF l)[j]?).bind id=(l[j]?).bind (·.dst)
 |[],j=>by simp[vF]
 |o::l,0=>rfl
 |o::l,j+1=>by simpa[vF]using KD l j
def NX(ds:List (Option Nat))(j:Nat):Option Nat:=(ds[j]?).bind id
def fZ(ds:List (Option Nat))(ts:List AV)(o:Oper):Bool:=
 match o.guard with
 |none=>true
 |some (j,want)=>match NX ds j with
  |none=>false
  |some d=>match ts[d]? with
   |some (.bool b)=>b==want
   |_=>false
theorem MN{ops:List Oper}{ts:List AV}{o:Oper}:fZ (vF ops) ts o=bU ops ts o:=by
 unfold fZ bU NX;cases o.guard with
 |none=>rfl
 |some g=>
  obtain⟨j,want⟩:=g;simp only[KD];rfl
def bS(E:Env)(dr tr:Bool)(ds:List (Option Nat)):List Oper->Nat->List AV->Hp->List Rw->(List AV->Hp->List Rw->Prop)->Prop
 |[],_,ts,H,l,q=>q ts H l
 |o::rest,aM,ts,H,l,q=>
  if fZ ds ts o=true then
   (dr=true->ck E o=true->lK H[aM]?=true)/\
   de E dr o (if dr=true then aM else H.length) ts H fun v e=>bS E dr tr ds rest (if dr=true/\ck E o=true then aM+1 else aM) (bQ o.dst v ts) (e.app H) (if tr=true then bI E ts o e::l else l) q
  else(dr=true->ck E o=true->lK H[aM]?=true)/\
   bS E dr tr ds rest (if dr=true/\ck E o=true then aM+1 else aM) (bQ o.dst aX ts) H (if tr=true then bI E ts o (.bM [])::l else l) q
theorem bS.Yv{E:Env}{ops:List Oper}{q:List AV->Hp->Prop}:∀{rest:List Oper} {aM:Nat} {ts:List AV} {H:Hp} {l:List Rw},bS E false false (vF ops) rest aM ts H l (fun ts H _=>q ts H)->J9 E ops rest ts H q
 |[],_,ts,H,l,h=>J9.nil h
 |o::rest,aM,ts,H,l,h=>by
  unfold bS at h;simp only[aLs,if_false,false_and,MN]at h;by_cases hw:bU ops ts o=true
  ·rw[if_pos hw]at h;obtain⟨n,v,e,h1,h2⟩:=Mv (ops:=ops) hw h.2;obtain⟨m,df,H',k1,k2⟩:=bS.Yv h2;refine⟨max n m,df,H',?_,k2⟩;unfold Bo;rw[h1 _ (aOD n m)];have l2:=jd (E:=E) (aOC n m);exact Dh (uV l2) (qT l2) (xX l2) k1
  ·rw[if_neg hw]at h;exact J9.step (ur hw) (bS.Yv h.2)
theorem bS.JL{E:Env}{ops:List Oper}{tr:Bool}{q:List AV->Hp->List Rw->Prop}:∀{rest:List Oper} {aM:Nat} {ts:List AV} {H:Hp} {l:List Rw},bS E true tr (vF ops) rest aM ts H l q->qI E ops rest aM ts H (fun ts H l'=>q ts H (if tr=true then l'.reverse++l else l))
 |[],_,ts,H,l,h=>qI.nil (by cases tr<;>exact h)
 |o::rest,aM,ts,H,l,h=>by
  unfold bS at h;simp only[if_true,true_and,forall_const,MN]at h;have j7:(ck E o=true->lK H[aM]?=true)->(ck E o&&!lK H[aM]?)=false:=by
   intro hr;cases hl:ck E o with
   |false=>rfl
   |true=>simp[hr hl]
  by_cases hw:bU ops ts o=true
  ·rw[if_pos hw]at h;obtain⟨hr,h⟩:=h;obtain⟨n,v,e,h1,h2⟩:=Mv (ops:=ops) hw h;obtain⟨m,df,H',l',k1,k2⟩:=bS.JL h2;refine⟨max n m,df,H',bI E ts o e::l',?_,?_⟩
   ·unfold tn;rw[j7 hr];simp only[aLs,if_false];rw[h1 _ (aOD n m)];have l2:=jd (E:=E) (aOC n m);simp only[Ad (uV l2) (qT l2) (xX l2) k1]
   ·cases tr<;>simpa using k2
  ·rw[if_neg hw]at h;obtain⟨hr,h⟩:=h;obtain⟨m,df,H',l',k1,k2⟩:=bS.JL h;refine⟨m,df,H',bI E ts o (.bM [])::l',?_,?_⟩
   ·unfold tn;rw[j7 hr];simp only[aLs,if_false];rw[ur hw]
    have:(cJ.bM []).app H=H:=rfl
    simp only[this,k1]
   ·cases tr<;>simpa using k2
theorem Cv.ay2{E:Env}{id:Nat}{ops:Array Oper}{ts:List AV}{H:Hp}{Q:Ex->List AV->Hp->Prop}(h:bS E false false (vF ops.toList) ops.toList 0 ts H [] (fun ts H _=>Q .normal ts H)):Cv E (.region id ops false) ts H Q:=Cv.region (bS.Yv h)
def wY:Nat->Hp
 |0=>[]
 |n+1=>dV::wY n
theorem Fm:∀n,wY n=List.replicate n dV
 |0=>rfl
 |n+1=>by rw[List.replicate_succ,<-Fm n];rfl
def Uw(b:Bool)(n:Nat):Nat:=if b=true then n+1 else n
theorem age{n:Nat}:Uw true n=n+1:=rfl
theorem agd{n:Nat}:Uw false n=n:=rfl
def qj(E:Env):List Oper->Nat
 |[]=>0
 |o::l=>Uw (ck E o) (qj E l)
theorem AU(E:Env):∀l,qj E l=l.countP (ck E)
 |[]=>rfl
 |o::l=>by
  rw[List.countP_cons,<-AU E l,qj,Uw]
  split<;>rfl
theorem Cv.arw{E:Env}{id:Nat}{ops:Array Oper}{ts:List AV}{H:Hp}{Q:Ex->List AV->Hp->Prop}
  (h:bS E true true (vF ops.toList) ops.toList H.length ts (H++wY (qj E ops.toList)) [] (fun ts H l=>(E.pairs id ops.toList.length).all (uS l.reverse)=true/\Q .normal ts H)):Cv E (.region id ops true) ts H Q:=by
 rw[Fm,AU]at h;obtain⟨n,df,H',l,h1,h2,h3⟩:=bS.JL h;refine⟨n+1,.normal,df,H',?_,h3⟩;show dI E (dJ E n) (.region id ops true) ts H=_
 unfold dI zA;simp only[List.append_nil,List.reverse_reverse,if_true]at h2;simp only[if_true,h1,h2,aNj]
theorem Cv.arx{E:Env}{id:Nat}{ops:Array Oper}{ts:List AV}{H:Hp}{Q:Ex->List AV->Hp->Prop}(hp:E.pairs id ops.toList.length=[])
  (h:bS E true false (vF ops.toList) ops.toList H.length ts (H++wY (qj E ops.toList)) [] (fun ts H _=>Q .normal ts H)):Cv E (.region id ops true) ts H Q:=by
 rw[Fm,AU]at h;obtain⟨n,df,H',l,h1,h3⟩:=bS.JL h;refine⟨n+1,.normal,df,H',?_,h3⟩;show dI E (dJ E n) (.region id ops true) ts H=_
 unfold dI zA;simp only[if_true,h1,hp,List.all_nil,aNj]
end Dv
