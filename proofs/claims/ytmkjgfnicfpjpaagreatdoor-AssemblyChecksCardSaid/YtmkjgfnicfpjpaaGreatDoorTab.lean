/- Lemmas for AssemblyChecks; no condition. -/
import Derived.Test.YtmkjgfnicfpjpaaGreatDoorTaa
import Derived.ChangeKeysEq
import Derived.Laws.StructEq
import Derived.Laws.Slices
import Derived.Laws.MakeOwn
import Derived.Laws.IdiomStrings
set_option linter.all false
set_option maxHeartbeats 100000000
set_option maxRecDepth 100000
noncomputable section
open Option renaming map_eq_some_iff->aKD,some->aK3,isSome_none->aLc,bind_eq_some_iff->aLi,map_some->aLt
open Nat renaming le_refl->aKE,add_assoc->aK5,add_mul->aK8,mul_le_mul_right->aLa,sub_self->aLe,zero_add->aLg,zero_le->aLo,not_lt->aLv
open List renaming getElem?_eq_some_iff->aKB,extract_eq_take_drop->aK6,getElem?_append->aKH,length_cons->aLf,getElem?_eq_getElem->aLh,getElem?_of_mem->aLj,length_append->aLk,getElem?_set->aKA,all_eq_true->aLq,getElem_mem->aLr
open Array renaming getElem?_toList->aK2,toList_extract->aK7,getElem?_extract->aK9,getElem?_eq_getElem->aLd,extract_size->aLl,ext'->aLz
open Bool renaming false_eq_true->aK4,or_eq_true->aLb,not_eq_true'->aLm,not_eq_false->aLn
namespace Dv
open Go Go.RowKit
section
variable{E:Env}{P:Program}(V:Valid E P){ι:cS}{w:World}{L:Nat->Prop}
def Valid.Jz{E:Env}{P:Program}(V:Valid E P){t:Nat}{i:sO}(h:E.ty t=some i):∃ti,P.info? t=some ti/\ti.size=i.size/\ti.bytes=i.bytes:=
 let⟨ti,a,b,c,_⟩:=(V.ty t i h).info;⟨ti,a,b,c⟩
include V in
def RV{t:Nat}{i:sO}(h:E.ty t=some i):P.cellsOf t=i.size:=by obtain⟨ti,h1,h2,_⟩:=V.Jz h;simp[Program.cellsOf,h1,h2]
include V in
def mT{t:Nat}{cs:List AV}{vs:Array Value}(hr:Rs ι w L cs vs.toList){off:Nat}{av:AV}(h:gl E t cs off=some av):
  ∃v,(part t vs off).run P w=.ok v w/\R ι w L av v:=by
 unfold gl at h;cases hi:E.ty t with
 |none=>simp[hi]at h
 |some i=>
  simp only[hi]at h;unfold part;simp only[Sem.run_bind,DN V hi w,Result.andThen_ok];cases ha:i.isAgg with
  |true=>
   simp only[ha,if_true]at h⊢;split at h
   ·rename_i hle;cases h;refine⟨.agg (vs.extract off (off+i.size)),by simp[cF V hi w],?_⟩;simp only[R];refine⟨_,rfl,?_⟩;rw[aK7]
    have:=(hr.drop off).take i.size
    simpa[aK6]using this
   ·cases h
  |false=>
   simp only[ha,aK4,if_false]at h⊢;obtain⟨v,h1,h2⟩:=hr.get off av h;rw[aK2]at h1;exact⟨v,by simp[h1],h2⟩
def str_inj{a b:List UInt8}:((⟨a.toArray⟩:ByteArray)==⟨b.toArray⟩)=(a==b):=by rw[beq_toListBytes,ByteArray.toList_eq,ByteArray.toList_eq]
def x8(V:Valid E P){n d:Nat}(ih:∀(t:Nat) (x y:AV) (vx vy:Value) (b:Bool),R ι w L x vx->R ι w L y vy->qi E n t x y=some b->(Op.equalIn d t vx vy).run P w=.ok b w):∀(fs:List Field) (xs ys:List AV) (vx vy:Array Value) (b:Bool),Rs ι w L xs vx.toList->Rs ι w L ys vy.toList->
  eqFields E (qi E n) xs ys fs=some b->(Op.eqFields d vx vy fs).run P w=.ok b w
 |[],_,_,_,_,_,_,_,h=>by simp[eqFields]at h;subst h;simp[Op.eqFields]
 |f::fs,xs,ys,vx,vy,b,hx,hy,h=>by
  unfold eqFields at h;split at h
  ·cases h
  ·rename_i Xv;cases h1:gl E f.type xs f.offset with
   |none=>simp[h1]at h
   |some a=>
    cases h2:gl E f.type ys f.offset with
    |none=>simp[h1,h2]at h
    |some c=>
     simp only[h1,h2]at h;obtain⟨va,p1,r1⟩:=mT V hx h1;obtain⟨vc,p2,r2⟩:=mT V hy h2;cases h3:qi E n f.type a c with
     |none=>simp[h3]at h
     |some r=>
      have h4:=ih f.type a c va vc r r1 r2 h3;simp only[h3]at h;unfold Op.eqFields;simp only[ne_eq,Xv,not_false_eq_true,if_true,Sem.run_bind,p1,p2,Result.andThen_ok,h4];cases r with
      |true=>simpa using x8 V ih fs xs ys vx vy b hx hy h
      |false=>simp at h;subst h;simp
def Az(V:Valid E P){n d:Nat}(ih:∀(t:Nat) (x y:AV) (vx vy:Value) (b:Bool),R ι w L x vx->R ι w L y vy->qi E n t x y=some b->(Op.equalIn d t vx vy).run P w=.ok b w)(elem size:Nat):∀(xs ys:List AV) (vx vy:Array Value) (m i:Nat) (b:Bool),Rs ι w L xs vx.toList->Rs ι w L ys vy.toList->
  mz E (qi E n) elem size xs ys m i=some b->(Op.eqItems d elem size vx vy (List.range' i m)).run P w=.ok b w
 |_,_,_,_,0,_,_,_,_,h=>by simp[mz]at h;subst h;simp[Op.eqItems]
 |xs,ys,vx,vy,m+1,i,b,hx,hy,h=>by
  unfold mz at h;cases h1:gl E elem xs (i*size)with
  |none=>simp[h1]at h
  |some a=>
   cases h2:gl E elem ys (i*size)with
   |none=>simp[h1,h2]at h
   |some c=>
    simp only[h1,h2]at h;obtain⟨va,p1,r1⟩:=mT V hx h1;obtain⟨vc,p2,r2⟩:=mT V hy h2;cases h3:qi E n elem a c with
    |none=>simp[h3]at h
    |some r=>
     have h4:=ih elem a c va vc r r1 r2 h3;simp only[h3]at h;rw[List.range'_succ];unfold Op.eqItems;simp only[Sem.run_bind,p1,p2,Result.andThen_ok,h4];cases r with
     |true=>simpa using Az V ih elem size xs ys vx vy m (i+1) b hx hy h
     |false=>simp at h;subst h;simp
def x7(V:Valid E P):∀(n d t:Nat) (x y:AV) (vx vy:Value) (b:Bool),n<=d->R ι w L x vx->R ι w L y vy->qi E n t x y=some b->
  (Op.equalIn d t vx vy).run P w=.ok b w
 |0,_,_,_,_,_,_,_,_,_,_,h=>by simp[qi]at h
 |n+1,d,t,x,y,vx,vy,b,hd,hx,hy,h=>by
  obtain⟨d,rfl⟩:∃k,d=k+1:=⟨d-1,by omega⟩;unfold qi at h;cases hi:E.ty t with
  |none=>simp[hi]at h
  |some i=>
   simp only[hi]at h;have hu:=(V.ty t i hi).cD;split at h
   case h_1 eD=>simp only[R]at hx hy;subst hx;subst hy;cases h;rw[eD]at hu;simp[Op.equalIn,run_underlying hu]
   case h_2 eD=>
    simp only[R]at hx hy;subst hx;subst hy
    split at h
    ·rename_i hk;cases h;rw[eD]at hu;simp[Op.equalIn,run_underlying hu,hk]
    ·cases h
   case h_3 eD=>simp only[R]at hx hy;subst hx;subst hy;cases h;rw[eD]at hu;simp[Op.equalIn,run_underlying hu,str_inj]
   case h_4 fields xs ys eD=>
    simp only[R]at hx hy;obtain⟨vxs,rfl,hx⟩:=hx;obtain⟨vys,rfl,hy⟩:=hy;split at h
    ·cases h
    ·rename_i heq;have azi:i.dQ=true:=by simpa using heq
     rw[eD]at hu;have hf:P.fieldsOf t=fields:=by simp[Program.fieldsOf,hu]
     rw[run_equalIn_struct w d t vxs vys (by rw[hf];exact hu) ((V.ty t i hi).eq azi).1,hf];exact x8 V (fun t x y vx vy b h1 h2 h3=>x7 V n d t x y vx vy b (by omega) h1 h2 h3) fields.toList xs ys vxs vys b hx hy h
   case h_5 len elem xs ys eD=>
    simp only[R]at hx hy;obtain⟨vxs,rfl,hx⟩:=hx;obtain⟨vys,rfl,hy⟩:=hy;cases kn:E.ty elem with
    |none=>simp[kn]at h
    |some ei=>
     simp only[kn]at h;obtain⟨ti,h1,h2,_⟩:=V.Jz kn;rw[eD]at hu;rw[run_equalIn_array w d vxs vys hu h1,RV V kn,List.range_eq_range'];exact Az V (fun t x y vx vy b h1 h2 h3=>x7 V n d t x y vx vy b (by omega) h1 h2 h3) elem ei.size xs ys vxs vys len 0 b hx hy h
   case h_29=>cases h
   all_goals (rename_i eD;rw[eD]at hu)
   case h_6=>simp only[R]at hx hy;subst hx;subst hy;cases h;simp[Op.equalIn,run_underlying hu]
   case h_7=>simp only[R]at hx hy;subst hx;obtain⟨_,_,_,rfl⟩:=hy;cases h;simp[Op.equalIn,run_underlying hu]
   case h_8=>simp only[R]at hx hy;subst hx;obtain⟨_,_,_,_,_,rfl,_⟩:=hy;cases h;simp[Op.equalIn,run_underlying hu]
   case h_9=>simp only[R]at hx hy;subst hy;obtain⟨_,_,_,rfl⟩:=hx;cases h;simp[Op.equalIn,run_underlying hu]
   case h_10=>simp only[R]at hx hy;subst hy;obtain⟨_,_,_,_,_,rfl,_⟩:=hx;cases h;simp[Op.equalIn,run_underlying hu]
   case h_11=>simp only[R]at hx hy;subst hx;subst hy;cases h;simp[Op.equalIn,run_underlying hu]
   case h_12=>simp only[R]at hx hy;subst hx;obtain⟨_,_,_,_,_,_,_,rfl,_⟩:=hy;cases h;simp[Op.equalIn,run_underlying hu]
   case h_13=>simp only[R]at hx hy;subst hx;obtain⟨_,_,_,_,_,_,rfl,_⟩:=hy;cases h;simp[Op.equalIn,run_underlying hu]
   case h_14=>simp only[R]at hx hy;subst hx;obtain⟨_,_,rfl⟩:=hy;cases h;simp[Op.equalIn,run_underlying hu]
   case h_15=>simp only[R]at hx hy;subst hy;obtain⟨_,_,_,_,_,_,_,rfl,_⟩:=hx;cases h;simp[Op.equalIn,run_underlying hu]
   case h_16=>simp only[R]at hx hy;subst hy;obtain⟨_,_,_,_,_,_,rfl,_⟩:=hx;cases h;simp[Op.equalIn,run_underlying hu]
   case h_17=>simp only[R]at hx hy;subst hy;obtain⟨_,_,rfl⟩:=hx;cases h;simp[Op.equalIn,run_underlying hu]
   case h_18=>simp only[R]at hx hy;subst hx;subst hy;cases h;simp[Op.equalIn,run_underlying hu]
   case h_19=>simp only[R]at hx hy;subst hx;obtain⟨_,_,_,rfl⟩:=hy;cases h;simp[Op.equalIn,run_underlying hu]
   case h_20=>simp only[R]at hx hy;subst hx;obtain⟨_,_,_,rfl,_⟩:=hy;cases h;simp[Op.equalIn,run_underlying hu]
   case h_21=>simp only[R]at hx hy;subst hy;obtain⟨_,_,_,rfl⟩:=hx;cases h;simp[Op.equalIn,run_underlying hu]
   case h_22=>simp only[R]at hx hy;subst hy;obtain⟨_,_,_,rfl,_⟩:=hx;cases h;simp[Op.equalIn,run_underlying hu]
   case h_23=>simp only[R]at hx hy;subst hx;subst hy;cases h;simp[Op.equalIn,run_underlying hu]
   case h_24=>simp only[R]at hx hy;subst hx;obtain⟨_,_,rfl,_⟩:=hy;cases h;simp[Op.equalIn,run_underlying hu]
   case h_25=>simp only[R]at hx hy;subst hy;obtain⟨_,_,rfl,_⟩:=hx;cases h;simp[Op.equalIn,run_underlying hu]
   case h_26=>simp only[R]at hx hy;subst hx;subst hy;cases h;simp[Op.equalIn,run_underlying hu]
   case h_27=>simp only[R]at hx hy;subst hx;obtain⟨_,rfl,_⟩:=hy;cases h;simp[Op.equalIn,run_underlying hu]
   case h_28=>simp only[R]at hx hy;subst hy;obtain⟨_,rfl,_⟩:=hx;cases h;simp[Op.equalIn,run_underlying hu]
end
section
variable{E:Env}{P:Program}{ι:cS}{w:World}{L:Nat->Prop}{ts:List AV}{a:Act}
def dU(hf:Rs ι w L ts a.tmps.toList){x:Operand}{av:AV}(h:bT ts x=some av):R ι w L av (a.eval x):=by
 cases x with
 |tmp t=>
  simp only[bT,aK3.injEq]at h;subst h
  have:=hf.getD t
  simpa[Act.eval]using this
 |const v=>exact L2 20 v av h
 |global g=>simp only[bT,aK3.injEq]at h;subst h;simp[R,Act.eval]
 |func f=>simp only[bT,aK3.injEq]at h;subst h;simp[R,Rs,Act.eval]
def Ja(hf:Rs ι w L ts a.tmps.toList):∀{xs:List Operand} {avs:List AV},km ts xs=some avs->Rs ι w L avs (xs.map a.eval)
 |[],_,h=>by simp[km]at h;subst h;simp[Rs]
 |x::xs,_,h=>by
  unfold km at h;cases h1:bT ts x with
  |none=>simp[h1]at h
  |some v=>
   cases h2:km ts xs with
   |none=>simp[h1,h2]at h
   |some vs=>
    simp[h1,h2]at h;subst h;simp only[Rs,List.map_cons];exact⟨_,_,rfl,dU hf h1,Ja hf h2⟩
def RsP(ι:cS)(w:World)(L:Nat->Prop):List (Nat×AV)->List (Nat×Value)->Prop
 |[],vs=>vs=[]
 |(i,x)::xs,vs=>∃y ys,vs=(i,y)::ys/\R ι w L x y/\RsP ι w L xs ys
def Wx(hf:Rs ι w L ts a.tmps.toList):∀{xs:List (Nat×Operand)} {avs:List (Nat×AV)},sC ts xs=some avs->RsP ι w L avs (xs.map fun(i,x)=>(i,a.eval x))
 |[],_,h=>by simp[sC]at h;subst h;simp[RsP]
 |(i,x)::xs,_,h=>by
  unfold sC at h;cases h1:bT ts x with
  |none=>simp[h1]at h
  |some v=>
   cases h2:sC ts xs with
   |none=>simp[h1,h2]at h
   |some vs=>
    simp[h1,h2]at h;subst h;simp only[RsP,List.map_cons];exact⟨_,_,rfl,dU hf h1,Wx hf h2⟩
def sc:AV->Value
 |.bool b=>.bool b
 |.int k n=>.int k n
 |.str s=>.string ⟨s.toArray⟩
 |_=>undef
def X5{op:BinOp}{k:IntKind}{x y:Int}{av:AV}(h:k7 op k x y=some av)(Sq:op≠ .shl/\op≠ .shr)(t:Nat):
  (binOp op t (.int k x) (.int k y)).run P w=.ok (sc av) w/\R ι w L av (sc av):=by
 cases op<;>simp only[k7]at h
 case quo=>split at h;(· cases h);rename_i hy;cases h;exact⟨by simp[binOp,Op.intDiv,hy,sc,aW],by simp[R,sc]⟩
 case rem=>split at h;(· cases h);rename_i hy;cases h;exact⟨by simp[binOp,Op.intDiv,hy,sc],by simp[R,sc]⟩
 all_goals first|(cases h;done)|(cases h;exact⟨by simp[binOp,Op.intArith,Op.intBits,Op.intCmp,sc,aW],by simp[R,sc]⟩)
def Z7{op:BinOp}{x y:List UInt8}{av:AV}(h:OS op x y=some av)(t:Nat):
  (binOp op t (.string ⟨x.toArray⟩) (.string ⟨y.toArray⟩)).run P w=.ok (sc av) w/\R ι w L av (sc av):=by
 have hx:∀z:List UInt8,ByteArray.toList ⟨z.toArray⟩=z:=fun z=>by rw[ByteArray.toList_eq]
 have hs:∀z:List UInt8,ByteArray.size ⟨z.toArray⟩=z.length:=fun z=>by simp[ByteArray.size]
 have hm:IntKind.i64.max=9223372036854775807:=by decide
 cases op<;>simp only[OS]at h
 case add=>
  split at h
  ·cases h
  ·rename_i hle;cases h;refine⟨?_,by simp[R,sc]⟩;simp only[binOp,Op.stringOp,hs,hm,if_neg hle,sc];simp only[Sem.run_pure];congr 2
 all_goals first|(cases h;done)|(cases h;exact⟨by simp[binOp,Op.stringOp,hx,sc],by simp[R,sc]⟩)
def ae0{op:UnOp}{x av:AV}{vx:Value}(hx:R ι w L x vx)(h:TQ op x=some av):
  ∃cv,(Op.unary op vx).run P w=.ok cv w/\R ι w L av cv:=by
 unfold TQ at h;split at h
 ·simp only[R]at hx;subst hx;refine⟨sc av,?_,?_⟩<;>cases h<;>simp[Op.unary,Op.intArith,sc,aW,R]
 ·simp only[R]at hx;subst hx
  simp only[k7,aK3.injEq]at h;refine⟨sc av,?_,?_⟩<;>subst h<;>simp[Op.unary,Op.intBits,sc,aW,R]
 ·simp only[R]at hx;subst hx;refine⟨sc av,?_,?_⟩<;>cases h<;>simp[Op.unary,sc,R]
 ·cases h
def rR{x:AV}{k:IntKind}{n:Int}(h:R ι w L x (.int k n)):x=.int k n:=by
 cases x<;>simp[R]at h⊢
 exact⟨h.1.symm,h.2.symm⟩
def mF{x:AV}{b:ByteArray}(h:R ι w L x (.string b)):∃s,x=.str s:=by
 cases x<;>simp[R]at h⊢
def Pq{x:AV}{k:FloatKind}{b:Nat}(h:R ι w L x (.float k b)):False:=by
 cases x<;>simp[R]at h
def E7{x:AV}{k:FloatKind}{b c:Nat}(h:R ι w L x (.complex k b c)):False:=by
 cases x<;>simp[R]at h
def B0{x:AV}(h:R ι w L x .nilIface):x=.nilIface:=by
 cases x<;>simp[R]at h⊢
def afx{x:AV}{vs:Array Value}(h:R ι w L x (.agg vs)):∃cs,x=.agg cs:=by
 cases x<;>simp[R]at h⊢
def AA(V:Valid E P){t:Nat}{x y:AV}{ox oy:Operand}{vx vy:Value}{op:BinOp}(hx:R ι w L x vx)(hy:R ι w L y vy)
  (h:cd.rY E (bC ox||bC oy) t x y=some true):(eqGuard op t ox oy vx vy).run P w=.ok () w:=by
 by_cases hn:vx=.nilIface/\vy=.nilIface
 ·obtain⟨rfl,rfl⟩:=hn;have e1:=B0 hx;have e2:=B0 hy;subst e1;subst e2
  simp only[cd.rY,aK3.injEq,aLb]at h;unfold eqGuard;cases ox<;>cases oy<;>simp[bC]at h<;>simp<;>(split<;>simp)
 by_cases ha:∃xs ys,vx=.agg xs/\vy=.agg ys
 ·obtain⟨vxs,vys,rfl,rfl⟩:=ha;obtain⟨xs,rfl⟩:=afx hx;obtain⟨ys,rfl⟩:=afx hy;simp only[cd.rY,aKD]at h;obtain⟨i,hi,he⟩:=h;exact run_eqGuard_agg w op t ox oy vxs vys ((V.ty t i hi).eq he).2
 ·have key:eqGuard op t ox oy vx vy=pure ():=by
   unfold eqGuard;cases vx<;>cases vy<;>first|(exact absurd ⟨rfl,rfl⟩ hn)|(exact absurd ⟨_,_,rfl,rfl⟩ ha)|(cases op<;>rfl)
  rw[key];rfl
def binOp_eql{vx vy:Value}(h1:∀k a k' b,¬(vx=.int k a/\vy=.int k' b))(h2:∀a b,¬(vx=.string a/\vy=.string b))
  (h3:∀k a,vx≠ .float k a) (h4:∀k a b,vx≠ .complex k a b) (t:Nat):
  binOp .eql t vx vy=(do pure (.bool (<-Op.equal t vx vy)))/\binOp .neq t vx vy=(do pure (.bool (!(<-Op.equal t vx vy)))):=by
 cases vx
 case int=>cases vy<;>first|exact⟨rfl,rfl⟩|exact absurd ⟨rfl,rfl⟩ (h1 _ _ _ _)
 case float=>exact absurd rfl (h3 _ _)
 case complex=>exact absurd rfl (h4 _ _ _)
 case string=>cases vy<;>first|exact⟨rfl,rfl⟩|exact absurd ⟨rfl,rfl⟩ (h2 _ _)
 all_goals (cases vy<;>exact⟨rfl,rfl⟩)
def U7(V:Valid E P){op:BinOp}{t:Nat}{x y av:AV}{ox oy:Operand}{vx vy:Value}(hx:R ι w L x vx)(hy:R ι w L y vy)
  (h:cd E (bC ox||bC oy) op t x y=some av):
  ∃cv,((do eqGuard op t ox oy vx vy;binOp op t vx vy:Sem Value)).run P w=.ok cv w/\R ι w L av cv:=by
 have zJ:∀(k k':IntKind) (m n:Int),(eqGuard op t ox oy (.int k m) (.int k' n)).run P w=.ok () w:=fun k k' m n=>by
  unfold eqGuard;split<;>simp
 have Sb:∀(m n:ByteArray),(eqGuard op t ox oy (.string m) (.string n)).run P w=.ok () w:=fun m n=>by
  unfold eqGuard;split<;>simp
 unfold cd at h;split at h
 ·simp only[R]at hx hy;subst hx;subst hy
  split at h
  ·cases h
  ·rename_i hb;refine⟨sc av,?_,?_⟩<;>cases h<;>simp[zJ,binOp,Op.shift,hb,sc,aW,R]
 ·simp only[R]at hx hy;subst hx;subst hy
  split at h
  ·cases h
  ·rename_i hb;refine⟨sc av,?_,?_⟩<;>cases h<;>simp[zJ,binOp,Op.shift,hb,sc,R]
 ·rename_i n1 n2;simp only[R]at hx hy;subst hx;subst hy
  split at h
  ·cases h
  ·rename_i hk;simp only[ne_eq,Decidable.not_not]at hk;subst hk
   have:=X5 (P:=P) (ι:=ι) (w:=w) (L:=L) h ⟨n1,n2⟩ t
   exact⟨_,by simp only[Sem.run_bind,zJ,Result.andThen_ok];exact this.1,this.2⟩
 ·simp only[R]at hx hy;subst hx;subst hy
  have:=Z7 (P:=P) (ι:=ι) (w:=w) (L:=L) h t
  exact⟨_,by simp only[Sem.run_bind,Sb,Result.andThen_ok];exact this.1,this.2⟩
 ·rename_i n1 n2;rw[aLi]at h;obtain⟨ok,h1,h2⟩:=h;split at h2
  ·rename_i G0;subst G0;rw[aKD]at h2;obtain⟨b,h3,rfl⟩:=h2;have hq:=x7 V 20 10000 t x y vx vy b (by omega) hx hy h3;have hb:=binOp_eql (vx:=vx) (vy:=vy) (fun k p k' q e=>by
     rcases e with⟨rfl,rfl⟩
     exact n1 _ _ _ _ (rR hx) (rR hy)) (fun p q e=>by
     rcases e with⟨rfl,rfl⟩
     obtain⟨s1,e1⟩:=mF hx;obtain⟨s2,e2⟩:=mF hy
     exact n2 _ _ e1 e2) (fun k p e=>by subst e;exact Pq hx) (fun k p q e=>by subst e;exact E7 hx) t
   refine⟨.bool b,?_,by simp[R]⟩;simp only[Sem.run_bind,AA V hx hy h1,Result.andThen_ok,hb.1,Op.equal,Op.maxDepth,hq,Sem.run_pure]
  ·cases h2
 ·rename_i n1 n2;rw[aLi]at h;obtain⟨ok,h1,h2⟩:=h;split at h2
  ·rename_i G0;subst G0;rw[aKD]at h2;obtain⟨b,h3,rfl⟩:=h2;have hq:=x7 V 20 10000 t x y vx vy b (by omega) hx hy h3;have hb:=binOp_eql (vx:=vx) (vy:=vy) (fun k p k' q e=>by
     rcases e with⟨rfl,rfl⟩
     exact n1 _ _ _ _ (rR hx) (rR hy)) (fun p q e=>by
     rcases e with⟨rfl,rfl⟩
     obtain⟨s1,e1⟩:=mF hx;obtain⟨s2,e2⟩:=mF hy
     exact n2 _ _ e1 e2) (fun k p e=>by subst e;exact Pq hx) (fun k p q e=>by subst e;exact E7 hx) t
   refine⟨.bool (!b),?_,by simp[R]⟩;simp only[Sem.run_bind,AA V hx hy h1,Result.andThen_ok,hb.2,Op.equal,Op.maxDepth,hq,Sem.run_pure]
  ·cases h2
 ·cases h
end
def addr_add(b o n:Nat):(⟨b,o,none⟩:Addr).add n=⟨b,o+n,none⟩:=by
 unfold Addr.add;split<;>simp_all
section
variable{E:Env}{P:Program}{ι:cS}{w:World}{L:Nat->Prop}{ts:List AV}{a:Act}
def CF(V:Valid E P){t f:Nat}{x av:AV}{vx:Value}(hx:R ι w L x vx)(h:cP E t x f=some av):
  ∃cv,(Instr.fieldAt t vx f).run P w=.ok cv w/\R ι w L av cv:=by
 unfold cP at h;split at h
 case h_2=>cases h
 rename_i fields _ _ _ _ _ hi;have hu:=bg V hi w;split at h
 case h_2=>cases h
 rename_i fd hfd;split at h
 case h_2=>cases h
 rename_i fi lQ;have hs:=cF V lQ w;split at h
 ·cases h
 rename_i hz;split at h<;>first|(cases h;done)|skip
 ·cases h;simp only[R]at hx⊢;obtain⟨cb,co,h1,rfl⟩:=hx;refine⟨_,?_,cb,co,h1,rfl⟩;simp[Instr.fieldAt,hu,hfd,Instr.sureAddr,fieldPlace,hs,hz,addr_add,aK5]
 ·cases h;simp only[R]at hx⊢;obtain⟨cb,o,c,e,f',rfl,h2,h3,h4⟩:=hx;refine⟨_,?_,cb,o,c,e,f',rfl,h2,h3,h4⟩;simp[Instr.fieldAt,hu,hfd,Instr.sureAddr,fieldPlace,hs,hz,addr_add,aK5]
 ·cases h;simp only[R]at hx⊢;subst hx;refine⟨_,?_,rfl⟩;simp[Instr.fieldAt,hu,hfd,Instr.sureAddr,fieldPlace,hs,hz,addr_add]
def MC(V:Valid E P){t f:Nat}{x av:AV}{vx:Value}(hx:R ι w L x vx)(h:CG E t x f=some av):
  ∃cv,(Instr.field t vx f).run P w=.ok cv w/\R ι w L av cv:=by
 unfold CG at h;split at h
 case h_2=>cases h
 rename_i fields _ _ _ _ _ cs hi;have hu:=bg V hi w;split at h
 case h_2=>cases h
 rename_i fd hfd;simp only[R]at hx;obtain⟨vs,rfl,hr⟩:=hx;obtain⟨v,h1,h2⟩:=mT V hr h;exact⟨v,by simp[Instr.field,hu,hfd,asAgg,h1],h2⟩
def Nb(V:Valid E P){t:Nat}{x ix av:AV}{vx vi:Value}(hx:R ι w L x vx)(qz:R ι w L ix vi)(h:lD E t x ix=some av):
  ∃cv,(Instr.index t vx vi).run P w=.ok cv w/\R ι w L av cv:=by
 unfold lD at h;split at h
 case h_2=>cases h
 rename_i i k n hi;have hu:=bg V hi w;simp only[R]at qz;subst qz;split at h
 ·rename_i len e cs eD;rw[eD]at hu;split at h
  case h_2=>cases h
  rename_i ei kn;split at h
  ·rename_i hb;simp only[R]at hx;obtain⟨vs,rfl,hr⟩:=hx;obtain⟨v,h1,h2⟩:=mT V hr h;exact⟨v,by simp[Instr.index,asIntOf,hu,hb,cF V kn w,h1],h2⟩
  ·cases h
 ·rename_i s eD;rw[eD]at hu;split at h
  ·rename_i hb;rw[aKD]at h;obtain⟨c,hc,rfl⟩:=h;simp only[R]at hx⊢;subst hx;refine⟨_,?_,rfl⟩
   have:(⟨s.toArray⟩:ByteArray)[n.toNat]?=some c:=by
    rw[show(⟨s.toArray⟩:ByteArray)[n.toNat]?=s.toArray[n.toNat]? from by
     simp only[getElem?_def,ByteArray.size];rfl]
    simpa using hc
   simp[Instr.index,asIntOf,hu,hb,this]
  ·cases h
 ·cases h
def C4(V:Valid E P){t:Nat}{x ix av:AV}{vx vi:Value}(hx:R ι w L x vx)(qz:R ι w L ix vi)(h:b9 E t x ix=some av):
  ∃cv,(Instr.indexAt t vx vi).run P w=.ok cv w/\R ι w L av cv:=by
 unfold b9 at h;split at h
 case h_2=>cases h
 rename_i i k n hi;have hu:=bg V hi w;simp only[R]at qz;subst qz;split at h
 ·rename_i len e eD;rw[eD]at hu;split at h
  case h_2=>cases h
  rename_i ei kn;split at h
  case isFalse=>cases h
  rename_i hb;split at h<;>first|(cases h;done)|skip
  ·cases h;simp only[R]at hx⊢;obtain⟨cb,co,h1,rfl⟩:=hx;refine⟨_,?_,cb,co,h1,rfl⟩;simp[Instr.indexAt,asIntOf,hu,Instr.sureAddr,hb,cF V kn w,addr_add,aK5]
  ·cases h;simp only[R]at hx⊢;obtain⟨cb,o,c,e',f',rfl,h2,h3,h4⟩:=hx;refine⟨_,?_,cb,o,c,e',f',rfl,h2,h3,h4⟩;simp[Instr.indexAt,asIntOf,hu,Instr.sureAddr,hb,cF V kn w,addr_add,aK5]
  ·cases h;simp only[R]at hx⊢;subst hx;refine⟨_,?_,rfl⟩;simp[Instr.indexAt,asIntOf,hu,Instr.sureAddr,hb,cF V kn w,addr_add]
 ·rename_i e eD;rw[eD]at hu;split at h
  case h_2=>cases h
  rename_i ei kn;split at h<;>first|(cases h;done)|skip
  ·split at h
   case isFalse=>cases h
   rename_i hb;obtain⟨he,hb⟩:=hb;cases h;simp only[R]at hx⊢;obtain⟨cb,co,cap,c,e',f',h1,rfl,_⟩:=hx;refine⟨_,?_,cb,co,h1,rfl⟩;simp[Instr.indexAt,asIntOf,hu,hb,cF V kn w,addr_add,aK5,he]
  ·split at h
   case isFalse=>cases h
   rename_i hb;cases h;simp only[R]at hx⊢;obtain⟨cb,o,cap,c,e',f',rfl,h2,h3,h4,h5⟩:=hx;refine⟨_,?_,cb,o,c,e',f',rfl,h3,h4,h5⟩;simp[Instr.indexAt,asIntOf,hu,hb,cF V kn w,addr_add]
 ·cases h
def vC(ι:cS)(w:World)(L:Nat->Prop):Option AV->Option Value->Prop
 |none,v=>v=none
 |some x,v=>∃y,v=some y/\R ι w L x y
def uB(hf:Rs ι w L ts a.tmps.toList){x:Option Operand}{av:Option AV}(h:gr ts x=some av):vC ι w L av (x.map a.eval):=by
 cases x with
 |none=>simp only[gr,aK3.injEq]at h;subst h;simp[vC]
 |some x=>
  simp only[gr,aKD]at h;obtain⟨v,h1,rfl⟩:=h;simp only[vC,aLt];exact⟨_,rfl,dU hf h1⟩
def Ff{nB cap n:Nat}{x:AV}{v:Value}(hx:R ι w L x v)(h:asNat nB x=some n)(hc:nB<=cap)(code:BoundsCode):
  (Instr.sliceBound v cap code).run P w=.ok n w/\n<=nB:=by
 unfold asNat at h;split at h
 ·rename_i k m;split at h
  ·rename_i hb;cases h;simp only[R]at hx;subst hx
   have:0<=m/\m<=(cap:Int):=⟨hb.1,by omega⟩
   exact⟨by simp[Instr.sliceBound,asIntOf,this],by omega⟩
  ·cases h
 ·cases h
def adO{H l:Nat}{lo:Option AV}{LV:Option Value}(ik:vC ι w L lo LV)
  (h:loE H lo=some l):
  (match LV with|some v=>Instr.sliceBound v H .sliceB|none=>(pure 0:Sem Nat)).run P w=.ok l w/\l<=H:=by
 cases lo with
 |none=>simp only[vC]at ik;subst ik;cases h;exact⟨rfl,aLo _⟩
 |some x=>
  simp only[vC]at ik;obtain⟨y,rfl,hy⟩:=ik;exact Ff (P:=P) hy h (aKE _) _
def lX{len kc cap l h:Nat}{lo hi:Option AV}{LV qZ:Option Value}(ik:vC ι w L lo LV)(EG:vC ι w L hi qZ)
  (hb:fN len kc lo hi=some (l,h)) (h1:len<=kc) (h2:kc<=cap) (isS:Bool):
  (Instr.sliceBounds isS len cap LV qZ none).run P w=.ok (l,h,cap) w/\l<=h/\h<=kc:=by
 unfold fN at hb;split at hb
 ·cases hb
 rename_i H hH;split at hb
 ·cases hb
 rename_i Lw hL;simp only[aK3.injEq,Prod.mk.injEq]at hb;obtain⟨rfl,rfl⟩:=hb;have e2:=adO (P:=P) ik hL;cases hi with
 |none=>
  simp only[vC]at EG;subst EG
  cases hH;refine⟨?_,e2.2,h1⟩;unfold Instr.sliceBounds;simp only[Sem.run_bind,Sem.run_pure,Result.andThen_ok,aLc,aK4,if_false];cases LV with
  |none=>have:=e2.1;simp at this;subst this;rfl
  |some v=>have:=e2.1;simp only at this;simp only[Sem.run_bind,this,Result.andThen_ok,Sem.run_pure]
 |some x=>
  simp only[vC]at EG;obtain⟨y,rfl,hy⟩:=EG;have e1:=Ff (P:=P) hy hH h2 (if isS then .sliceAcap else .sliceAlen);refine⟨?_,e2.2,e1.2⟩;unfold Instr.sliceBounds;simp only[Sem.run_bind,Sem.run_pure,Result.andThen_ok,aLc,aK4,if_false];rw[e1.1];simp only[Result.andThen_ok];cases LV with
  |none=>have:=e2.1;simp at this;subst this;rfl
  |some v=>have:=e2.1;simp only at this;simp only[Sem.run_bind,this,Result.andThen_ok,Sem.run_pure]
def ON(V:Valid E P){t:Nat}{x av:AV}{vx:Value}{lo hi:Option AV}{LV qZ:Option Value}(hx:R ι w L x vx)(ik:vC ι w L lo LV)(EG:vC ι w L hi qZ)
  (h:gg E t x lo hi=some av):∃cv,(Instr.sliceAt t vx LV qZ none).run P w=.ok cv w/\R ι w L av cv:=by
 unfold gg at h;split at h
 ·cases h
 rename_i i sw;have hu:=bg V sw w;split at h
 ·rename_i s eD;rw[eD]at hu;rw[aKD]at h;obtain⟨⟨l,hh⟩,hb,rfl⟩:=h;simp only[R]at hx;subst hx
  have:=lX (P:=P) ik EG hb (aKE _) (aKE _) false
  refine⟨.string ⟨((s.drop l).take (hh-l)).toArray⟩,?_,by simp[R]⟩;have l8:ByteArray.size ⟨s.toArray⟩=s.length:=by simp[ByteArray.size]
  simp only[Instr.sliceAt,Sem.run_bind,hu,Result.andThen_ok,Instr.slice,aLc,aK4,if_false,Sem.run_pure,l8,this.1];congr 2;apply ByteArray.ext;rw[ByteArray.data_extract];apply Array.toList_inj.1;simp[aK6]
 ·rename_i e eD;rw[eD]at hu;split at h
  case h_2=>cases h
  rename_i ei p kn hb;obtain⟨l,hh⟩:=p;cases h;simp only[R]at hx;subst hx;have mN:=lX (P:=P) ik EG hb (aKE _) (aKE _) true
  have:l=0/\hh=0:=by omega
  obtain⟨rfl,rfl⟩:=this;refine⟨.slice none 0 0,?_,by simp[R]⟩;obtain⟨_,_,hw0⟩:=V.Jz kn;simp[Instr.sliceAt,hu,Instr.slice,mN.1,cF V kn w]
 ·rename_i e eD;rw[eD]at hu;split at h
  case h_2=>cases h
  rename_i ei p kn hb;obtain⟨l,hh⟩:=p;cases h;simp only[R]at hx;obtain⟨ad,cap,rfl⟩:=hx;have mN:=lX (P:=P) (cap:=cap) ik EG hb (aKE _) (aLo _) true
  have:l=0/\hh=0:=by omega
  obtain⟨rfl,rfl⟩:=this;refine⟨_,by simp[Instr.sliceAt,hu,Instr.slice,mN.1,cF V kn w];rfl,?_⟩;simp only[R]
  split
  ·exact⟨_,_,rfl⟩
  ·exact⟨_,_,rfl⟩
 ·rename_i e b off len esz kc eD;rw[eD]at hu;split at h
  case h_2=>cases h
  rename_i ei l hh kn hb;simp only[R]at hx;obtain⟨cb,co,cap,c,e',f,h1,rfl,h3,h4,h5,h6⟩:=hx;have mN:=lX (P:=P) (cap:=cap) ik EG hb h3 h4 true;split at h
  ·cases h
  rename_i yX;have yX:ei.size=esz:=by simpa using yX
  have gy:(Instr.sliceAt t (.slice (some ⟨cb,co+off,none⟩) len cap) LV qZ none).run P w=
    .ok (.slice (if cap=l then some ⟨cb,co+off,none⟩else some ⟨cb,co+off+l*esz,none⟩) (hh-l) (cap-l)) w:=by
   simp[Instr.sliceAt,hu,Instr.slice,mN.1,cF V kn w,addr_add,yX]
  split at h
  ·rename_i hl;subst hl;cases h;refine⟨_,gy,?_⟩;simp only[R];refine⟨cb,co,cap,c,e',f,h1,?_,mN.2.2,h4,h5,h6⟩
   split<;>simp
  ·rename_i hl;split at h
   ·rename_i Xr;cases h;refine⟨_,gy,?_⟩;simp only[R,Xr,aLe]
    split
    ·exact⟨_,_,rfl⟩
    ·exact⟨_,_,rfl⟩
   ·rename_i Xr;cases h;refine⟨_,gy,?_⟩;simp only[R];have eQ:cap≠l:=by omega
    refine⟨cb,co,cap-l,c,e',f,h1,by rw[if_neg eQ,aK5],by omega,by omega,h5,?_⟩
    have:l*esz+(cap-l)*esz=cap*esz:=by rw[<-aK8];congr 1;omega
    omega
 ·rename_i e cs len eD;rw[eD]at hu;split at h
  case h_2=>cases h
  rename_i ei l hh kn hb;simp only[R]at hx;obtain⟨cb,o,cap,c,e',f,rfl,h2,h3,h4,h5⟩:=hx;have mN:=lX (P:=P) (cap:=cap) ik EG hb (aKE _) h2 true;have gy:(Instr.sliceAt t (.slice (some ⟨cb,o,none⟩) len cap) LV qZ none).run P w=
    .ok (.slice (if cap=l then some ⟨cb,o,none⟩else some ⟨cb,o+l*ei.size,none⟩) (hh-l) (cap-l)) w:=by
   simp[Instr.sliceAt,hu,Instr.slice,mN.1,cF V kn w,addr_add]
  split at h
  ·rename_i Xr;cases h;refine⟨_,gy,?_⟩;simp only[R,Xr,aLe]
   split
   ·exact⟨_,_,rfl⟩
   ·exact⟨_,_,rfl⟩
  ·rename_i Xr;cases h;refine⟨_,gy,?_⟩;simp only[R];have eQ:cap≠l:=by omega
   exact⟨cb,o+l*ei.size,cap-l,c,e',f,by rw[if_neg eQ],by omega,h3,h4,(h5.drop _).take _⟩
 ·cases h
end
section
variable{E:Env}{P:Program}{ι:cS}{w:World}{L:Nat->Prop}{ts:List AV}{a:Act}{Lo:Nat->Prop}{w0:World}{H:Hp}
def pz{cb o:Nat}{c:Array Value}{e:TypeId}{f:Nat×Nat}(h:w.heap[cb]?=some (.cells c e f)):w.cell? ⟨cb,o,none⟩=c[o]?:=by simp[World.cell?,h]
def ZD(S:fR E Lo w0 ι H w){p:AV}{v:Value}{cs:List AV}{off:Nat}(hp:R ι w (Live Lo ι H) p v)(h:yG E H p=some (cs,off)):
  ∃cb o c e f,v=.pointer (some ⟨cb,o+off,none⟩)/\w.heap[cb]?=some (.cells c e f)/\iI ι w (Live Lo ι H) c o cs:=by
 unfold yG at h;split at h
 ·rename_i b aAV;split at h
  case h_2=>cases h
  rename_i st Aw hb;split at h
  ·cases h
  rename_i dp;cases h;simp only[R]at hp;obtain⟨cb,co,h1,rfl⟩:=hp;obtain⟨D8,co',o,g1,g2,g3,_⟩:=S.obj b _ hb dp;rw[h1]at g1;cases g1
  simp only[fZ]at g3;obtain⟨c,e,f,rfl,g4,_⟩:=g3;exact⟨cb,co,c,e,f,rfl,g2,g4⟩
 ·cases h;simp only[R]at hp;obtain⟨cb,o,c,e,f,rfl,h2,h3,h4⟩:=hp;exact⟨cb,o,c,e,f,rfl,h2,iI.ext (Ext.refl _ _) _ _ _ _ _ (qH _) h4⟩
 ·rename_i g aAV;rw[aKD]at h;obtain⟨Aw,hg,h⟩:=h;cases h;simp only[R]at hp;subst hp;obtain⟨c,e,f,h1,h2,h3,-⟩:=S.glob g _ hg;exact⟨g,0,c,e,f,by simp,h1,iI.ext (Ext.refl _ _) _ _ _ _ _ (qH _) h3⟩
 ·cases h
def Fm{cb o:Nat}{c:Array Value}{e:TypeId}{f:Nat×Nat}(hc:w.heap[cb]?=some (.cells c e f)){cs:List AV}(hr:iI ι w L c o cs):
  ∃vs:List Value,vs.length=cs.length/\(loadCells ⟨cb,o,none⟩ cs.length).run P w=.ok vs.toArray w/\Rs ι w L cs vs:=by
 refine⟨(c.extract o (o+cs.length)).toList,hr.list.length,?_,hr.list⟩
 have:=run_loadCells_list (P:=P) w ⟨cb,o,none⟩ (c.extract o (o+cs.length)).toList (fun j v hj=>by
  rw[addr_add,pz hc];rw[aK2,aK9]at hj;split at hj
  ·exact hj
  ·cases hj)
 rw[hr.list.length]at this;exact this
def Kx(V:Valid E P){t:Nat}{cb o off:Nat}{c:Array Value}{e:TypeId}{f:Nat×Nat}(hc:w.heap[cb]?=some (.cells c e f)){cs:List AV}(hr:iI ι w L c o cs)
  {av:AV} (h:gl E t cs off=some av):∃v,(loadVar t ⟨cb,o+off,none⟩).run P w=.ok v w/\R ι w L av v:=by
 unfold gl at h;cases hi:E.ty t with
 |none=>simp[hi]at h
 |some i=>
  simp only[hi]at h;unfold loadVar;simp only[Sem.run_bind,DN V hi w,Result.andThen_ok];cases ha:i.isAgg with
  |true=>
   simp only[ha,if_true]at h⊢;split at h
   ·rename_i hle;cases h;have kr:=(hr.drop off).take i.size;have hlen:((cs.drop off).take i.size).length=i.size:=by simp;omega
    obtain⟨vs,h1,h2,h3⟩:=Fm (P:=P) hc kr;rw[hlen]at h2;refine⟨.agg vs.toArray,by simp[cF V hi w,h2],?_⟩;simp only[R];exact⟨vs.toArray,rfl,by simpa using h3⟩
   ·cases h
  |false=>
   simp only[ha,aK4,if_false]at h⊢;obtain⟨v,h1,h2⟩:=hr.get off av h;exact⟨v,by simp[pz hc,h1],h2⟩
def SL(V:Valid E P)(S:fR E Lo w0 ι H w){t:Nat}{p av:AV}{v:Value}(hp:R ι w (Live Lo ι H) p v)(h:dW E H t p=some av):
  ∃cv,(Instr.loadAt t v).run P w=.ok cv w/\R ι w (Live Lo ι H) av cv:=by
 unfold dW at h;split at h
 case h_2=>cases h
 rename_i cs off vG;obtain⟨cb,o,c,e,f,rfl,h2,h3⟩:=ZD S hp vG;obtain⟨cv,g1,g2⟩:=Kx V h2 h3 h;exact⟨cv,by simpa[Instr.loadAt,Instr.sureAddr]using g1,g2⟩
def E3(V:Valid E P)(S:fR E Lo w0 ι H w){t:Nat}{x av:AV}{vx:Value}{lo hi:Option AV}{LV qZ:Option Value}(hx:R ι w (Live Lo ι H) x vx)
  (ik:vC ι w (Live Lo ι H) lo LV) (EG:vC ι w (Live Lo ι H) hi qZ)
  (h:gY E H t x lo hi=some av):∃cv,(Instr.sliceAt t vx LV qZ none).run P w=.ok cv w/\R ι w (Live Lo ι H) av cv:=by
 unfold gY at h;split at h
 case h_2=>cases h
 rename_i n e _ _ _ _ _ sw;have hu:=bg V sw w;split at h
 case h_2=>cases h
 rename_i ei l hh kn hb;have mN:=lX (P:=P) (cap:=n) ik EG hb (aKE _) (aKE _) false;have gy:∀cb o,(Instr.sliceAt t (.pointer (some ⟨cb,o,none⟩)) LV qZ none).run P w=
   .ok (.slice (some (if n=l then⟨cb,o,none⟩else⟨cb,o+l*ei.size,none⟩)) (hh-l) (n-l)) w:=by
  intro cb o;simp[Instr.sliceAt,hu,Instr.sureAddr,mN.1,cF V kn w,addr_add]
 split at h
 ·rename_i b off;split at h
  case h_2=>cases h
  rename_i st cs GW;split at h
  ·cases h
  rename_i dp;simp only[not_or]at dp;simp only[R]at hx;obtain⟨cb,co,h1,rfl⟩:=hx;obtain⟨D8,co',o,g1,g2,g3,_⟩:=S.obj b _ GW dp.1;rw[h1]at g1;cases g1
  simp only[fZ]at g3;obtain⟨c,e',f,rfl,g4,_⟩:=g3;split at h
  ·rename_i Xr;cases h;refine⟨_,gy _ _,?_⟩;simp only[R,Xr,aLe];exact⟨_,_,rfl⟩
  ·rename_i Xr;cases h;refine⟨_,gy _ _,?_⟩;simp only[R];have eQ:n≠l:=by omega
   refine⟨cb,co,n-l,c,e',f,h1,by rw[if_neg eQ,aK5],by omega,by omega,g2,?_⟩;have hm:l*ei.size+(n-l)*ei.size=n*ei.size:=by rw[<-aK8];congr 1;omega
   have hlen:off+n*ei.size<=cs.length:=by omega
   have oQ:cs≠[]:=fun e=>by subst e;simp at dp
   have:=g4.size oQ
   omega
 ·rename_i cs off;simp only[R]at hx;obtain⟨cb,o,c,e',f,rfl,h2,h3,h4⟩:=hx;split at h
  ·rename_i Xr;cases h;refine⟨_,gy _ _,?_⟩;simp only[R,Xr,aLe];exact⟨_,_,rfl⟩
  ·rename_i Xr;cases h;refine⟨_,gy _ _,?_⟩;simp only[R];have eQ:n≠l:=by omega
   refine⟨cb,o+off+l*ei.size,n-l,c,e',f,by rw[if_neg eQ],by omega,h2,h3,?_⟩
   have:=(h4.drop (off+l*ei.size)).take ((hh-l)*ei.size)
   rwa[<-aK5]at this
 ·cases h
def Fz(off:Nat):∀(vs:List Value) (k:Nat) (cur:List Value),off+k+vs.length<=cur.length->
  (vs.zipIdx k).foldl (fun(cs:List Value) p=>cs.set (off+p.2) p.1) cur=cur.take (off+k)++vs++cur.drop (off+k+vs.length)
 |[],k,cur,h=>by simp
 |v::vs,k,cur,h=>by
  simp only[List.zipIdx_cons,List.foldl_cons];simp only[aLf]at h;rw[Fz off vs (k+1) (cur.set (off+k) v) (by simp;omega)];have h1:(cur.set (off+k) v).take (off+(k+1))=cur.take (off+k)++[v]:=by rw[show off+(k+1)=(off+k)+1 from by omega,List.take_set,List.take_succ_eq_append_getElem (by omega),List.set_append];simp[Nat.min_eq_left (show off+k<=cur.length by omega)]
  have h2:(cur.set (off+k) v).drop (off+(k+1)+vs.length)=cur.drop (off+k+(vs.length+1)):=by rw[List.drop_set_of_lt (by omega)];congr 1;omega
  rw[h1,h2]
  simp
def CM(off:Nat):∀(zs:List (Value×Nat)) (cur:Array Value),
  (zs.foldl (fun cs p=>cs.setIfInBounds (off+p.2) p.1) cur).toList=zs.foldl (fun(cs:List Value) p=>cs.set (off+p.2) p.1) cur.toList
 |[],cur=>rfl
 |z::zs,cur=>by
  simp only[List.foldl_cons];rw[CM off zs,Array.toList_setIfInBounds]
def x9{place:Nat->Option (Nat×Nat)}:∀{l:List (Nat×AV)} {vs:List (Nat×Value)} {cs out:List AV} {cells:Array Value},RsP ι w L l vs->Rs ι w L cs cells.toList->
  fD place cs l=some out->∃res,Instr.fill place cells vs=some res/\Rs ι w L out res.toList
 |[],_,_,_,_,hl,hc,h=>by
  simp only[RsP]at hl;subst hl
  simp only[fD,aK3.injEq]at h;subst h
  exact⟨_,rfl,hc⟩
 |(i,x)::l,_,cs,out,cells,hl,hc,h=>by
  simp only[RsP]at hl;obtain⟨y,ys,rfl,XR,hl⟩:=hl;unfold fD at h;split at h
  ·cases h
  rename_i off size hp;split at h
  ·cases h
  rename_i yi;simp only[ne_eq,aLb,decide_eq_true_eq,not_or,Decidable.not_not,aLv]at yi;obtain⟨l8,hle⟩:=yi;have agu:=XR.cells;have Ue:y.cells.size=size:=by have:=agu.length;simpa[l8]using this
  have yj:cells.size=cs.length:=by have:=hc.length;simpa using this
  unfold Instr.fill;simp only[hp];rw[if_neg (by simp[Ue,yj];omega)];refine x9 hl ?_ h;rw[<-Array.foldl_toList,CM off];rw[Array.toList_zipIdx,Fz off _ 0 _ (by simp[Ue,yj];omega)];have e1:y.cells.toList.length=size:=by simpa using Ue
  rw[e1];exact((hc.take off).append agu).append (hc.drop (off+size))
end
section
variable{E:Env}{P:Program}{ι:cS}{w:World}{L:Nat->Prop}{ts:List AV}{a:Act}{Lo:Nat->Prop}{w0:World}{H:Hp}
def gq(E:Env)(Lo:Nat->Prop)(w0:World)(ι:cS)(H:Hp)(w:World)(v:AV)(e:cC)(cv:Value)(w':World):Prop:=
 ∃ι':cS,ι.le ι'/\fR E Lo w0 ι' (e.app H) w'/\Ext w (Live Lo ι H) w' (Live Lo ι' (e.app H))/\R ι' w' (Live Lo ι' (e.app H)) v cv
def gq.pure(S:fR E Lo w0 ι H w){v:AV}{cv:Value}(h:R ι w (Live Lo ι H) v cv):gq E Lo w0 ι H w v (.bJ []) cv w:=
 ⟨ι,cS.le_refl _,S,Ext.refl _ _,h⟩
def qG(S:fR E Lo w0 ι H w){aP:Nat}(hf:mD ι H aP){cs:List AV}{c:Array Value}{e:TypeId}{f:Nat×Nat}{w1:World}(hw:w1.heap=w.heap)
  (hos:w1.os=w.os) (EM:w1.tape=w.tape) (zP:w1.output=w.output) (hr:iI ι w (Live Lo ι H) c 0 cs) (fY:∀k,k<=c.size->¬(f.1<=k/\k<f.2):=by simp):
  let dI:=ct.cells .live cs
  let ι':=ι.put aP (w.heap.size,0)
  ι.le ι'/\fR E Lo w0 ι' ((cC.bJ [(aP,dI)]).app H) (w1.alloc (.cells c e f))/\
   Ext w (Live Lo ι H) (w1.alloc (.cells c e f)) (Live Lo ι' ((cC.bJ [(aP,dI)]).app H))/\
   (w1.alloc (.cells c e f)).heap[w.heap.size]?=some (.cells c e f)/\ι' aP=some (w.heap.size,0):=by
 intro dI ι';have hx:=uC S hf (dI:=dI) rfl (.cells c e f) hw;have hle:=cS.wN (p:=(w.heap.size,0)) hf.1;refine⟨hle,?_,hx,?_,by simp[ι',cS.put]⟩
 ·refine S.alloc hf rfl hw hos EM zP ?_;simp only[fZ,dI];exact⟨c,e,f,rfl,iI.ext hx _ _ _ _ _ hle hr,fun _=>fY⟩
 ·simp[World.alloc,hw]
def Gb(S:fR E Lo w0 ι H w){aP:Nat}(hf:mD ι H aP){dI:ct}(hl:dI.st=.live){o:Obj}{w1:World}(hw:w1.heap=w.heap)
  (hos:w1.os=w.os) (EM:w1.tape=w.tape) (zP:w1.output=w.output) (hr:∀ι w L,fZ ι w L 0 dI o) (CZ:dI.pT E:=by trivial):
  let ι':=ι.put aP (w.heap.size,0)
  ι.le ι'/\fR E Lo w0 ι' ((cC.bJ [(aP,dI)]).app H) (w1.alloc o)/\
   Ext w (Live Lo ι H) (w1.alloc o) (Live Lo ι' ((cC.bJ [(aP,dI)]).app H))/\ι' aP=some (w.heap.size,0):=by
 intro ι';exact⟨cS.wN hf.1,S.alloc hf hl hw hos EM zP (hr _ _ _) CZ,uC S hf hl o hw,by simp[ι',cS.put]⟩
def ug(V:Valid E P){t:Nat}{i:sO}{cs:List AV}(hi:E.ty t=some i)(hz:i.zero=some cs)(ι:cS)(w:World)(L:Nat->Prop):
  ∃z,(zeroValue t).run P w=.ok z w/\Rs ι w L cs z.cells.toList/\cs.length=i.size/\(i.isAgg=true->∃a,z=.agg a)/\(i.isAgg=false->z.cells=#[z]):=by
 obtain⟨ti,h1,h2,h3,h4⟩:=(V.ty t i hi).info;obtain⟨z,z1,z2,z3,z4,z5⟩:=h4 cs hz;exact⟨z,by simp[zeroValue,typeInfo,h1,z1],uq 19 _ _ z2,z3,z4,z5⟩
def Gw(V:Valid E P){t:Nat}{z:AV}(h:eo E t=some z)(ι:cS)(w:World)(L:Nat->Prop):
  ∃zv,(zeroValue t).run P w=.ok zv w/\R ι w L z zv:=by
 unfold eo at h;split at h
 case h_2=>cases h
 rename_i i hi;split at h
 case h_2=>cases h
 rename_i cs hz;obtain⟨zv,z1,z2,z3,z4,z5⟩:=ug V hi hz ι w L;refine⟨zv,z1,?_⟩;split at h
 ·rename_i ha;cases h;obtain⟨vs,rfl⟩:=z4 ha;simp only[R];exact⟨vs,rfl,z2⟩
 ·rename_i ha;split at h
  ·rename_i c;cases h;rw[z5 (by simpa using ha)]at z2;simp only[Rs]at z2;obtain⟨y,ys,e1,e2,e3⟩:=z2;simp at e1;rw[e1.1];exact e2
  ·cases h
def RD(V:Valid E P)(S:fR E Lo w0 ι H w){t aP:Nat}(hf:mD ι H aP){z:AV}(h:eo E t=some z):
  ∃cv w',(Instr.alloc t true (.tuple #[])).run P w=.ok cv w'/\gq E Lo w0 ι H w (.bI aP 0) (.bJ [(aP,.cells .live z.cells)]) cv w':=by
 obtain⟨zv,z1,z2⟩:=Gw V h ι w (Live Lo ι H);have hr:iI ι w (Live Lo ι H) zv.cells 0 z.cells:=z2.cells.at (fun i v hv=>by simpa using hv);have N:=qG S hf (e:=t) (f:=(0,0)) (w1:=w) rfl rfl rfl rfl hr;refine⟨.pointer (some ⟨w.heap.size,0,none⟩),w.alloc (.cells zv.cells t (0,0)),?_,_,N.1,N.2.1,N.2.2.1,?_⟩
 ·simp[Instr.alloc,z1,newVar,newRow]
 ·simp only[R];exact⟨_,_,N.2.2.2.2,by simp⟩
def abx(S:fR E Lo w0 ι H w){t aP:Nat}(hf:mD ι H aP){z:AV}{zv:Value}(z2:R ι w (Live Lo ι H) z zv):
  ∃cv w',(Instr.box t zv).run P w=.ok cv w'/\gq E Lo w0 ι H w (.bI aP 0) (.bJ [(aP,.cells .live z.cells)]) cv w':=by
 have hr:iI ι w (Live Lo ι H) zv.cells 0 z.cells:=z2.cells.at (fun i v hv=>by simpa using hv);have N:=qG S hf (e:=t) (f:=(0,0)) (w1:=w) rfl rfl rfl rfl hr;refine⟨.pointer (some ⟨w.heap.size,0,none⟩),w.alloc (.cells zv.cells t (0,0)),?_,_,N.1,N.2.1,N.2.2.1,?_⟩
 ·simp[Instr.box,newVar,newRow]
 ·simp only[R];exact⟨_,_,N.2.2.2.2,by simp⟩
def K4(z:List AV):∀(n k:Nat),(gD z n)[k]?=if k<n*z.length then z[k%z.length]? else none
 |0,k=>by simp[gD]
 |n+1,k=>by
  simp only[gD];rw[aKH];by_cases hk:k<z.length
  ·rw[if_pos hk,if_pos (by rw[aK8];omega),Nat.mod_eq_of_lt hk]
  ·rw[if_neg hk,K4 z n (k-z.length)];have e:(k-z.length)%z.length=k%z.length:=by rw[Nat.mod_eq_sub_mod (a:=k) (by omega)]
   rw[e];have e2:(n+1)*z.length=n*z.length+z.length:=by rw[aK8,Nat.one_mul]
   by_cases h2:k-z.length<n*z.length
   ·rw[if_pos h2,if_pos (by omega)]
   ·rw[if_neg h2,if_neg (by omega)]
def tX(z:List AV):∀n,(gD z n).length=n*z.length
 |0=>by simp[gD]
 |n+1=>by simp[gD,tX z n,aK8];omega
def Rd{cs:List AV}{z:Array Value}(h:Rs ι w L cs z.toList)(eQ:0<cs.length)(n:Nat):
  Rs ι w L (gD cs n) ((Array.range (n*cs.length)).map (fun i=>z[i%z.size]!)).toList:=by
 have hz:z.size=cs.length:=by have:=h.length;simpa using this
 refine Rs.gR (by simp[tX]) fun i x hx=>?_
 rw[K4]at hx;split at hx
 ·rename_i hi;obtain⟨v,h1,h2⟩:=h.get _ x hx;refine⟨v,?_,h2⟩;rw[aK2]at h1⊢;rw[Array.getElem?_map,Array.getElem?_range,if_pos hi];simp only[aLt,hz];rw[getElem!_def,h1]
 ·cases hx
def EU(V:Valid E P)(S:fR E Lo w0 ι H w){t aP:Nat}(hf:mD ι H aP){l c v:AV}{vl vc:Value}{st:List (Nat×ct)}
  (hl:R ι w (Live Lo ι H) l vl) (hc:R ι w (Live Lo ι H) c vc) (h:fp E aP t l c=some (v,st)):
  ∃cv w',(Instr.makeSlice t vl vc).run P w=.ok cv w'/\gq E Lo w0 ι H w v (.bJ st) cv w':=by
 unfold fp at h;split at h
 case h_2=>cases h
 rename_i e _ _ _ _ _ kl n kc m hi;have hu:=(V.ty t _ hi).cD;split at h
 case h_2=>cases h
 rename_i ei kn;split at h
 case h_2=>cases h
 rename_i z hz;split at h
 case isFalse=>cases h
 rename_i yi;obtain⟨h0,yZ,hb,h63,Eh,Ju⟩:=yi;simp only[aK3.injEq,Prod.mk.injEq]at h;obtain⟨rfl,rfl⟩:=h;simp only[R]at hl hc;subst hl;subst hc
 obtain⟨ti,g1,g2,g3,g4⟩:=(V.ty e ei kn).info;obtain⟨zv,z1,z2,z3,_,_⟩:=g4 z hz;have hzr:Rs ι w (Live Lo ι H) z zv.cells.toList:=uq 19 _ _ z2;have hm:m.toNat*ei.bytes<=140737488355328:=hb;have run:=run_make (P:=P) w t e ti zv hu g1 z1 kl kc n m h0 yZ (by
   rw[g3]
   have:=Int.ofNat_le.2 hm
   have e1:((m.toNat:Nat):Int)=m:=by omega
   rw[Int.natCast_mul,e1]at this;rw[Int.mul_comm];omega) (by omega)
 rw[g2]at run;have hr0:=Rd hzr (by omega) m.toNat;rw[Eh]at hr0;have hr:iI ι w (Live Lo ι H) (madeCells zv.cells (m.toNat*ei.size)) 0 (gD z m.toNat):=hr0.at (fun i v hv=>by
  rw[aK2]at hv;unfold madeCells;rw[aLg];exact hv)
 have N:=qG S hf (e:=e) (f:=(0,0)) (w1:=w) rfl rfl rfl rfl hr (fun k _ hk=>by exact absurd hk.2 (Nat.not_lt_zero _));refine⟨_,_,run,_,N.1,N.2.1,N.2.2.1,?_⟩;simp only[R];refine⟨w.heap.size,0,m.toNat,madeCells zv.cells (m.toNat*ei.size),e,(0,0),N.2.2.2.2,rfl,by omega,aKE _,N.2.2.2.1,?_⟩;rw[size_madeCells];omega
end
section
variable{E:Env}{P:Program}{ι:cS}{w:World}{L:Nat->Prop}{ts:List AV}{a:Act}{Lo:Nat->Prop}{w0:World}{H:Hp}
def heap_setCell(w:World)(b o:Nat)(v:Value)(x:Nat):(w.setCell ⟨b,o,none⟩ v).heap[x]?=
  if x=b then(w.heap[b]?).map (fun ob=>match ob with|.cells c e f=>.cells (c.setIfInBounds o v) e f|ob=>ob)else w.heap[x]?:=by
 simp only[World.setCell,Array.getElem?_modify];by_cases hx:x=b
 ·subst hx;simp only[if_true];cases w.heap[x]? with
  |none=>rfl
  |some ob=>cases ob<;>simp
 ·rw[if_neg (fun e=>hx e.symm),if_neg hx]
def kG:∀(vs:List Value) (w:World) (cb o:Nat) (c:Array Value) (e:TypeId) (f:Nat×Nat),w.heap[cb]?=some (.cells c e f)->o+vs.length<=c.size->
  ∃c',El w (w.setCells cb o vs) cb (.cells c' e f)/\c'.size=c.size/\∀k:Nat,c'[k]?=if o<=k/\k<o+vs.length then vs[k-o]? else c[k]?
 |[],w,cb,o,c,e,f,h,_=>⟨c,⟨rfl,rfl,rfl,rfl,h,fun _ _=>rfl⟩,rfl,fun k=>by rw[if_neg (by simp only[List.length_nil];omega)]⟩
 |v::vs,w,cb,o,c,e,f,h,hl=>by
  simp only[aLf]at hl;have h1:(w.setCell ⟨cb,o,none⟩ v).heap[cb]?=some (.cells (c.setIfInBounds o v) e f):=by rw[heap_setCell,if_pos rfl,h];rfl
  obtain⟨c',g1,g2,g3⟩:=kG vs (w.setCell ⟨cb,o,none⟩ v) cb (o+1) _ e f h1 (by simp;omega);refine⟨c',⟨g1.os,g1.tape,g1.output,?_,g1.here,fun x hx=>?_⟩,by rw[g2];simp,fun k=>?_⟩
  ·have:=g1.size
   simpa[World.setCells,World.setCell]using this
  ·have:=g1.there x hx
   rw[heap_setCell,if_neg hx]at this;exact this
  ·rw[g3];simp only[aLf];by_cases hk:k=o
   ·subst hk;rw[if_neg (by omega),if_pos (by omega),Array.getElem?_setIfInBounds,if_pos rfl,if_pos (by omega)]
    simp
   ·by_cases h2:o+1<=k/\k<o+1+vs.length
    ·rw[if_pos h2,if_pos (by omega)];rw[show k-o=(k-(o+1))+1 from by omega]
     simp
    ·rw[if_neg h2,if_neg (by omega),Array.getElem?_setIfInBounds_ne (fun q=>hk q.symm)]
def ua(S:fR E Lo w0 ι H w){b cb co off:Nat}{cs xs:List AV}{vs:List Value}(hb:H[b]?=some (.cells .live cs))(hi:ι b=some (cb,co))
  (hr:Rs ι w (Live Lo ι H) xs vs) (hle:off+xs.length<=cs.length) (vF:xs.all cL=true):
  (storeCells ⟨cb,co+off,none⟩ vs).run P w=.ok () (w.setCells cb (co+off) vs)/\
   fR E Lo w0 ι (H.set b (.cells .live (cV cs off xs))) (w.setCells cb (co+off) vs)/\
   Ext w (Live Lo ι H) (w.setCells cb (co+off) vs) (Live Lo ι (H.set b (.cells .live (cV cs off xs)))):=by
 obtain⟨D8,co',o,g1,g2,g3,g4,_⟩:=S.obj b _ hb (by simp[ct.st]);rw[hi]at g1;cases g1
 simp only[fZ]at g3;obtain⟨c,e,f,rfl,g5,g6⟩:=g3;have hlen:vs.length=xs.length:=hr.length;by_cases AH:xs=[]
 ·subst AH;simp at hlen;subst hlen;have e1:cV cs off []=cs:=by simp[cV]
  have e2:H.set b (.cells .live cs)=H:=by
   apply List.ext_getElem?;intro k;rw[aKA]
   split
   ·rename_i hk;subst hk;rw[hb];split<;>rename_i ek
    ·rfl
    ·exact absurd (aKB.1 hb).1 ek
   ·rfl
  rw[e1,e2];exact⟨by simp[storeCells,World.setCells],S,Ext.refl _ _⟩
 have hxl:0<xs.length:=List.length_pos_iff.2 AH;have oQ:cs≠[]:=fun q=>by subst q;simp only[List.length_nil]at hle;omega
 have l8:=g5.size oQ;have gy:=run_storeCells_cells (P:=P) cb (co+off) vs 0 w (fun j hj=>by
   rw[pz g2,aLd (show co+off+0+j<c.size by omega)];rfl) (fun j hj=>by
   have:=g6 trivial (co+off+0+j) (by omega)
   simp only[World.frozen?,g2];simpa using this) (fun v hv=>by
   obtain⟨i,sw⟩:=aLj hv;have LJ:i<xs.length:=by have:=(aKB.1 sw).1;omega
   obtain⟨v',k1,k2⟩:=hr.get i _ (aLh LJ);rw[sw]at k1;cases k1
   exact Ac k2 (aLq.1 vF _ (aLr LJ)))
 obtain⟨c',q1,q2,q3⟩:=kG vs w cb (co+off) c e f g2 (by omega);refine⟨by simpa using gy,?_⟩;have nK:Live Lo ι H cb:=.inr ⟨b,_,co,hb,rfl,hi⟩;have hx:=q1.ext (L:=Live Lo ι H) (L':=Live Lo ι H) g2 (fun cs e f q=>by cases q;exact⟨c',_,rfl,q2⟩) nK (fun _ h=>h);refine S.update hb rfl rfl hi g2 (fun cs e f q=>by cases q;exact⟨c',_,rfl,q2⟩) q1 ?_;simp only[fZ];refine⟨c',e,f,rfl,iI.gR fun i x Is=>?_,fun _=>by rw[q2];exact g6 trivial⟩;rw[q3];unfold cV at Is;rw[aKH,aKH]at Is;simp only[aLk,List.length_take]at Is;have MU:min off cs.length=off:=by omega
 rw[MU]at Is;by_cases h1:i<off
 ·rw[if_pos (by omega),if_pos h1,List.getElem?_take,if_pos h1]at Is;rw[if_neg (by omega)];obtain⟨v,k1,k2⟩:=g5.get i x Is;exact⟨v,k1,R.ext hx _ _ _ _ (cS.le_refl _) k2⟩
 ·by_cases h2:i<off+xs.length
  ·rw[if_pos h2,if_neg h1]at Is;rw[if_pos (by omega)];obtain⟨v,k1,k2⟩:=hr.get _ x Is;exact⟨v,by rw[<-k1];congr 1;omega,R.ext hx _ _ _ _ (cS.le_refl _) k2⟩
  ·rw[if_neg h2,List.getElem?_drop]at Is;rw[if_neg (by omega)];obtain⟨v,k1,k2⟩:=g5.get _ x Is;refine⟨v,?_,R.ext hx _ _ _ _ (cS.le_refl _) k2⟩;rw[<-k1];congr 1;omega
def jR{b:Nat}{dI:ct}{x:ct}(hb:H[b]?=some x):(cC.bJ [(b,dI)]).app H=H.set b dI:=by
 have:=(aKB.1 hb).1
 simp[cC.app,cJ,this]
def OR(V:Valid E P)(S:fR E Lo w0 ι H w){t:Nat}{p x:AV}{vp vx:Value}{st:List (Nat×ct)}(hp:R ι w (Live Lo ι H) p vp)(hx:R ι w (Live Lo ι H) x vx)
  (h:fe E H t p x=some st):∃w',(Instr.storeAt t vp vx).run P w=.ok () w'/\gq E Lo w0 ι H w bS (.bJ st) undef w':=by
 unfold fe at h;split at h
 case h_2=>cases h
 rename_i b off i hi;split at h
 case h_2=>cases h
 rename_i cs hb;split at h
 ·cases h
 rename_i yi;simp only[ne_eq,aLb,decide_eq_true_eq,not_or,Decidable.not_not,aLv,aLm,aLn]at yi;obtain⟨⟨h1,h2⟩,h3⟩:=yi;cases h;simp only[R]at hp;obtain⟨cb,co,g1,rfl⟩:=hp;have T:=ua (P:=P) (xs:=x.cells) (off:=off) S hb g1 hx.cells (by omega) (by simpa using h3);refine⟨_,?_,ι,cS.le_refl _,by rw[jR hb];exact T.2.1,by rw[jR hb];exact T.2.2,by simp[bS,undef,R,Rs]⟩;have l8:vx.cells.size=i.size:=by have:=hx.cells.length;simpa[h1]using this
 simp only[Instr.storeAt,Instr.sureAddr,Sem.run_bind,Sem.run_pure,Result.andThen_ok,storeVar,cF V hi w,l8,ne_eq,not_true_eq_false,if_false];exact T.1
end
section
variable{E:Env}{P:Program}{ι:cS}{w:World}{L:Nat->Prop}{ts:List AV}{a:Act}{Lo:Nat->Prop}{w0:World}{H:Hp}
def ve(S:fR E Lo w0 ι H w){x:AV}{vx:Value}(hx:R ι w (Live Lo ι H) x vx){esz n:Nat}{xs:List AV}(hl:l9 x=some n)(h:mX H esz x=some xs):
  ∃news:Array Value,(Builtin.lenOf vx).run P w=.ok n w/\xs.length=n*esz/\Rs ι w (Live Lo ι H) xs news.toList/\
   (∀m,m<=n->(Builtin.firstCells esz m vx).run P w=.ok (news.extract 0 (m*esz)) w):=by
 unfold mX at h;split at h
 ·rename_i b;split at h
  case isFalse=>cases h
  rename_i yX;cases h;subst yX;simp only[l9,aK3.injEq]at hl;simp only[R]at hx;subst hx;subst hl;refine⟨(b.map fun c=>Value.int .u8 c.toNat).toArray,?_,by simp,?_,fun m hm=>?_⟩
  ·simp[Builtin.lenOf,ByteArray.size]
  ·refine Rs.gR (by simp) fun i y hy=>?_
   simp only[List.getElem?_map,aKD]at hy;obtain⟨c,hc,rfl⟩:=hy;refine⟨.int .u8 c.toNat,by simp[hc],by simp[R]⟩
  ·simp only[Builtin.firstCells,Sem.run_pure];congr 1;apply aLz;rw[Array.toList_map,ByteArray.data_extract,aK7,aK7];simp[aK6,List.map_take]
 ·unfold gO at h;split at h
  ·cases h;simp only[l9,aK3.injEq]at hl;subst hl
   simp only[R]at hx;subst hx
   exact⟨#[],by simp[Builtin.lenOf],by simp,by simp[Rs],fun m hm=>by simp[Builtin.firstCells]⟩
  ·cases h;simp only[l9,aK3.injEq]at hl;subst hl
   simp only[R]at hx;obtain⟨ad,cap,rfl⟩:=hx
   refine⟨#[],by simp[Builtin.lenOf],by simp,by simp[Rs],fun m hm=>?_⟩
   have:m=0:=by omega
   subst this;simp[Builtin.firstCells,loadCells,loadCellsFrom]
  ·rename_i cs len _;split at h
   case isFalse=>cases h
   rename_i vQ;cases h;simp only[l9,aK3.injEq]at hl;subst hl
   simp only[R]at hx;obtain⟨cb,o,cap,c,e,f,rfl,h2,h3,h4,h5⟩:=hx;have h5':=iI.ext (Ext.refl w (Live Lo ι H)) _ _ ι _ _ (qH ι) h5;refine⟨c.extract o (o+xs.length),by simp[Builtin.lenOf],vQ,h5'.list,fun m hm=>?_⟩;have kq:m*esz<=xs.length:=by rw[vQ];exact aLa _ hm
   obtain⟨vs,g1,g2,g3⟩:=Fm (P:=P) h3 (h5'.take (m*esz));have hlen:(xs.take (m*esz)).length=m*esz:=by simp;omega
   have g2':=run_loadCells_list (P:=P) w ⟨cb,o,none⟩ (c.extract o (o+m*esz)).toList (fun j v hj=>by
    rw[addr_add,pz h3];rw[aK2,aK9]at hj;split at hj
    ·exact hj
    ·cases hj)
   have yj:(c.extract o (o+m*esz)).toList.length=m*esz:=by
    have:=(h5'.take (m*esz)).list.length
    rw[hlen]at this;exact this
   rw[yj]at g2';simp only[Builtin.firstCells,g2'];congr 1;apply aLz;simp only[aK7,aK6,Nat.sub_zero,List.drop_zero,List.take_take];congr 1;omega
  ·rename_i b off len e kc _;split at h
   ·cases h
   rename_i yX;simp only[ne_eq,Decidable.not_not]at yX;subst yX;split at h
   case h_2=>cases h
   rename_i st cs hb;split at h
   ·cases h
   rename_i dp;simp only[not_or,aLv]at dp;cases h;simp only[l9,aK3.injEq]at hl;subst hl
   simp only[R]at hx;obtain⟨cb,co,cap,c,e',f,h1,rfl,h3,h4,h5,h6⟩:=hx;obtain⟨D8,co',o,g1,g2,g3,_⟩:=S.obj b _ hb dp.1;rw[h1]at g1;cases g1
   rw[h5]at g2;cases g2
   simp only[fZ]at g3;obtain⟨c2,e2,f2,q1,q2,_⟩:=g3;cases q1;have hr:=(q2.drop off).take (len*e);have hlen:((cs.drop off).take (len*e)).length=len*e:=by simp;omega
   refine⟨c.extract (co+off) (co+off+len*e),by simp[Builtin.lenOf],hlen,by have:=hr.list;rwa[hlen]at this,fun m hm=>?_⟩;have kq:m*e<=len*e:=aLa _ hm;have g2':=run_loadCells_list (P:=P) w ⟨cb,co+off,none⟩ (c.extract (co+off) (co+off+m*e)).toList (fun j v hj=>by
    rw[addr_add,pz h5];rw[aK2,aK9]at hj;split at hj
    ·exact hj
    ·cases hj)
   have yj:(c.extract (co+off) (co+off+m*e)).toList.length=m*e:=by
    have:=(hr.take (m*e)).list.length
    have h8:(((cs.drop off).take (len*e)).take (m*e)).length=m*e:=by simp;omega
    rw[h8]at this;exact this
   rw[yj]at g2';simp only[Builtin.firstCells,g2'];congr 1;apply aLz;simp only[aK7,aK6,Nat.sub_zero,List.drop_zero,List.take_take];congr 1;omega
  ·cases h
section
variable{t u ty e:Nat}{ats:Array Nat}{args:Array Value}{vx:Value}{ui ei:sO}{n:Nat}{news:Array Value}{b:Option Addr}{sl sc:Nat}
def Cc(V:Valid E P)(Ik:ats[0]?=some t)(vE:ats[1]?=some u)(Ip:args[0]?=some (.slice b sl sc))(BK:args[1]?=some vx)
  (eD:(underlying t).run P w=.ok (.slice e) w) (kn:E.ty e=some ei) (LO:(underlying u).run P w=.ok ui.cD w) (hq:∀k,ui.cD≠ .int k)
  (hlen:(Builtin.lenOf vx).run P w=.ok n w) (MV:(Builtin.firstCells ei.size n vx).run P w=.ok news w) (EE:sl+n<=sc:=by omega):
  (Builtin.append_ ats ty args).run P w=(match b with
   |some a=>(do storeCells (a.add (sl*ei.size)) news.toList;pure (.slice b (sl+n) sc):Sem Value).run P w
   |none=>.ok (.slice b (sl+n) sc) w):=by
 cases hd:ui.cD
 case int k=>exact absurd hd (hq k)
 all_goals
  rw[hd]at LO;simp only[Builtin.append_,Ik,vE,Ip,BK,Sem.run_bind,eD,Result.andThen_ok,cF V kn w,LO,Sem.run_pure,hlen,MV,EE,if_true,Bool.not_false,aK4,if_false];cases b<;>simp
def Fb(V:Valid E P)(Ik:ats[0]?=some t)(vE:ats[1]?=some u)(Ip:args[0]?=some (.slice b sl sc))(BK:args[1]?=some vx)
  (eD:(underlying t).run P w=.ok (.slice e) w) (kn:E.ty e=some ei) (LO:(underlying u).run P w=.ok ui.cD w) (hq:∀k,ui.cD≠ .int k)
  (hlen:(Builtin.lenOf vx).run P w=.ok n w) (EE:¬sl+n<=sc) (hb:(sl+n)*ei.bytes<=140737488355328) (h63:sl+n<=4611686018427387904)
  {Of z:Array Value} (hz:∀w:World,∃zv,(zeroValue e).run P w=.ok zv w/\zv.cells=z)
  (MV:(Builtin.firstCells ei.size n vx).run P w.drew=.ok news w.drew) (hold:(Builtin.firstCells ei.size sl (.slice b sl sc)).run P w.drew=.ok Of w.drew):
  (Builtin.append_ ats ty args).run P w=.ok (.slice (some ⟨w.heap.size,0,none⟩) (sl+n) (grownCap w (sl+n) sc e))
   (w.drew.alloc (.cells (Of++news++Builtin.zeroCells z (grownCap w (sl+n) sc e-(sl+n))) e)):=by
 obtain⟨ti,t1,t2,t3⟩:=V.Jz kn;have asY:=growslice_fits (need:=sl+n) (old:=sc) (bytes:=ei.bytes) (by omega) hb;have hn1:¬(281474976710656<Builtin.nextslicecap (sl+n) sc*ei.bytes):=by omega
 have Sl:IntKind.i64.max=9223372036854775807:=by decide
 have xh:¬(9223372036854775807<((sl+n:Nat):Int)):=by omega
 obtain⟨zv,Um,Uo⟩:=hz w.drew;have aDq:Sem.run P (Builtin.firstCells ei.size n vx) {heap:=w.heap,tape:=w.tape,drawn:=w.drawn+1,os:=w.os,output:=w.output}=.ok news w.drew:=MV;have Xy:Sem.run P (Builtin.firstCells ei.size sl (.slice b sl sc)) {heap:=w.heap,tape:=w.tape,drawn:=w.drawn+1,os:=w.os,output:=w.output}=.ok Of w.drew:=hold;have M4:∀w:World,(typeInfo e).run P w=.ok ti w:=fun w=>by simp[typeInfo,t1]
 cases hd:ui.cD
 case int k=>exact absurd hd (hq k)
 all_goals
  rw[hd]at LO;simp only[Builtin.append_,Ik,vE,Ip,BK,Sem.run_bind,eD,Result.andThen_ok,cF V kn w,LO,Sem.run_pure,hlen,EE,if_false,Bool.not_false,aK4,M4,t3,Sl,gt_iff_lt,xh,false_and,hn1,run_choose,Question.forced,run_askRoom,Xy,MV,Um,Uo,newRow,run_newObj,Nat.reducePow,if_true];rfl
def sS(V:Valid E P){k k':IntKind}{m:Int}(Ik:ats[0]?=some t)(vE:ats[1]?=some u)(Ip:args[0]?=some (.slice b sl sc))(BK:args[1]?=some (.int k' m))
  (eD:(underlying t).run P w=.ok (.slice e) w) (kn:E.ty e=some ei) (LO:(underlying u).run P w=.ok ui.cD w) (hq:ui.cD=.int k)
  (h0:0<=m) (aGF:m<=4611686018427387904) (hmb:m.toNat*ei.bytes<=140737488355328) (Ju:m.toNat*ei.size≠0)
  (EE:¬sl+m.toNat<=sc) (hb:(sl+m.toNat)*ei.bytes<=140737488355328) (h63:sl+m.toNat<=4611686018427387904) (hbz:ei.bytes≠0)
  {Of z:Array Value} (hz:∀w:World,∃zv,(zeroValue e).run P w=.ok zv w/\zv.cells=z)
  (hold:(Builtin.firstCells ei.size sl (.slice b sl sc)).run P w.drew=.ok Of w.drew):
  (Builtin.append_ ats ty args).run P w=.ok (.slice (some ⟨w.heap.size,0,none⟩) (sl+m.toNat) (grownCap w (sl+m.toNat) sc e))
   (w.drew.alloc (.cells (Of++Builtin.zeroCells z m.toNat++Builtin.zeroCells z (grownCap w (sl+m.toNat) sc e-(sl+m.toNat))) e)):=by
 obtain⟨ti,t1,t2,t3⟩:=V.Jz kn;have asY:=growslice_fits (need:=sl+m.toNat) (old:=sc) (bytes:=ei.bytes) (by omega) hb;have hn1:¬(281474976710656<Builtin.nextslicecap (sl+m.toNat) sc*ei.bytes):=by omega
 have Sl:IntKind.i64.max=9223372036854775807:=by decide
 have xh:¬(9223372036854775807<((sl+m.toNat:Nat):Int)):=by omega
 obtain⟨zv,Um,Uo⟩:=hz w.drew;have Xy:Sem.run P (Builtin.firstCells ei.size sl (.slice b sl sc)) {heap:=w.heap,tape:=w.tape,drawn:=w.drawn+1,os:=w.os,output:=w.output}=.ok Of w.drew:=hold;have M4:∀w:World,(typeInfo e).run P w=.ok ti w:=fun w=>by simp[typeInfo,t1]
 have hw:IntKind.i64.wrap m=m:=by rw[IntKind.wrap_i64];omega
 have n1:¬m<0:=by omega
 have n3:¬(281474976710656<m*(ei.bytes:Int)):=by
  have:=Int.ofNat_le.2 hmb
  have e1:((m.toNat:Nat):Int)=m:=by omega
  rw[Int.natCast_mul,e1]at this;omega
 rw[hq]at LO;simp only[Builtin.append_,Ik,vE,Ip,BK,Sem.run_bind,eD,Result.andThen_ok,cF V kn w,LO,Sem.run_pure,asInt,asIntOf,hw,n1,n3,Ju,EE,if_false,Bool.not_true,aK4,M4,t3,Sl,gt_iff_lt,xh,false_and,hn1,run_choose,Question.forced,run_askRoom,Xy,Um,Uo,newRow,run_newObj,Nat.reducePow,Int.reducePow,if_true];rfl
end
def uE(S:fR E Lo w0 ι H w){aP:Nat}(hf:mD ι H aP){cs:List AV}{n esz e cap:Nat}{vs rest:Array Value}(hr:Rs ι w (Live Lo ι H) cs vs.toList)
  (hn:cs.length=n*esz) (sq:n<=cap) (tC:rest.size=(cap-n)*esz):
  gq E Lo w0 ι H w (.aI aP 0 n esz n) (.bJ [(aP,.cells .live cs)]) (.slice (some ⟨w.heap.size,0,none⟩) n cap) (w.drew.alloc (.cells (vs++rest) e)):=by
 have hl:vs.size=cs.length:=by have:=hr.length;simpa using this
 have hat:iI ι w (Live Lo ι H) (vs++rest) 0 cs:=hr.at (fun i v hv=>by
  rw[aK2]at hv
  have:i<vs.size:=(Array.getElem?_eq_some_iff.1 hv).1
  rw[aLg,Array.getElem?_append_left this];exact hv)
 have N:=qG S hf (e:=e) (f:=(0,0)) (w1:=w.drew) rfl rfl rfl rfl hat (fun k _ hk=>absurd hk.2 (Nat.not_lt_zero _));refine⟨_,N.1,N.2.1,N.2.2.1,?_⟩;simp only[R];refine⟨w.heap.size,0,cap,vs++rest,e,(0,0),N.2.2.2.2,rfl,aKE _,sq,N.2.2.2.1,?_⟩;rw[Array.size_append,hl,hn,tC,<-aK8]
 have:n+(cap-n)=cap:=by omega
 rw[this];omega
end
section
variable{E:Env}{P:Program}{ι:cS}{w:World}{L:Nat->Prop}{ts:List AV}{a:Act}{Lo:Nat->Prop}{w0:World}{H:Hp}
def fR.dr(S:fR E Lo w0 ι H w):fR E Lo w0 ι H w.drew:=(S.drew (w':=w.drew) rfl rfl rfl rfl).1
def CD{w':World}(h:w'.heap=w.heap):Ext w L w' L:=
 ⟨by rw[h];exact aKE _,fun _ _ hn=>⟨by rw[h],hn⟩,fun c cs e f hc=>⟨cs,f,by rw[h];exact hc,rfl⟩⟩
def R.dr{x:AV}{v:Value}(h:R ι w L x v):R ι w.drew L x v:=R.ext (w:=w) (w':=w.drew) (CD rfl) _ _ _ _ (cS.le_refl _) h
def Rs.aBy{x:List AV}{v:List Value}(h:Rs ι w.drew L x v):Rs ι w L x v:=Rs.ext (w:=w.drew) (w':=w) (CD rfl) _ _ _ _ (cS.le_refl _) h
def lJ(z:Array Value)(n:Nat):(Builtin.zeroCells z n).size=n*z.size:=size_zeroCells z n
def D4(V:Valid E P){e:Nat}{ei:sO}(kn:E.ty e=some ei){zc:List AV}(hz:ei.zero=some zc):
  ∃z:Array Value,z.size=ei.size/\∀w:World,∃zv,(zeroValue e).run P w=.ok zv w/\zv.cells=z:=by
 obtain⟨ti,h1,h2,h3,h4⟩:=(V.ty e ei kn).info;obtain⟨z,z1,z2,z3,z4,z5⟩:=h4 zc hz
 have:=(uq (ι:=cg) (w:=default) (L:=fun _=>False) 19 _ _ z2).length
 exact⟨z.cells,by simp at this;omega,fun w=>⟨z,by simp[zeroValue,typeInfo,h1,z1],rfl⟩⟩
def ot{cb o m esz len cap:Nat}{c:Array Value}{e:TypeId}{f:Nat×Nat}(hc:w.heap[cb]?=some (.cells c e f))(hle:o+m*esz<=c.size):
  (Builtin.firstCells esz m (.slice (some ⟨cb,o,none⟩) len cap)).run P w=.ok (c.extract o (o+m*esz)) w:=by
 have g:=run_loadCells_list (P:=P) w ⟨cb,o,none⟩ (c.extract o (o+m*esz)).toList (fun j v hj=>by
  rw[addr_add,pz hc];rw[aK2,aK9]at hj;split at hj
  ·exact hj
  ·cases hj)
 have hl:(c.extract o (o+m*esz)).toList.length=m*esz:=by simp;omega
 rw[hl]at g;simp only[Builtin.firstCells,g]
def Cf(V:Valid E P)(S:fR E Lo w0 ι H w){aP t u ty:Nat}(hf:mD ι H aP){ats:Array Nat}{args:Array Value}{vs vx:Value}{ui:sO}
  (Ik:ats[0]?=some t) (vE:ats[1]?=some u) (Ip:args[0]?=some vs) (BK:args[1]?=some vx) (hu:E.ty u=some ui)
  (hq:∀k,ui.cD≠ .int k) {s x v:AV} {st:List (Nat×ct)}
  (hs:R ι w (Live Lo ι H) s vs) (hx:R ι w (Live Lo ι H) x vx) (h:dT E H aP false t s x=some (v,st)):
  ∃cv w',(Builtin.append_ ats ty args).run P w=.ok cv w'/\gq E Lo w0 ι H w v (.bJ st) cv w':=by
 unfold dT at h;split at h
 case h_2=>cases h
 rename_i e _ _ _ _ _ hi;have eD:(underlying t).run P w=.ok (.slice e) w:=bg V hi w;have LO:(underlying u).run P w=.ok ui.cD w:=bg V hu w;split at h
 case h_2=>cases h
 rename_i ei kn;split at h
 case h_2=>cases h
 rename_i n xs o6;simp only[qM,aK4,if_false]at o6;split at o6
 case h_2=>cases o6
 rename_i n' xs' hlx XL;cases o6;obtain⟨news,x1,x2,x3,x4⟩:=ve S hx hlx XL;obtain⟨auH,d1,d2,d3,d4⟩:=ve S.dr hx.dr hlx XL;have hns:news.size=n*ei.size:=by have:=x3.length;rw[<-x2];simpa using this
 have hnd:auH.size=n*ei.size:=by have:=d3.length;rw[<-d2];simpa using this
 have xn:=x4 n (aKE _);rw[<-hns,aLl]at xn;have dn:=d4 n (aKE _);rw[<-hnd,aLl]at dn;split at h
 ·
  rename_i AF;subst AF;have AF:news=#[]:=by apply Array.eq_empty_of_size_eq_zero;rw[hns];simp
  have C1:∃b sl sc,vs=.slice b sl sc/\sl<=sc/\(b=none∨∃ad,b=some ad):=by
   cases s<;>first|(exfalso;revert h;simp;done)|simp only[R]at hs
   ·exact⟨none,0,0,hs,aKE _,.inl rfl⟩
   ·obtain⟨ad,cap,rfl⟩:=hs;exact⟨_,_,_,rfl,aLo _,.inr ⟨ad,rfl⟩⟩
   ·obtain⟨cb,co,cap,c,e',f,h1,rfl,h3,h4,_⟩:=hs;exact⟨_,_,_,rfl,by omega,.inr ⟨_,rfl⟩⟩
   ·obtain⟨cb,o,cap,c,e',f,rfl,h3,_⟩:=hs;exact⟨_,_,_,rfl,by omega,.inr ⟨_,rfl⟩⟩
  obtain⟨b,sl,sc,rfl,hle,hb⟩:=C1;have gy:=Cc (ty:=ty) V Ik vE Ip BK eD kn LO hq x1 xn;refine⟨.slice b sl sc,w,?_,?_⟩
  ·rw[gy];subst AF;rcases hb with rfl|⟨ad,rfl⟩
   ·simp
   ·simp[storeCells]
  ·have:v=s/\st=[]:=by
    cases s<;>first|(exfalso;revert h;simp;done)|(simp only[if_true,aK3.injEq,Prod.mk.injEq]at h;exact⟨h.1.symm,h.2.symm⟩)
   rw[this.1,this.2];exact gq.pure S hs
 rename_i AF;split at h
 ·cases h
 rename_i Jn;simp only[aLb,decide_eq_true_eq,not_or,aLm,aLn]at Jn;obtain⟨⟨aG7,vF⟩,hzn⟩:=Jn;obtain⟨zc,hzc⟩:∃zc,ei.zero=some zc:=by
  cases hh:ei.zero with
  |none=>rw[hh]at hzn;exact absurd rfl hzn
  |some zc=>exact⟨zc,rfl⟩
 obtain⟨z,XS,hz⟩:=D4 V kn hzc;have d3':=d3.aBy;split at h
 ·
  split at h
  case isFalse=>cases h
  rename_i hb;obtain⟨mN,sn⟩:=hb;cases h;simp only[R]at hs;subst hs;have hold:(Builtin.firstCells ei.size 0 (.slice none 0 0)).run P w.drew=.ok #[] w.drew:=by simp[Builtin.firstCells]
  have gy:=Fb (ty:=ty) V Ik vE Ip BK eD kn LO hq x1 (by omega) (by rw[aLg];exact mN) (by omega) hz dn hold;rw[aLg]at gy;have G:=uE S hf (e:=e) (rest:=Builtin.zeroCells z (grownCap w n 0 e-n)) d3' x2 (grownCap_ge w n 0 e) (by rw[lJ,XS]);exact⟨_,_,by rw[gy];simp,G⟩
 ·
  rename_i b off len esz kc _;split at h
  case h_2=>cases h
  rename_i cs hb;simp only[R]at hs;obtain⟨cb,co,cap,c,e',f,h1,rfl,h3,h4,h5,h6⟩:=hs;obtain⟨D8,co',o,g1,g2,g3,g4,_⟩:=S.obj b _ hb (by simp[ct.st]);rw[h1]at g1;cases g1
  rw[h5]at g2;cases g2
  simp only[fZ]at g3;obtain⟨c2,e2,f2,q1,q2,q3⟩:=g3;cases q1;split at h
  ·
   rename_i hk;split at h
   case isFalse=>cases h
   rename_i hc;obtain⟨yX,hle⟩:=hc;cases h;have gy:=Cc (ty:=ty) V Ik vE Ip BK eD kn LO hq x1 xn;have hm:off+len*esz+xs.length<=cs.length:=by rw[x2,<-yX,aK5,<-aK8];exact hle
   have T:=ua (P:=P) (xs:=xs) (off:=off+len*esz) S hb h1 x3 hm (by simpa using vF);refine⟨.slice (some ⟨cb,co+off,none⟩) (len+n) cap,_,?_,ι,cS.le_refl _,by rw[jR hb];exact T.2.1,by rw[jR hb];exact T.2.2,?_⟩
   ·rw[gy];simp only[addr_add,<-yX,aK5,Sem.run_bind]
    have:=T.1
    rw[show co+(off+len*esz)=co+(off+len*esz)from rfl]at this;rw[this];rfl
   ·simp only[R];obtain⟨c',f',k1,k2⟩:=T.2.2.shape cb c e' f h5;exact⟨cb,co,cap,c',e',f',h1,rfl,hk,h4,k1,by omega⟩
  ·rename_i hk;split at h
   case isFalse=>cases h
   rename_i hc;obtain⟨yX,hle,mN,sn⟩:=hc;cases h;have CX:Rs ι w (Live Lo ι H) ((cs.drop off).take (len*esz)) (c.extract (co+off) (co+off+len*esz)).toList:=by
    have:=((q2.drop off).take (len*esz)).list
    have hlen:((cs.drop off).take (len*esz)).length=len*esz:=by simp;omega
    rwa[hlen]at this
   have hlen:((cs.drop off).take (len*esz)).length=len*esz:=by simp;omega
   by_cases EE:len+n<=cap
   ·
    have gy:=Cc (ty:=ty) V Ik vE Ip BK eD kn LO hq x1 xn EE;have hsp:co+off+len*esz+n*esz<=c.size:=by
     have:(len+n)*esz<=cap*esz:=aLa _ EE
     rw[aK8]at this;omega
    have hvl:news.toList.length=n*esz:=by rw[yX];simpa using hns
    have agJ:=run_storeCells_cells (P:=P) cb (co+off+len*esz) news.toList 0 w (fun j hj=>by
      rw[pz h5,aLd (show co+off+len*esz+0+j<c.size by omega)];rfl) (fun j hj=>by
      have:=q3 trivial (co+off+len*esz+0+j) (by omega)
      simp only[World.frozen?,h5];simpa using this) (fun v hv=>by
      obtain⟨i,sw⟩:=aLj hv;have LJ:i<xs.length:=by have:=(aKB.1 sw).1;rw[x2,<-yX];omega
      obtain⟨v',k1,k2⟩:=x3.get i _ (aLh LJ);rw[sw]at k1;cases k1
      exact Ac k2 (aLq.1 (by simpa using vF) _ (aLr LJ)))
    obtain⟨c',o1,o2,o3⟩:=kG news.toList w cb (co+off+len*esz) c e' f h5 (by omega);have r8:jO (.cells c e' f) (.cells c' e' f):=fun cs e f q=>by cases q;exact⟨c',_,rfl,o2⟩
    have nK:Live Lo ι H cb:=.inr ⟨b,_,co,hb,rfl,h1⟩;have AH:=o1.ext (L:=Live Lo ι H) (L':=Live Lo ι H) h5 r8 nK (fun _ h=>h);have EH:=cS.wN (p:=(cb,co+off)) hf.1;have G:=S.ZJ (cs0:=[]) (co':=co+off) (blk':=.cells .live ((cs.drop off).take (len*esz)++xs)) hb rfl rfl hf h1 h5 r8 o1 (by
     simp only[fZ];refine⟨c',e',f,rfl,iI.gR fun i y hy=>?_,fun _=>by rw[o2];exact q3 trivial⟩;rw[o3];rw[aKH]at hy;rw[hlen]at hy;by_cases h8:i<len*esz
     ·rw[if_pos h8]at hy;rw[if_neg (by omega)];obtain⟨v,k1,k2⟩:=((q2.drop off).take (len*esz)).get i y hy;exact⟨v,k1,R.ext AH _ _ _ _ EH k2⟩
     ·rw[if_neg h8]at hy;have LJ:=(aKB.1 hy).1;rw[if_pos (by rw[hvl];rw[x2,<-yX]at LJ;omega)];obtain⟨v,k1,k2⟩:=x3.get _ y hy;exact⟨v,by rw[<-k1];congr 1;omega,R.ext AH _ _ _ _ EH k2⟩) (by simp)
    have lB:(cC.bJ [(b,.cells .dead []),(aP,.cells .live ((cs.drop off).take (len*esz)++xs))]).app H=cJ (H.set b (.cells .dead [])) aP (.cells .live ((cs.drop off).take (len*esz)++xs)):=by have ek:=(aKB.1 hb).1;simp[cC.app,cJ,ek]
    refine⟨.slice (some ⟨cb,co+off,none⟩) (len+n) cap,_,?_,_,EH,by rw[lB];exact G.1,by rw[lB];exact G.2,?_⟩
    ·rw[gy];simp only[addr_add,<-yX,Sem.run_bind,aK5]at agJ⊢
     have:=agJ
     rw[this];rfl
    ·simp only[R];exact⟨cb,co+off,cap,c',e',f,by simp[cS.put],by simp,aKE _,EE,o1.here,by rw[o2];omega⟩
   ·
    have hold:(Builtin.firstCells ei.size len (.slice (some ⟨cb,co+off,none⟩) len cap)).run P w.drew=.ok (c.extract (co+off) (co+off+len*esz)) w.drew:=by
     rw[<-yX];exact ot (w:=w.drew) h5 (by
      have:len*esz<=cap*esz:=aLa _ (by omega)
      omega)
    have gy:=Fb (ty:=ty) V Ik vE Ip BK eD kn LO hq x1 EE mN (by omega) hz dn hold;have K:=S.kill (b:=b) [] (by simp);have hf':mD ι (H.set b (.cells .dead [])) aP:=by
     refine⟨hf.1,?_⟩;rcases hf.2 with q|q
     ·exact .inl (by simpa using q)
     ·refine .inr ?_;have Uc:b≠aP:=fun e=>by subst e;rw[hf.1]at h1;cases h1
      rw[aKA,if_neg Uc];exact q
    have pY:Rs ι w (Live Lo ι (H.set b (.cells .dead []))) ((cs.drop off).take (len*esz)++xs) (c.extract (co+off) (co+off+len*esz)++auH).toList:=by rw[Array.toList_append];exact(Rs.ext K.2 _ _ _ _ (cS.le_refl _) CX).append (Rs.ext K.2 _ _ _ _ (cS.le_refl _) d3')
    have G:=uE K.1 hf' (e:=e) (n:=len+n) (esz:=esz) (rest:=Builtin.zeroCells z (grownCap w (len+n) cap e-(len+n))) pY
     (by rw[aLk,hlen,x2,<-yX,aK8]) (grownCap_ge w (len+n) cap e) (by rw[lJ,XS,yX])
    obtain⟨ι',p1,p2,p3,p4⟩:=G;have lB:(cC.bJ [(b,.cells .dead []),(aP,.cells .live ((cs.drop off).take (len*esz)++xs))]).app H=(cC.bJ [(aP,.cells .live ((cs.drop off).take (len*esz)++xs))]).app (H.set b (.cells .dead [])):=by have ek:=(aKB.1 hb).1;simp[cC.app,cJ,ek]
    refine⟨_,_,gy,ι',p1,by rw[lB];exact p2,by rw[lB];exact K.2.trans p3,by rw[lB];exact p4⟩
 ·cases h
end
end Dv
