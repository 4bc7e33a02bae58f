/- Lemmas for AssemblyRefuses; no condition. -/
import Derived.Test.YtmkjgfnicfpjpaaGreatDoorRaa
import Derived.ChangeKeysEq
import Derived.Laws.StructEq
import Derived.Laws.Slices
import Derived.Laws.MakeOwn
import Derived.Laws.IdiomStrings
set_option linter.all false
set_option maxHeartbeats 100000000
set_option maxRecDepth 100000
noncomputable section
open Option renaming map_eq_some_iff->aLs,some->aLS,isSome_none->aL1,bind_eq_some_iff->aL7,map_some->aMi
open Nat renaming le_refl->aLt,add_assoc->aLU,add_mul->aLX,mul_le_mul_right->aLZ,sub_self->aL3,zero_add->aL5,zero_le->aMd,not_lt->aMk
open List renaming getElem?_eq_some_iff->aLq,extract_eq_take_drop->aLV,getElem?_append->aLw,length_cons->aL4,getElem?_eq_getElem->aL6,getElem?_of_mem->aL8,length_append->aL9,getElem?_set->aLp,all_eq_true->aMf,getElem_mem->aMg
open Array renaming getElem?_toList->aLR,toList_extract->aLW,getElem?_extract->aLY,getElem?_eq_getElem->aL2,extract_size->aMa,ext'->aMo
open Bool renaming false_eq_true->aLT,or_eq_true->aL0,not_eq_true'->aMb,not_eq_false->aMc
namespace Dv
open Go Go.RowKit
section
variable{E:Env}{P:Program}(V:Valid E P){ι:cT}{w:World}{L:Nat->Prop}
def Valid.Jt{E:Env}{P:Program}(V:Valid E P){t:Nat}{i:sk}(h:E.ty t=some i):∃ti,P.info? t=some ti/\ti.size=i.size/\ti.bytes=i.bytes:=
 let⟨ti,a,b,c,_⟩:=(V.ty t i h).info;⟨ti,a,b,c⟩
include V in
def R5{t:Nat}{i:sk}(h:E.ty t=some i):P.cellsOf t=i.size:=by obtain⟨ti,h1,h2,_⟩:=V.Jt h;simp[Program.cellsOf,h1,h2]
include V in
def mX{t:Nat}{cs:List AV}{vs:Array Value}(hr:Rs ι w L cs vs.toList){off:Nat}{av:AV}(h:eS E t cs off=some av):
  ∃v,(part t vs off).run P w=.ok v w/\R ι w L av v:=by
 unfold eS at h;cases hi:E.ty t with
 |none=>simp[hi]at h
 |some i=>
  simp only[hi]at h;unfold part;simp only[Sem.run_bind,DP V hi w,Result.andThen_ok];cases ha:i.isAgg with
  |true=>
   simp only[ha,if_true]at h⊢;split at h
   ·rename_i hle;cases h;refine⟨.agg (vs.extract off (off+i.size)),by simp[cH V hi w],?_⟩;simp only[R];refine⟨_,rfl,?_⟩;rw[aLW]
    have:=(hr.drop off).take i.size
    simpa[aLV]using this
   ·cases h
  |false=>
   simp only[ha,aLT,if_false]at h⊢;obtain⟨v,h1,h2⟩:=hr.get off av h;rw[aLR]at h1;exact⟨v,by simp[h1],h2⟩
def str_inj{a b:List UInt8}:((⟨a.toArray⟩:ByteArray)==⟨b.toArray⟩)=(a==b):=by rw[beq_toListBytes,ByteArray.toList_eq,ByteArray.toList_eq]
def ya(V:Valid E P){n d:Nat}(ih:∀(t:Nat) (x y:AV) (vx vy:Value) (b:Bool),R ι w L x vx->R ι w L y vy->nP E n t x y=some b->(Op.equalIn d t vx vy).run P w=.ok b w):∀(fs:List Field) (xs ys:List AV) (vx vy:Array Value) (b:Bool),Rs ι w L xs vx.toList->Rs ι w L ys vy.toList->
  eqFields E (nP E n) xs ys fs=some b->(Op.eqFields d vx vy fs).run P w=.ok b w
 |[],_,_,_,_,_,_,_,h=>by simp[eqFields]at h;subst h;simp[Op.eqFields]
 |f::fs,xs,ys,vx,vy,b,hx,hy,h=>by
  unfold eqFields at h;split at h
  ·cases h
  ·rename_i Xy;cases h1:eS E f.type xs f.offset with
   |none=>simp[h1]at h
   |some a=>
    cases h2:eS E f.type ys f.offset with
    |none=>simp[h1,h2]at h
    |some c=>
     simp only[h1,h2]at h;obtain⟨va,p1,r1⟩:=mX V hx h1;obtain⟨vc,p2,r2⟩:=mX V hy h2;cases h3:nP E n f.type a c with
     |none=>simp[h3]at h
     |some r=>
      have h4:=ih f.type a c va vc r r1 r2 h3;simp only[h3]at h;unfold Op.eqFields;simp only[ne_eq,Xy,not_false_eq_true,if_true,Sem.run_bind,p1,p2,Result.andThen_ok,h4];cases r with
      |true=>simpa using ya V ih fs xs ys vx vy b hx hy h
      |false=>simp at h;subst h;simp
def Av(V:Valid E P){n d:Nat}(ih:∀(t:Nat) (x y:AV) (vx vy:Value) (b:Bool),R ι w L x vx->R ι w L y vy->nP E n t x y=some b->(Op.equalIn d t vx vy).run P w=.ok b w)(elem size:Nat):∀(xs ys:List AV) (vx vy:Array Value) (m i:Nat) (b:Bool),Rs ι w L xs vx.toList->Rs ι w L ys vy.toList->
  lz E (nP E n) elem size xs ys m i=some b->(Op.eqItems d elem size vx vy (List.range' i m)).run P w=.ok b w
 |_,_,_,_,0,_,_,_,_,h=>by simp[lz]at h;subst h;simp[Op.eqItems]
 |xs,ys,vx,vy,m+1,i,b,hx,hy,h=>by
  unfold lz at h;cases h1:eS E elem xs (i*size)with
  |none=>simp[h1]at h
  |some a=>
   cases h2:eS E elem ys (i*size)with
   |none=>simp[h1,h2]at h
   |some c=>
    simp only[h1,h2]at h;obtain⟨va,p1,r1⟩:=mX V hx h1;obtain⟨vc,p2,r2⟩:=mX V hy h2;cases h3:nP E n elem a c with
    |none=>simp[h3]at h
    |some r=>
     have h4:=ih elem a c va vc r r1 r2 h3;simp only[h3]at h;rw[List.range'_succ];unfold Op.eqItems;simp only[Sem.run_bind,p1,p2,Result.andThen_ok,h4];cases r with
     |true=>simpa using Av V ih elem size xs ys vx vy m (i+1) b hx hy h
     |false=>simp at h;subst h;simp
def x9(V:Valid E P):∀(n d t:Nat) (x y:AV) (vx vy:Value) (b:Bool),n<=d->R ι w L x vx->R ι w L y vy->nP E n t x y=some b->
  (Op.equalIn d t vx vy).run P w=.ok b w
 |0,_,_,_,_,_,_,_,_,_,_,h=>by simp[nP]at h
 |n+1,d,t,x,y,vx,vy,b,hd,hx,hy,h=>by
  obtain⟨d,rfl⟩:∃k,d=k+1:=⟨d-1,by omega⟩;unfold nP at h;cases hi:E.ty t with
  |none=>simp[hi]at h
  |some i=>
   simp only[hi]at h;have hu:=(V.ty t i hi).cD;split at h
   case h_1 eC=>simp only[R]at hx hy;subst hx;subst hy;cases h;rw[eC]at hu;simp[Op.equalIn,run_underlying hu]
   case h_2 eC=>
    simp only[R]at hx hy;subst hx;subst hy
    split at h
    ·rename_i hk;cases h;rw[eC]at hu;simp[Op.equalIn,run_underlying hu,hk]
    ·cases h
   case h_3 eC=>simp only[R]at hx hy;subst hx;subst hy;cases h;rw[eC]at hu;simp[Op.equalIn,run_underlying hu,str_inj]
   case h_4 fields xs ys eC=>
    simp only[R]at hx hy;obtain⟨vxs,rfl,hx⟩:=hx;obtain⟨vys,rfl,hy⟩:=hy;split at h
    ·cases h
    ·rename_i heq;have azB:i.dK=true:=by simpa using heq
     rw[eC]at hu;have hf:P.fieldsOf t=fields:=by simp[Program.fieldsOf,hu]
     rw[run_equalIn_struct w d t vxs vys (by rw[hf];exact hu) ((V.ty t i hi).eq azB).1,hf];exact ya V (fun t x y vx vy b h1 h2 h3=>x9 V n d t x y vx vy b (by omega) h1 h2 h3) fields.toList xs ys vxs vys b hx hy h
   case h_5 len elem xs ys eC=>
    simp only[R]at hx hy;obtain⟨vxs,rfl,hx⟩:=hx;obtain⟨vys,rfl,hy⟩:=hy;cases ku:E.ty elem with
    |none=>simp[ku]at h
    |some ei=>
     simp only[ku]at h;obtain⟨ti,h1,h2,_⟩:=V.Jt ku;rw[eC]at hu;rw[run_equalIn_array w d vxs vys hu h1,R5 V ku,List.range_eq_range'];exact Av V (fun t x y vx vy b h1 h2 h3=>x9 V n d t x y vx vy b (by omega) h1 h2 h3) elem ei.size xs ys vxs vys len 0 b hx hy h
   case h_29=>cases h
   all_goals (rename_i eC;rw[eC]at hu)
   case h_6=>simp only[R]at hx hy;subst hx;subst hy;cases h;simp[Op.equalIn,run_underlying hu]
   case h_7=>simp only[R]at hx hy;subst hx;obtain⟨_,_,_,rfl⟩:=hy;cases h;simp[Op.equalIn,run_underlying hu]
   case h_8=>simp only[R]at hx hy;subst hx;obtain⟨_,_,_,_,_,rfl,_⟩:=hy;cases h;simp[Op.equalIn,run_underlying hu]
   case h_9=>simp only[R]at hx hy;subst hy;obtain⟨_,_,_,rfl⟩:=hx;cases h;simp[Op.equalIn,run_underlying hu]
   case h_10=>simp only[R]at hx hy;subst hy;obtain⟨_,_,_,_,_,rfl,_⟩:=hx;cases h;simp[Op.equalIn,run_underlying hu]
   case h_11=>simp only[R]at hx hy;subst hx;subst hy;cases h;simp[Op.equalIn,run_underlying hu]
   case h_12=>simp only[R]at hx hy;subst hx;obtain⟨_,_,_,_,_,_,_,rfl,_⟩:=hy;cases h;simp[Op.equalIn,run_underlying hu]
   case h_13=>simp only[R]at hx hy;subst hx;obtain⟨_,_,_,_,_,_,rfl,_⟩:=hy;cases h;simp[Op.equalIn,run_underlying hu]
   case h_14=>simp only[R]at hx hy;subst hx;obtain⟨_,_,rfl⟩:=hy;cases h;simp[Op.equalIn,run_underlying hu]
   case h_15=>simp only[R]at hx hy;subst hy;obtain⟨_,_,_,_,_,_,_,rfl,_⟩:=hx;cases h;simp[Op.equalIn,run_underlying hu]
   case h_16=>simp only[R]at hx hy;subst hy;obtain⟨_,_,_,_,_,_,rfl,_⟩:=hx;cases h;simp[Op.equalIn,run_underlying hu]
   case h_17=>simp only[R]at hx hy;subst hy;obtain⟨_,_,rfl⟩:=hx;cases h;simp[Op.equalIn,run_underlying hu]
   case h_18=>simp only[R]at hx hy;subst hx;subst hy;cases h;simp[Op.equalIn,run_underlying hu]
   case h_19=>simp only[R]at hx hy;subst hx;obtain⟨_,_,_,rfl⟩:=hy;cases h;simp[Op.equalIn,run_underlying hu]
   case h_20=>simp only[R]at hx hy;subst hx;obtain⟨_,_,_,rfl,_⟩:=hy;cases h;simp[Op.equalIn,run_underlying hu]
   case h_21=>simp only[R]at hx hy;subst hy;obtain⟨_,_,_,rfl⟩:=hx;cases h;simp[Op.equalIn,run_underlying hu]
   case h_22=>simp only[R]at hx hy;subst hy;obtain⟨_,_,_,rfl,_⟩:=hx;cases h;simp[Op.equalIn,run_underlying hu]
   case h_23=>simp only[R]at hx hy;subst hx;subst hy;cases h;simp[Op.equalIn,run_underlying hu]
   case h_24=>simp only[R]at hx hy;subst hx;obtain⟨_,_,rfl,_⟩:=hy;cases h;simp[Op.equalIn,run_underlying hu]
   case h_25=>simp only[R]at hx hy;subst hy;obtain⟨_,_,rfl,_⟩:=hx;cases h;simp[Op.equalIn,run_underlying hu]
   case h_26=>simp only[R]at hx hy;subst hx;subst hy;cases h;simp[Op.equalIn,run_underlying hu]
   case h_27=>simp only[R]at hx hy;subst hx;obtain⟨_,rfl,_⟩:=hy;cases h;simp[Op.equalIn,run_underlying hu]
   case h_28=>simp only[R]at hx hy;subst hy;obtain⟨_,rfl,_⟩:=hx;cases h;simp[Op.equalIn,run_underlying hu]
end
section
variable{E:Env}{P:Program}{ι:cT}{w:World}{L:Nat->Prop}{ts:List AV}{a:Act}
def dS(hf:Rs ι w L ts a.tmps.toList){x:Operand}{av:AV}(h:bU ts x=some av):R ι w L av (a.eval x):=by
 cases x with
 |tmp t=>
  simp only[bU,aLS.injEq]at h;subst h
  have:=hf.getD t
  simpa[Act.eval]using this
 |const v=>exact L7 20 v av h
 |global g=>simp only[bU,aLS.injEq]at h;subst h;simp[R,Act.eval]
 |func f=>simp only[bU,aLS.injEq]at h;subst h;simp[R,Rs,Act.eval]
def I8(hf:Rs ι w L ts a.tmps.toList):∀{xs:List Operand} {avs:List AV},kr ts xs=some avs->Rs ι w L avs (xs.map a.eval)
 |[],_,h=>by simp[kr]at h;subst h;simp[Rs]
 |x::xs,_,h=>by
  unfold kr at h;cases h1:bU ts x with
  |none=>simp[h1]at h
  |some v=>
   cases h2:kr ts xs with
   |none=>simp[h1,h2]at h
   |some vs=>
    simp[h1,h2]at h;subst h;simp only[Rs,List.map_cons];exact⟨_,_,rfl,dS hf h1,I8 hf h2⟩
def RsP(ι:cT)(w:World)(L:Nat->Prop):List (Nat×AV)->List (Nat×Value)->Prop
 |[],vs=>vs=[]
 |(i,x)::xs,vs=>∃y ys,vs=(i,y)::ys/\R ι w L x y/\RsP ι w L xs ys
def WC(hf:Rs ι w L ts a.tmps.toList):∀{xs:List (Nat×Operand)} {avs:List (Nat×AV)},sJ ts xs=some avs->RsP ι w L avs (xs.map fun(i,x)=>(i,a.eval x))
 |[],_,h=>by simp[sJ]at h;subst h;simp[RsP]
 |(i,x)::xs,_,h=>by
  unfold sJ at h;cases h1:bU ts x with
  |none=>simp[h1]at h
  |some v=>
   cases h2:sJ ts xs with
   |none=>simp[h1,h2]at h
   |some vs=>
    simp[h1,h2]at h;subst h;simp only[RsP,List.map_cons];exact⟨_,_,rfl,dS hf h1,WC hf h2⟩
def sc:AV->Value
 |.bool b=>.bool b
 |.int k n=>.int k n
 |.str s=>.string ⟨s.toArray⟩
 |_=>undef
def X5{op:BinOp}{k:IntKind}{x y:Int}{av:AV}(h:k8 op k x y=some av)(SB:op≠ .shl/\op≠ .shr)(t:Nat):
  (binOp op t (.int k x) (.int k y)).run P w=.ok (sc av) w/\R ι w L av (sc av):=by
 cases op<;>simp only[k8]at h
 case quo=>split at h;(· cases h);rename_i hy;cases h;exact⟨by simp[binOp,Op.intDiv,hy,sc,aW],by simp[R,sc]⟩
 case rem=>split at h;(· cases h);rename_i hy;cases h;exact⟨by simp[binOp,Op.intDiv,hy,sc],by simp[R,sc]⟩
 all_goals first|(cases h;done)|(cases h;exact⟨by simp[binOp,Op.intArith,Op.intBits,Op.intCmp,sc,aW],by simp[R,sc]⟩)
def Z6{op:BinOp}{x y:List UInt8}{av:AV}(h:Lr op x y=some av)(t:Nat):
  (binOp op t (.string ⟨x.toArray⟩) (.string ⟨y.toArray⟩)).run P w=.ok (sc av) w/\R ι w L av (sc av):=by
 have hx:∀z:List UInt8,ByteArray.toList ⟨z.toArray⟩=z:=fun z=>by rw[ByteArray.toList_eq]
 have hs:∀z:List UInt8,ByteArray.size ⟨z.toArray⟩=z.length:=fun z=>by simp[ByteArray.size]
 have hm:IntKind.i64.max=9223372036854775807:=by decide
 cases op<;>simp only[Lr]at h
 case add=>
  split at h
  ·cases h
  ·rename_i hle;cases h;refine⟨?_,by simp[R,sc]⟩;simp only[binOp,Op.stringOp,hs,hm,if_neg hle,sc];simp only[Sem.run_pure];congr 2
 all_goals first|(cases h;done)|(cases h;exact⟨by simp[binOp,Op.stringOp,hx,sc],by simp[R,sc]⟩)
def ae6{op:UnOp}{x av:AV}{vx:Value}(hx:R ι w L x vx)(h:T1 op x=some av):
  ∃cv,(Op.unary op vx).run P w=.ok cv w/\R ι w L av cv:=by
 unfold T1 at h;split at h
 ·simp only[R]at hx;subst hx;refine⟨sc av,?_,?_⟩<;>cases h<;>simp[Op.unary,Op.intArith,sc,aW,R]
 ·simp only[R]at hx;subst hx
  simp only[k8,aLS.injEq]at h;refine⟨sc av,?_,?_⟩<;>subst h<;>simp[Op.unary,Op.intBits,sc,aW,R]
 ·simp only[R]at hx;subst hx;refine⟨sc av,?_,?_⟩<;>cases h<;>simp[Op.unary,sc,R]
 ·cases h
def rW{x:AV}{k:IntKind}{n:Int}(h:R ι w L x (.int k n)):x=.int k n:=by
 cases x<;>simp[R]at h⊢
 exact⟨h.1.symm,h.2.symm⟩
def mI{x:AV}{b:ByteArray}(h:R ι w L x (.string b)):∃s,x=.str s:=by
 cases x<;>simp[R]at h⊢
def Pz{x:AV}{k:FloatKind}{b:Nat}(h:R ι w L x (.float k b)):False:=by
 cases x<;>simp[R]at h
def E5{x:AV}{k:FloatKind}{b c:Nat}(h:R ι w L x (.complex k b c)):False:=by
 cases x<;>simp[R]at h
def BY{x:AV}(h:R ι w L x .nilIface):x=.nilIface:=by
 cases x<;>simp[R]at h⊢
def afD{x:AV}{vs:Array Value}(h:R ι w L x (.agg vs)):∃cs,x=.agg cs:=by
 cases x<;>simp[R]at h⊢
def Aw(V:Valid E P){t:Nat}{x y:AV}{ox oy:Operand}{vx vy:Value}{op:BinOp}(hx:R ι w L x vx)(hy:R ι w L y vy)
  (h:cp.sa E (bC ox||bC oy) t x y=some true):(eqGuard op t ox oy vx vy).run P w=.ok () w:=by
 by_cases hn:vx=.nilIface/\vy=.nilIface
 ·obtain⟨rfl,rfl⟩:=hn;have e1:=BY hx;have e2:=BY hy;subst e1;subst e2
  simp only[cp.sa,aLS.injEq,aL0]at h;unfold eqGuard;cases ox<;>cases oy<;>simp[bC]at h<;>simp<;>(split<;>simp)
 by_cases ha:∃xs ys,vx=.agg xs/\vy=.agg ys
 ·obtain⟨vxs,vys,rfl,rfl⟩:=ha;obtain⟨xs,rfl⟩:=afD hx;obtain⟨ys,rfl⟩:=afD hy;simp only[cp.sa,aLs]at h;obtain⟨i,hi,he⟩:=h;exact run_eqGuard_agg w op t ox oy vxs vys ((V.ty t i hi).eq he).2
 ·have key:eqGuard op t ox oy vx vy=pure ():=by
   unfold eqGuard;cases vx<;>cases vy<;>first|(exact absurd ⟨rfl,rfl⟩ hn)|(exact absurd ⟨_,_,rfl,rfl⟩ ha)|(cases op<;>rfl)
  rw[key];rfl
def binOp_eql{vx vy:Value}(h1:∀k a k' b,¬(vx=.int k a/\vy=.int k' b))(h2:∀a b,¬(vx=.string a/\vy=.string b))
  (h3:∀k a,vx≠ .float k a) (h4:∀k a b,vx≠ .complex k a b) (t:Nat):
  binOp .eql t vx vy=(do pure (.bool (<-Op.equal t vx vy)))/\binOp .neq t vx vy=(do pure (.bool (!(<-Op.equal t vx vy)))):=by
 cases vx
 case int=>cases vy<;>first|exact⟨rfl,rfl⟩|exact absurd ⟨rfl,rfl⟩ (h1 _ _ _ _)
 case float=>exact absurd rfl (h3 _ _)
 case complex=>exact absurd rfl (h4 _ _ _)
 case string=>cases vy<;>first|exact⟨rfl,rfl⟩|exact absurd ⟨rfl,rfl⟩ (h2 _ _)
 all_goals (cases vy<;>exact⟨rfl,rfl⟩)
def Vd(V:Valid E P){op:BinOp}{t:Nat}{x y av:AV}{ox oy:Operand}{vx vy:Value}(hx:R ι w L x vx)(hy:R ι w L y vy)
  (h:cp E (bC ox||bC oy) op t x y=some av):
  ∃cv,((do eqGuard op t ox oy vx vy;binOp op t vx vy:Sem Value)).run P w=.ok cv w/\R ι w L av cv:=by
 have zJ:∀(k k':IntKind) (m n:Int),(eqGuard op t ox oy (.int k m) (.int k' n)).run P w=.ok () w:=fun k k' m n=>by
  unfold eqGuard;split<;>simp
 have Sl:∀(m n:ByteArray),(eqGuard op t ox oy (.string m) (.string n)).run P w=.ok () w:=fun m n=>by
  unfold eqGuard;split<;>simp
 unfold cp at h;split at h
 ·simp only[R]at hx hy;subst hx;subst hy
  split at h
  ·cases h
  ·rename_i hb;refine⟨sc av,?_,?_⟩<;>cases h<;>simp[zJ,binOp,Op.shift,hb,sc,aW,R]
 ·simp only[R]at hx hy;subst hx;subst hy
  split at h
  ·cases h
  ·rename_i hb;refine⟨sc av,?_,?_⟩<;>cases h<;>simp[zJ,binOp,Op.shift,hb,sc,R]
 ·rename_i n1 n2;simp only[R]at hx hy;subst hx;subst hy
  split at h
  ·cases h
  ·rename_i hk;simp only[ne_eq,Decidable.not_not]at hk;subst hk
   have:=X5 (P:=P) (ι:=ι) (w:=w) (L:=L) h ⟨n1,n2⟩ t
   exact⟨_,by simp only[Sem.run_bind,zJ,Result.andThen_ok];exact this.1,this.2⟩
 ·simp only[R]at hx hy;subst hx;subst hy
  have:=Z6 (P:=P) (ι:=ι) (w:=w) (L:=L) h t
  exact⟨_,by simp only[Sem.run_bind,Sl,Result.andThen_ok];exact this.1,this.2⟩
 ·rename_i n1 n2;rw[aL7]at h;obtain⟨ok,h1,h2⟩:=h;split at h2
  ·rename_i G0;subst G0;rw[aLs]at h2;obtain⟨b,h3,rfl⟩:=h2;have hq:=x9 V 20 10000 t x y vx vy b (by omega) hx hy h3;have hb:=binOp_eql (vx:=vx) (vy:=vy) (fun k p k' q e=>by
     rcases e with⟨rfl,rfl⟩
     exact n1 _ _ _ _ (rW hx) (rW hy)) (fun p q e=>by
     rcases e with⟨rfl,rfl⟩
     obtain⟨s1,e1⟩:=mI hx;obtain⟨s2,e2⟩:=mI hy
     exact n2 _ _ e1 e2) (fun k p e=>by subst e;exact Pz hx) (fun k p q e=>by subst e;exact E5 hx) t
   refine⟨.bool b,?_,by simp[R]⟩;simp only[Sem.run_bind,Aw V hx hy h1,Result.andThen_ok,hb.1,Op.equal,Op.maxDepth,hq,Sem.run_pure]
  ·cases h2
 ·rename_i n1 n2;rw[aL7]at h;obtain⟨ok,h1,h2⟩:=h;split at h2
  ·rename_i G0;subst G0;rw[aLs]at h2;obtain⟨b,h3,rfl⟩:=h2;have hq:=x9 V 20 10000 t x y vx vy b (by omega) hx hy h3;have hb:=binOp_eql (vx:=vx) (vy:=vy) (fun k p k' q e=>by
     rcases e with⟨rfl,rfl⟩
     exact n1 _ _ _ _ (rW hx) (rW hy)) (fun p q e=>by
     rcases e with⟨rfl,rfl⟩
     obtain⟨s1,e1⟩:=mI hx;obtain⟨s2,e2⟩:=mI hy
     exact n2 _ _ e1 e2) (fun k p e=>by subst e;exact Pz hx) (fun k p q e=>by subst e;exact E5 hx) t
   refine⟨.bool (!b),?_,by simp[R]⟩;simp only[Sem.run_bind,Aw V hx hy h1,Result.andThen_ok,hb.2,Op.equal,Op.maxDepth,hq,Sem.run_pure]
  ·cases h2
 ·cases h
end
def addr_add(b o n:Nat):(⟨b,o,none⟩:Addr).add n=⟨b,o+n,none⟩:=by
 unfold Addr.add;split<;>simp_all
section
variable{E:Env}{P:Program}{ι:cT}{w:World}{L:Nat->Prop}{ts:List AV}{a:Act}
def CE(V:Valid E P){t f:Nat}{x av:AV}{vx:Value}(hx:R ι w L x vx)(h:cQ E t x f=some av):
  ∃cv,(Instr.fieldAt t vx f).run P w=.ok cv w/\R ι w L av cv:=by
 unfold cQ at h;split at h
 case h_2=>cases h
 rename_i fields _ _ _ _ _ hi;have hu:=bt V hi w;split at h
 case h_2=>cases h
 rename_i fd hfd;split at h
 case h_2=>cases h
 rename_i fi lT;have hs:=cH V lT w;split at h
 ·cases h
 rename_i hz;split at h<;>first|(cases h;done)|skip
 ·cases h;simp only[R]at hx⊢;obtain⟨cb,co,h1,rfl⟩:=hx;refine⟨_,?_,cb,co,h1,rfl⟩;simp[Instr.fieldAt,hu,hfd,Instr.sureAddr,fieldPlace,hs,hz,addr_add,aLU]
 ·cases h;simp only[R]at hx⊢;obtain⟨cb,o,c,e,f',rfl,h2,h3,h4⟩:=hx;refine⟨_,?_,cb,o,c,e,f',rfl,h2,h3,h4⟩;simp[Instr.fieldAt,hu,hfd,Instr.sureAddr,fieldPlace,hs,hz,addr_add,aLU]
 ·cases h;simp only[R]at hx⊢;subst hx;refine⟨_,?_,rfl⟩;simp[Instr.fieldAt,hu,hfd,Instr.sureAddr,fieldPlace,hs,hz,addr_add]
def MH(V:Valid E P){t f:Nat}{x av:AV}{vx:Value}(hx:R ι w L x vx)(h:CF E t x f=some av):
  ∃cv,(Instr.field t vx f).run P w=.ok cv w/\R ι w L av cv:=by
 unfold CF at h;split at h
 case h_2=>cases h
 rename_i fields _ _ _ _ _ cs hi;have hu:=bt V hi w;split at h
 case h_2=>cases h
 rename_i fd hfd;simp only[R]at hx;obtain⟨vs,rfl,hr⟩:=hx;obtain⟨v,h1,h2⟩:=mX V hr h;exact⟨v,by simp[Instr.field,hu,hfd,asAgg,h1],h2⟩
def Ng(V:Valid E P){t:Nat}{x ix av:AV}{vx vi:Value}(hx:R ι w L x vx)(qF:R ι w L ix vi)(h:lF E t x ix=some av):
  ∃cv,(Instr.index t vx vi).run P w=.ok cv w/\R ι w L av cv:=by
 unfold lF at h;split at h
 case h_2=>cases h
 rename_i i k n hi;have hu:=bt V hi w;simp only[R]at qF;subst qF;split at h
 ·rename_i len e cs eC;rw[eC]at hu;split at h
  case h_2=>cases h
  rename_i ei ku;split at h
  ·rename_i hb;simp only[R]at hx;obtain⟨vs,rfl,hr⟩:=hx;obtain⟨v,h1,h2⟩:=mX V hr h;exact⟨v,by simp[Instr.index,asIntOf,hu,hb,cH V ku w,h1],h2⟩
  ·cases h
 ·rename_i s eC;rw[eC]at hu;split at h
  ·rename_i hb;rw[aLs]at h;obtain⟨c,hc,rfl⟩:=h;simp only[R]at hx⊢;subst hx;refine⟨_,?_,rfl⟩
   have:(⟨s.toArray⟩:ByteArray)[n.toNat]?=some c:=by
    rw[show(⟨s.toArray⟩:ByteArray)[n.toNat]?=s.toArray[n.toNat]? from by
     simp only[getElem?_def,ByteArray.size];rfl]
    simpa using hc
   simp[Instr.index,asIntOf,hu,hb,this]
  ·cases h
 ·cases h
def C6(V:Valid E P){t:Nat}{x ix av:AV}{vx vi:Value}(hx:R ι w L x vx)(qF:R ι w L ix vi)(h:cd E t x ix=some av):
  ∃cv,(Instr.indexAt t vx vi).run P w=.ok cv w/\R ι w L av cv:=by
 unfold cd at h;split at h
 case h_2=>cases h
 rename_i i k n hi;have hu:=bt V hi w;simp only[R]at qF;subst qF;split at h
 ·rename_i len e eC;rw[eC]at hu;split at h
  case h_2=>cases h
  rename_i ei ku;split at h
  case isFalse=>cases h
  rename_i hb;split at h<;>first|(cases h;done)|skip
  ·cases h;simp only[R]at hx⊢;obtain⟨cb,co,h1,rfl⟩:=hx;refine⟨_,?_,cb,co,h1,rfl⟩;simp[Instr.indexAt,asIntOf,hu,Instr.sureAddr,hb,cH V ku w,addr_add,aLU]
  ·cases h;simp only[R]at hx⊢;obtain⟨cb,o,c,e',f',rfl,h2,h3,h4⟩:=hx;refine⟨_,?_,cb,o,c,e',f',rfl,h2,h3,h4⟩;simp[Instr.indexAt,asIntOf,hu,Instr.sureAddr,hb,cH V ku w,addr_add,aLU]
  ·cases h;simp only[R]at hx⊢;subst hx;refine⟨_,?_,rfl⟩;simp[Instr.indexAt,asIntOf,hu,Instr.sureAddr,hb,cH V ku w,addr_add]
 ·rename_i e eC;rw[eC]at hu;split at h
  case h_2=>cases h
  rename_i ei ku;split at h<;>first|(cases h;done)|skip
  ·split at h
   case isFalse=>cases h
   rename_i hb;obtain⟨he,hb⟩:=hb;cases h;simp only[R]at hx⊢;obtain⟨cb,co,cap,c,e',f',h1,rfl,_⟩:=hx;refine⟨_,?_,cb,co,h1,rfl⟩;simp[Instr.indexAt,asIntOf,hu,hb,cH V ku w,addr_add,aLU,he]
  ·split at h
   case isFalse=>cases h
   rename_i hb;cases h;simp only[R]at hx⊢;obtain⟨cb,o,cap,c,e',f',rfl,h2,h3,h4,h5⟩:=hx;refine⟨_,?_,cb,o,c,e',f',rfl,h3,h4,h5⟩;simp[Instr.indexAt,asIntOf,hu,hb,cH V ku w,addr_add]
 ·cases h
def vK(ι:cT)(w:World)(L:Nat->Prop):Option AV->Option Value->Prop
 |none,v=>v=none
 |some x,v=>∃y,v=some y/\R ι w L x y
def uG(hf:Rs ι w L ts a.tmps.toList){x:Option Operand}{av:Option AV}(h:gq ts x=some av):vK ι w L av (x.map a.eval):=by
 cases x with
 |none=>simp only[gq,aLS.injEq]at h;subst h;simp[vK]
 |some x=>
  simp only[gq,aLs]at h;obtain⟨v,h1,rfl⟩:=h;simp only[vK,aMi];exact⟨_,rfl,dS hf h1⟩
def Fb{nD cap n:Nat}{x:AV}{v:Value}(hx:R ι w L x v)(h:asNat nD x=some n)(hc:nD<=cap)(code:BoundsCode):
  (Instr.sliceBound v cap code).run P w=.ok n w/\n<=nD:=by
 unfold asNat at h;split at h
 ·rename_i k m;split at h
  ·rename_i hb;cases h;simp only[R]at hx;subst hx
   have:0<=m/\m<=(cap:Int):=⟨hb.1,by omega⟩
   exact⟨by simp[Instr.sliceBound,asIntOf,this],by omega⟩
  ·cases h
 ·cases h
def adV{H l:Nat}{lo:Option AV}{LZ:Option Value}(ik:vK ι w L lo LZ)
  (h:loE H lo=some l):
  (match LZ with|some v=>Instr.sliceBound v H .sliceB|none=>(pure 0:Sem Nat)).run P w=.ok l w/\l<=H:=by
 cases lo with
 |none=>simp only[vK]at ik;subst ik;cases h;exact⟨rfl,aMd _⟩
 |some x=>
  simp only[vK]at ik;obtain⟨y,rfl,hy⟩:=ik;exact Fb (P:=P) hy h (aLt _) _
def l9{len kc cap l h:Nat}{lo hi:Option AV}{LZ rm:Option Value}(ik:vK ι w L lo LZ)(ED:vK ι w L hi rm)
  (hb:fN len kc lo hi=some (l,h)) (h1:len<=kc) (h2:kc<=cap) (isS:Bool):
  (Instr.sliceBounds isS len cap LZ rm none).run P w=.ok (l,h,cap) w/\l<=h/\h<=kc:=by
 unfold fN at hb;split at hb
 ·cases hb
 rename_i H hH;split at hb
 ·cases hb
 rename_i Lw hL;simp only[aLS.injEq,Prod.mk.injEq]at hb;obtain⟨rfl,rfl⟩:=hb;have e2:=adV (P:=P) ik hL;cases hi with
 |none=>
  simp only[vK]at ED;subst ED
  cases hH;refine⟨?_,e2.2,h1⟩;unfold Instr.sliceBounds;simp only[Sem.run_bind,Sem.run_pure,Result.andThen_ok,aL1,aLT,if_false];cases LZ with
  |none=>have:=e2.1;simp at this;subst this;rfl
  |some v=>have:=e2.1;simp only at this;simp only[Sem.run_bind,this,Result.andThen_ok,Sem.run_pure]
 |some x=>
  simp only[vK]at ED;obtain⟨y,rfl,hy⟩:=ED;have e1:=Fb (P:=P) hy hH h2 (if isS then .sliceAcap else .sliceAlen);refine⟨?_,e2.2,e1.2⟩;unfold Instr.sliceBounds;simp only[Sem.run_bind,Sem.run_pure,Result.andThen_ok,aL1,aLT,if_false];rw[e1.1];simp only[Result.andThen_ok];cases LZ with
  |none=>have:=e2.1;simp at this;subst this;rfl
  |some v=>have:=e2.1;simp only at this;simp only[Sem.run_bind,this,Result.andThen_ok,Sem.run_pure]
def OR(V:Valid E P){t:Nat}{x av:AV}{vx:Value}{lo hi:Option AV}{LZ rm:Option Value}(hx:R ι w L x vx)(ik:vK ι w L lo LZ)(ED:vK ι w L hi rm)
  (h:gg E t x lo hi=some av):∃cv,(Instr.sliceAt t vx LZ rm none).run P w=.ok cv w/\R ι w L av cv:=by
 unfold gg at h;split at h
 ·cases h
 rename_i i sB;have hu:=bt V sB w;split at h
 ·rename_i s eC;rw[eC]at hu;rw[aLs]at h;obtain⟨⟨l,hh⟩,hb,rfl⟩:=h;simp only[R]at hx;subst hx
  have:=l9 (P:=P) ik ED hb (aLt _) (aLt _) false
  refine⟨.string ⟨((s.drop l).take (hh-l)).toArray⟩,?_,by simp[R]⟩;have mh:ByteArray.size ⟨s.toArray⟩=s.length:=by simp[ByteArray.size]
  simp only[Instr.sliceAt,Sem.run_bind,hu,Result.andThen_ok,Instr.slice,aL1,aLT,if_false,Sem.run_pure,mh,this.1];congr 2;apply ByteArray.ext;rw[ByteArray.data_extract];apply Array.toList_inj.1;simp[aLV]
 ·rename_i e eC;rw[eC]at hu;split at h
  case h_2=>cases h
  rename_i ei p ku hb;obtain⟨l,hh⟩:=p;cases h;simp only[R]at hx;subst hx;have mP:=l9 (P:=P) ik ED hb (aLt _) (aLt _) true
  have:l=0/\hh=0:=by omega
  obtain⟨rfl,rfl⟩:=this;refine⟨.slice none 0 0,?_,by simp[R]⟩;obtain⟨_,_,hw0⟩:=V.Jt ku;simp[Instr.sliceAt,hu,Instr.slice,mP.1,cH V ku w]
 ·rename_i e eC;rw[eC]at hu;split at h
  case h_2=>cases h
  rename_i ei p ku hb;obtain⟨l,hh⟩:=p;cases h;simp only[R]at hx;obtain⟨ad,cap,rfl⟩:=hx;have mP:=l9 (P:=P) (cap:=cap) ik ED hb (aLt _) (aMd _) true
  have:l=0/\hh=0:=by omega
  obtain⟨rfl,rfl⟩:=this;refine⟨_,by simp[Instr.sliceAt,hu,Instr.slice,mP.1,cH V ku w];rfl,?_⟩;simp only[R]
  split
  ·exact⟨_,_,rfl⟩
  ·exact⟨_,_,rfl⟩
 ·rename_i e b off len esz kc eC;rw[eC]at hu;split at h
  case h_2=>cases h
  rename_i ei l hh ku hb;simp only[R]at hx;obtain⟨cb,co,cap,c,e',f,h1,rfl,h3,h4,h5,h6⟩:=hx;have mP:=l9 (P:=P) (cap:=cap) ik ED hb h3 h4 true;split at h
  ·cases h
  rename_i y8;have y8:ei.size=esz:=by simpa using y8
  have gy:(Instr.sliceAt t (.slice (some ⟨cb,co+off,none⟩) len cap) LZ rm none).run P w=
    .ok (.slice (if cap=l then some ⟨cb,co+off,none⟩else some ⟨cb,co+off+l*esz,none⟩) (hh-l) (cap-l)) w:=by
   simp[Instr.sliceAt,hu,Instr.slice,mP.1,cH V ku w,addr_add,y8]
  split at h
  ·rename_i hl;subst hl;cases h;refine⟨_,gy,?_⟩;simp only[R];refine⟨cb,co,cap,c,e',f,h1,?_,mP.2.2,h4,h5,h6⟩
   split<;>simp
  ·rename_i hl;split at h
   ·rename_i Xt;cases h;refine⟨_,gy,?_⟩;simp only[R,Xt,aL3]
    split
    ·exact⟨_,_,rfl⟩
    ·exact⟨_,_,rfl⟩
   ·rename_i Xt;cases h;refine⟨_,gy,?_⟩;simp only[R];have ej:cap≠l:=by omega
    refine⟨cb,co,cap-l,c,e',f,h1,by rw[if_neg ej,aLU],by omega,by omega,h5,?_⟩
    have:l*esz+(cap-l)*esz=cap*esz:=by rw[<-aLX];congr 1;omega
    omega
 ·rename_i e cs len eC;rw[eC]at hu;split at h
  case h_2=>cases h
  rename_i ei l hh ku hb;simp only[R]at hx;obtain⟨cb,o,cap,c,e',f,rfl,h2,h3,h4,h5⟩:=hx;have mP:=l9 (P:=P) (cap:=cap) ik ED hb (aLt _) h2 true;have gy:(Instr.sliceAt t (.slice (some ⟨cb,o,none⟩) len cap) LZ rm none).run P w=
    .ok (.slice (if cap=l then some ⟨cb,o,none⟩else some ⟨cb,o+l*ei.size,none⟩) (hh-l) (cap-l)) w:=by
   simp[Instr.sliceAt,hu,Instr.slice,mP.1,cH V ku w,addr_add]
  split at h
  ·rename_i Xt;cases h;refine⟨_,gy,?_⟩;simp only[R,Xt,aL3]
   split
   ·exact⟨_,_,rfl⟩
   ·exact⟨_,_,rfl⟩
  ·rename_i Xt;cases h;refine⟨_,gy,?_⟩;simp only[R];have ej:cap≠l:=by omega
   exact⟨cb,o+l*ei.size,cap-l,c,e',f,by rw[if_neg ej],by omega,h3,h4,(h5.drop _).take _⟩
 ·cases h
end
section
variable{E:Env}{P:Program}{ι:cT}{w:World}{L:Nat->Prop}{ts:List AV}{a:Act}{Lo:Nat->Prop}{w0:World}{H:Hp}
def pJ{cb o:Nat}{c:Array Value}{e:TypeId}{f:Nat×Nat}(h:w.heap[cb]?=some (.cells c e f)):w.cell? ⟨cb,o,none⟩=c[o]?:=by simp[World.cell?,h]
def ZD(S:fT E Lo w0 ι H w){p:AV}{v:Value}{cs:List AV}{off:Nat}(hp:R ι w (Live Lo ι H) p v)(h:yL E H p=some (cs,off)):
  ∃cb o c e f,v=.pointer (some ⟨cb,o+off,none⟩)/\w.heap[cb]?=some (.cells c e f)/\iH ι w (Live Lo ι H) c o cs:=by
 unfold yL at h;split at h
 ·rename_i b aAS;split at h
  case h_2=>cases h
  rename_i st As hb;split at h
  ·cases h
  rename_i dx;cases h;simp only[R]at hp;obtain⟨cb,co,h1,rfl⟩:=hp;obtain⟨D9,co',o,g1,g2,g3,_⟩:=S.obj b _ hb dx;rw[h1]at g1;cases g1
  simp only[fY]at g3;obtain⟨c,e,f,rfl,g4,_⟩:=g3;exact⟨cb,co,c,e,f,rfl,g2,g4⟩
 ·cases h;simp only[R]at hp;obtain⟨cb,o,c,e,f,rfl,h2,h3,h4⟩:=hp;exact⟨cb,o,c,e,f,rfl,h2,iH.ext (Ext.refl _ _) _ _ _ _ _ (qM _) h4⟩
 ·rename_i g aAS;rw[aLs]at h;obtain⟨As,hg,h⟩:=h;cases h;simp only[R]at hp;subst hp;obtain⟨c,e,f,h1,h2,h3,-⟩:=S.glob g _ hg;exact⟨g,0,c,e,f,by simp,h1,iH.ext (Ext.refl _ _) _ _ _ _ _ (qM _) h3⟩
 ·cases h
def Fj{cb o:Nat}{c:Array Value}{e:TypeId}{f:Nat×Nat}(hc:w.heap[cb]?=some (.cells c e f)){cs:List AV}(hr:iH ι w L c o cs):
  ∃vs:List Value,vs.length=cs.length/\(loadCells ⟨cb,o,none⟩ cs.length).run P w=.ok vs.toArray w/\Rs ι w L cs vs:=by
 refine⟨(c.extract o (o+cs.length)).toList,hr.list.length,?_,hr.list⟩
 have:=run_loadCells_list (P:=P) w ⟨cb,o,none⟩ (c.extract o (o+cs.length)).toList (fun j v hj=>by
  rw[addr_add,pJ hc];rw[aLR,aLY]at hj;split at hj
  ·exact hj
  ·cases hj)
 rw[hr.list.length]at this;exact this
def Ku(V:Valid E P){t:Nat}{cb o off:Nat}{c:Array Value}{e:TypeId}{f:Nat×Nat}(hc:w.heap[cb]?=some (.cells c e f)){cs:List AV}(hr:iH ι w L c o cs)
  {av:AV} (h:eS E t cs off=some av):∃v,(loadVar t ⟨cb,o+off,none⟩).run P w=.ok v w/\R ι w L av v:=by
 unfold eS at h;cases hi:E.ty t with
 |none=>simp[hi]at h
 |some i=>
  simp only[hi]at h;unfold loadVar;simp only[Sem.run_bind,DP V hi w,Result.andThen_ok];cases ha:i.isAgg with
  |true=>
   simp only[ha,if_true]at h⊢;split at h
   ·rename_i hle;cases h;have kB:=(hr.drop off).take i.size;have hlen:((cs.drop off).take i.size).length=i.size:=by simp;omega
    obtain⟨vs,h1,h2,h3⟩:=Fj (P:=P) hc kB;rw[hlen]at h2;refine⟨.agg vs.toArray,by simp[cH V hi w,h2],?_⟩;simp only[R];exact⟨vs.toArray,rfl,by simpa using h3⟩
   ·cases h
  |false=>
   simp only[ha,aLT,if_false]at h⊢;obtain⟨v,h1,h2⟩:=hr.get off av h;exact⟨v,by simp[pJ hc,h1],h2⟩
def SX(V:Valid E P)(S:fT E Lo w0 ι H w){t:Nat}{p av:AV}{v:Value}(hp:R ι w (Live Lo ι H) p v)(h:dU E H t p=some av):
  ∃cv,(Instr.loadAt t v).run P w=.ok cv w/\R ι w (Live Lo ι H) av cv:=by
 unfold dU at h;split at h
 case h_2=>cases h
 rename_i cs off vP;obtain⟨cb,o,c,e,f,rfl,h2,h3⟩:=ZD S hp vP;obtain⟨cv,g1,g2⟩:=Ku V h2 h3 h;exact⟨cv,by simpa[Instr.loadAt,Instr.sureAddr]using g1,g2⟩
def E1(V:Valid E P)(S:fT E Lo w0 ι H w){t:Nat}{x av:AV}{vx:Value}{lo hi:Option AV}{LZ rm:Option Value}(hx:R ι w (Live Lo ι H) x vx)
  (ik:vK ι w (Live Lo ι H) lo LZ) (ED:vK ι w (Live Lo ι H) hi rm)
  (h:gY E H t x lo hi=some av):∃cv,(Instr.sliceAt t vx LZ rm none).run P w=.ok cv w/\R ι w (Live Lo ι H) av cv:=by
 unfold gY at h;split at h
 case h_2=>cases h
 rename_i n e _ _ _ _ _ sB;have hu:=bt V sB w;split at h
 case h_2=>cases h
 rename_i ei l hh ku hb;have mP:=l9 (P:=P) (cap:=n) ik ED hb (aLt _) (aLt _) false;have gy:∀cb o,(Instr.sliceAt t (.pointer (some ⟨cb,o,none⟩)) LZ rm none).run P w=
   .ok (.slice (some (if n=l then⟨cb,o,none⟩else⟨cb,o+l*ei.size,none⟩)) (hh-l) (n-l)) w:=by
  intro cb o;simp[Instr.sliceAt,hu,Instr.sureAddr,mP.1,cH V ku w,addr_add]
 split at h
 ·rename_i b off;split at h
  case h_2=>cases h
  rename_i st cs GW;split at h
  ·cases h
  rename_i dx;simp only[not_or]at dx;simp only[R]at hx;obtain⟨cb,co,h1,rfl⟩:=hx;obtain⟨D9,co',o,g1,g2,g3,_⟩:=S.obj b _ GW dx.1;rw[h1]at g1;cases g1
  simp only[fY]at g3;obtain⟨c,e',f,rfl,g4,_⟩:=g3;split at h
  ·rename_i Xt;cases h;refine⟨_,gy _ _,?_⟩;simp only[R,Xt,aL3];exact⟨_,_,rfl⟩
  ·rename_i Xt;cases h;refine⟨_,gy _ _,?_⟩;simp only[R];have ej:n≠l:=by omega
   refine⟨cb,co,n-l,c,e',f,h1,by rw[if_neg ej,aLU],by omega,by omega,g2,?_⟩;have hm:l*ei.size+(n-l)*ei.size=n*ei.size:=by rw[<-aLX];congr 1;omega
   have hlen:off+n*ei.size<=cs.length:=by omega
   have pN:cs≠[]:=fun e=>by subst e;simp at dx
   have:=g4.size pN
   omega
 ·rename_i cs off;simp only[R]at hx;obtain⟨cb,o,c,e',f,rfl,h2,h3,h4⟩:=hx;split at h
  ·rename_i Xt;cases h;refine⟨_,gy _ _,?_⟩;simp only[R,Xt,aL3];exact⟨_,_,rfl⟩
  ·rename_i Xt;cases h;refine⟨_,gy _ _,?_⟩;simp only[R];have ej:n≠l:=by omega
   refine⟨cb,o+off+l*ei.size,n-l,c,e',f,by rw[if_neg ej],by omega,h2,h3,?_⟩
   have:=(h4.drop (off+l*ei.size)).take ((hh-l)*ei.size)
   rwa[<-aLU]at this
 ·cases h
def Fy(off:Nat):∀(vs:List Value) (k:Nat) (cur:List Value),off+k+vs.length<=cur.length->
  (vs.zipIdx k).foldl (fun(cs:List Value) p=>cs.set (off+p.2) p.1) cur=cur.take (off+k)++vs++cur.drop (off+k+vs.length)
 |[],k,cur,h=>by simp
 |v::vs,k,cur,h=>by
  simp only[List.zipIdx_cons,List.foldl_cons];simp only[aL4]at h;rw[Fy off vs (k+1) (cur.set (off+k) v) (by simp;omega)];have h1:(cur.set (off+k) v).take (off+(k+1))=cur.take (off+k)++[v]:=by rw[show off+(k+1)=(off+k)+1 from by omega,List.take_set,List.take_succ_eq_append_getElem (by omega),List.set_append];simp[Nat.min_eq_left (show off+k<=cur.length by omega)]
  have h2:(cur.set (off+k) v).drop (off+(k+1)+vs.length)=cur.drop (off+k+(vs.length+1)):=by rw[List.drop_set_of_lt (by omega)];congr 1;omega
  rw[h1,h2]
  simp
def CM(off:Nat):∀(zs:List (Value×Nat)) (cur:Array Value),
  (zs.foldl (fun cs p=>cs.setIfInBounds (off+p.2) p.1) cur).toList=zs.foldl (fun(cs:List Value) p=>cs.set (off+p.2) p.1) cur.toList
 |[],cur=>rfl
 |z::zs,cur=>by
  simp only[List.foldl_cons];rw[CM off zs,Array.toList_setIfInBounds]
def yb{place:Nat->Option (Nat×Nat)}:∀{l:List (Nat×AV)} {vs:List (Nat×Value)} {cs out:List AV} {cells:Array Value},RsP ι w L l vs->Rs ι w L cs cells.toList->
  fP place cs l=some out->∃res,Instr.fill place cells vs=some res/\Rs ι w L out res.toList
 |[],_,_,_,_,hl,hc,h=>by
  simp only[RsP]at hl;subst hl
  simp only[fP,aLS.injEq]at h;subst h
  exact⟨_,rfl,hc⟩
 |(i,x)::l,_,cs,out,cells,hl,hc,h=>by
  simp only[RsP]at hl;obtain⟨y,ys,rfl,XQ,hl⟩:=hl;unfold fP at h;split at h
  ·cases h
  rename_i off size hp;split at h
  ·cases h
  rename_i yj;simp only[ne_eq,aL0,decide_eq_true_eq,not_or,Decidable.not_not,aMk]at yj;obtain⟨mh,hle⟩:=yj;have agx:=XQ.cells;have Uo:y.cells.size=size:=by have:=agx.length;simpa[mh]using this
  have yk:cells.size=cs.length:=by have:=hc.length;simpa using this
  unfold Instr.fill;simp only[hp];rw[if_neg (by simp[Uo,yk];omega)];refine yb hl ?_ h;rw[<-Array.foldl_toList,CM off];rw[Array.toList_zipIdx,Fy off _ 0 _ (by simp[Uo,yk];omega)];have e1:y.cells.toList.length=size:=by simpa using Uo
  rw[e1];exact((hc.take off).append agx).append (hc.drop (off+size))
end
section
variable{E:Env}{P:Program}{ι:cT}{w:World}{L:Nat->Prop}{ts:List AV}{a:Act}{Lo:Nat->Prop}{w0:World}{H:Hp}
def gn(E:Env)(Lo:Nat->Prop)(w0:World)(ι:cT)(H:Hp)(w:World)(v:AV)(e:cF)(cv:Value)(w':World):Prop:=
 ∃ι':cT,ι.le ι'/\fT E Lo w0 ι' (e.app H) w'/\Ext w (Live Lo ι H) w' (Live Lo ι' (e.app H))/\R ι' w' (Live Lo ι' (e.app H)) v cv
def gn.pure(S:fT E Lo w0 ι H w){v:AV}{cv:Value}(h:R ι w (Live Lo ι H) v cv):gn E Lo w0 ι H w v (.bJ []) cv w:=
 ⟨ι,cT.le_refl _,S,Ext.refl _ _,h⟩
def qL(S:fT E Lo w0 ι H w){aR:Nat}(hf:mG ι H aR){cs:List AV}{c:Array Value}{e:TypeId}{f:Nat×Nat}{w1:World}(hw:w1.heap=w.heap)
  (hos:w1.os=w.os) (EJ:w1.tape=w.tape) (zP:w1.output=w.output) (hr:iH ι w (Live Lo ι H) c 0 cs) (gH:∀k,k<=c.size->¬(f.1<=k/\k<f.2):=by simp):
  let dI:=cE.cells .live cs
  let ι':=ι.put aR (w.heap.size,0)
  ι.le ι'/\fT E Lo w0 ι' ((cF.bJ [(aR,dI)]).app H) (w1.alloc (.cells c e f))/\
   Ext w (Live Lo ι H) (w1.alloc (.cells c e f)) (Live Lo ι' ((cF.bJ [(aR,dI)]).app H))/\
   (w1.alloc (.cells c e f)).heap[w.heap.size]?=some (.cells c e f)/\ι' aR=some (w.heap.size,0):=by
 intro dI ι';have hx:=uH S hf (dI:=dI) rfl (.cells c e f) hw;have hle:=cT.wT (p:=(w.heap.size,0)) hf.1;refine⟨hle,?_,hx,?_,by simp[ι',cT.put]⟩
 ·refine S.alloc hf rfl hw hos EJ zP ?_;simp only[fY,dI];exact⟨c,e,f,rfl,iH.ext hx _ _ _ _ _ hle hr,fun _=>gH⟩
 ·simp[World.alloc,hw]
def F8(S:fT E Lo w0 ι H w){aR:Nat}(hf:mG ι H aR){dI:cE}(hl:dI.st=.live){o:Obj}{w1:World}(hw:w1.heap=w.heap)
  (hos:w1.os=w.os) (EJ:w1.tape=w.tape) (zP:w1.output=w.output) (hr:∀ι w L,fY ι w L 0 dI o) (CZ:dI.qa E:=by trivial):
  let ι':=ι.put aR (w.heap.size,0)
  ι.le ι'/\fT E Lo w0 ι' ((cF.bJ [(aR,dI)]).app H) (w1.alloc o)/\
   Ext w (Live Lo ι H) (w1.alloc o) (Live Lo ι' ((cF.bJ [(aR,dI)]).app H))/\ι' aR=some (w.heap.size,0):=by
 intro ι';exact⟨cT.wT hf.1,S.alloc hf hl hw hos EJ zP (hr _ _ _) CZ,uH S hf hl o hw,by simp[ι',cT.put]⟩
def uu(V:Valid E P){t:Nat}{i:sk}{cs:List AV}(hi:E.ty t=some i)(hz:i.zero=some cs)(ι:cT)(w:World)(L:Nat->Prop):
  ∃z,(zeroValue t).run P w=.ok z w/\Rs ι w L cs z.cells.toList/\cs.length=i.size/\(i.isAgg=true->∃a,z=.agg a)/\(i.isAgg=false->z.cells=#[z]):=by
 obtain⟨ti,h1,h2,h3,h4⟩:=(V.ty t i hi).info;obtain⟨z,z1,z2,z3,z4,z5⟩:=h4 cs hz;exact⟨z,by simp[zeroValue,typeInfo,h1,z1],uz 19 _ _ z2,z3,z4,z5⟩
def Gv(V:Valid E P){t:Nat}{z:AV}(h:ek E t=some z)(ι:cT)(w:World)(L:Nat->Prop):
  ∃zv,(zeroValue t).run P w=.ok zv w/\R ι w L z zv:=by
 unfold ek at h;split at h
 case h_2=>cases h
 rename_i i hi;split at h
 case h_2=>cases h
 rename_i cs hz;obtain⟨zv,z1,z2,z3,z4,z5⟩:=uu V hi hz ι w L;refine⟨zv,z1,?_⟩;split at h
 ·rename_i ha;cases h;obtain⟨vs,rfl⟩:=z4 ha;simp only[R];exact⟨vs,rfl,z2⟩
 ·rename_i ha;split at h
  ·rename_i c;cases h;rw[z5 (by simpa using ha)]at z2;simp only[Rs]at z2;obtain⟨y,ys,e1,e2,e3⟩:=z2;simp at e1;rw[e1.1];exact e2
  ·cases h
def RJ(V:Valid E P)(S:fT E Lo w0 ι H w){t aR:Nat}(hf:mG ι H aR){z:AV}(h:ek E t=some z):
  ∃cv w',(Instr.alloc t true (.tuple #[])).run P w=.ok cv w'/\gn E Lo w0 ι H w (.bK aR 0) (.bJ [(aR,.cells .live z.cells)]) cv w':=by
 obtain⟨zv,z1,z2⟩:=Gv V h ι w (Live Lo ι H);have hr:iH ι w (Live Lo ι H) zv.cells 0 z.cells:=z2.cells.at (fun i v hv=>by simpa using hv);have N:=qL S hf (e:=t) (f:=(0,0)) (w1:=w) rfl rfl rfl rfl hr;refine⟨.pointer (some ⟨w.heap.size,0,none⟩),w.alloc (.cells zv.cells t (0,0)),?_,_,N.1,N.2.1,N.2.2.1,?_⟩
 ·simp[Instr.alloc,z1,newVar,newRow]
 ·simp only[R];exact⟨_,_,N.2.2.2.2,by simp⟩
def abz(S:fT E Lo w0 ι H w){t aR:Nat}(hf:mG ι H aR){z:AV}{zv:Value}(z2:R ι w (Live Lo ι H) z zv):
  ∃cv w',(Instr.box t zv).run P w=.ok cv w'/\gn E Lo w0 ι H w (.bK aR 0) (.bJ [(aR,.cells .live z.cells)]) cv w':=by
 have hr:iH ι w (Live Lo ι H) zv.cells 0 z.cells:=z2.cells.at (fun i v hv=>by simpa using hv);have N:=qL S hf (e:=t) (f:=(0,0)) (w1:=w) rfl rfl rfl rfl hr;refine⟨.pointer (some ⟨w.heap.size,0,none⟩),w.alloc (.cells zv.cells t (0,0)),?_,_,N.1,N.2.1,N.2.2.1,?_⟩
 ·simp[Instr.box,newVar,newRow]
 ·simp only[R];exact⟨_,_,N.2.2.2.2,by simp⟩
def K4(z:List AV):∀(n k:Nat),(gJ z n)[k]?=if k<n*z.length then z[k%z.length]? else none
 |0,k=>by simp[gJ]
 |n+1,k=>by
  simp only[gJ];rw[aLw];by_cases hk:k<z.length
  ·rw[if_pos hk,if_pos (by rw[aLX];omega),Nat.mod_eq_of_lt hk]
  ·rw[if_neg hk,K4 z n (k-z.length)];have e:(k-z.length)%z.length=k%z.length:=by rw[Nat.mod_eq_sub_mod (a:=k) (by omega)]
   rw[e];have e2:(n+1)*z.length=n*z.length+z.length:=by rw[aLX,Nat.one_mul]
   by_cases h2:k-z.length<n*z.length
   ·rw[if_pos h2,if_pos (by omega)]
   ·rw[if_neg h2,if_neg (by omega)]
def uj(z:List AV):∀n,(gJ z n).length=n*z.length
 |0=>by simp[gJ]
 |n+1=>by simp[gJ,uj z n,aLX];omega
def Ri{cs:List AV}{z:Array Value}(h:Rs ι w L cs z.toList)(ej:0<cs.length)(n:Nat):
  Rs ι w L (gJ cs n) ((Array.range (n*cs.length)).map (fun i=>z[i%z.size]!)).toList:=by
 have hz:z.size=cs.length:=by have:=h.length;simpa using this
 refine Rs.gR (by simp[uj]) fun i x hx=>?_
 rw[K4]at hx;split at hx
 ·rename_i hi;obtain⟨v,h1,h2⟩:=h.get _ x hx;refine⟨v,?_,h2⟩;rw[aLR]at h1⊢;rw[Array.getElem?_map,Array.getElem?_range,if_pos hi];simp only[aMi,hz];rw[getElem!_def,h1]
 ·cases hx
def ER(V:Valid E P)(S:fT E Lo w0 ι H w){t aR:Nat}(hf:mG ι H aR){l c v:AV}{vl vc:Value}{st:List (Nat×cE)}
  (hl:R ι w (Live Lo ι H) l vl) (hc:R ι w (Live Lo ι H) c vc) (h:fp E aR t l c=some (v,st)):
  ∃cv w',(Instr.makeSlice t vl vc).run P w=.ok cv w'/\gn E Lo w0 ι H w v (.bJ st) cv w':=by
 unfold fp at h;split at h
 case h_2=>cases h
 rename_i e _ _ _ _ _ kl n kc m hi;have hu:=(V.ty t _ hi).cD;split at h
 case h_2=>cases h
 rename_i ei ku;split at h
 case h_2=>cases h
 rename_i z hz;split at h
 case isFalse=>cases h
 rename_i yj;obtain⟨h0,yn,hb,h63,Ef,Jp⟩:=yj;simp only[aLS.injEq,Prod.mk.injEq]at h;obtain⟨rfl,rfl⟩:=h;simp only[R]at hl hc;subst hl;subst hc
 obtain⟨ti,g1,g2,g3,g4⟩:=(V.ty e ei ku).info;obtain⟨zv,z1,z2,z3,_,_⟩:=g4 z hz;have hzr:Rs ι w (Live Lo ι H) z zv.cells.toList:=uz 19 _ _ z2;have hm:m.toNat*ei.bytes<=140737488355328:=hb;have run:=run_make (P:=P) w t e ti zv hu g1 z1 kl kc n m h0 yn (by
   rw[g3]
   have:=Int.ofNat_le.2 hm
   have e1:((m.toNat:Nat):Int)=m:=by omega
   rw[Int.natCast_mul,e1]at this;rw[Int.mul_comm];omega) (by omega)
 rw[g2]at run;have hr0:=Ri hzr (by omega) m.toNat;rw[Ef]at hr0;have hr:iH ι w (Live Lo ι H) (madeCells zv.cells (m.toNat*ei.size)) 0 (gJ z m.toNat):=hr0.at (fun i v hv=>by
  rw[aLR]at hv;unfold madeCells;rw[aL5];exact hv)
 have N:=qL S hf (e:=e) (f:=(0,0)) (w1:=w) rfl rfl rfl rfl hr (fun k _ hk=>by exact absurd hk.2 (Nat.not_lt_zero _));refine⟨_,_,run,_,N.1,N.2.1,N.2.2.1,?_⟩;simp only[R];refine⟨w.heap.size,0,m.toNat,madeCells zv.cells (m.toNat*ei.size),e,(0,0),N.2.2.2.2,rfl,by omega,aLt _,N.2.2.2.1,?_⟩;rw[size_madeCells];omega
end
section
variable{E:Env}{P:Program}{ι:cT}{w:World}{L:Nat->Prop}{ts:List AV}{a:Act}{Lo:Nat->Prop}{w0:World}{H:Hp}
def heap_setCell(w:World)(b o:Nat)(v:Value)(x:Nat):(w.setCell ⟨b,o,none⟩ v).heap[x]?=
  if x=b then(w.heap[b]?).map (fun ob=>match ob with|.cells c e f=>.cells (c.setIfInBounds o v) e f|ob=>ob)else w.heap[x]?:=by
 simp only[World.setCell,Array.getElem?_modify];by_cases hx:x=b
 ·subst hx;simp only[if_true];cases w.heap[x]? with
  |none=>rfl
  |some ob=>cases ob<;>simp
 ·rw[if_neg (fun e=>hx e.symm),if_neg hx]
def kI:∀(vs:List Value) (w:World) (cb o:Nat) (c:Array Value) (e:TypeId) (f:Nat×Nat),w.heap[cb]?=some (.cells c e f)->o+vs.length<=c.size->
  ∃c',Ej w (w.setCells cb o vs) cb (.cells c' e f)/\c'.size=c.size/\∀k:Nat,c'[k]?=if o<=k/\k<o+vs.length then vs[k-o]? else c[k]?
 |[],w,cb,o,c,e,f,h,_=>⟨c,⟨rfl,rfl,rfl,rfl,h,fun _ _=>rfl⟩,rfl,fun k=>by rw[if_neg (by simp only[List.length_nil];omega)]⟩
 |v::vs,w,cb,o,c,e,f,h,hl=>by
  simp only[aL4]at hl;have h1:(w.setCell ⟨cb,o,none⟩ v).heap[cb]?=some (.cells (c.setIfInBounds o v) e f):=by rw[heap_setCell,if_pos rfl,h];rfl
  obtain⟨c',g1,g2,g3⟩:=kI vs (w.setCell ⟨cb,o,none⟩ v) cb (o+1) _ e f h1 (by simp;omega);refine⟨c',⟨g1.os,g1.tape,g1.output,?_,g1.here,fun x hx=>?_⟩,by rw[g2];simp,fun k=>?_⟩
  ·have:=g1.size
   simpa[World.setCells,World.setCell]using this
  ·have:=g1.there x hx
   rw[heap_setCell,if_neg hx]at this;exact this
  ·rw[g3];simp only[aL4];by_cases hk:k=o
   ·subst hk;rw[if_neg (by omega),if_pos (by omega),Array.getElem?_setIfInBounds,if_pos rfl,if_pos (by omega)]
    simp
   ·by_cases h2:o+1<=k/\k<o+1+vs.length
    ·rw[if_pos h2,if_pos (by omega)];rw[show k-o=(k-(o+1))+1 from by omega]
     simp
    ·rw[if_neg h2,if_neg (by omega),Array.getElem?_setIfInBounds_ne (fun q=>hk q.symm)]
def uo(S:fT E Lo w0 ι H w){b cb co off:Nat}{cs xs:List AV}{vs:List Value}(hb:H[b]?=some (.cells .live cs))(hi:ι b=some (cb,co))
  (hr:Rs ι w (Live Lo ι H) xs vs) (hle:off+xs.length<=cs.length) (vO:xs.all cN=true):
  (storeCells ⟨cb,co+off,none⟩ vs).run P w=.ok () (w.setCells cb (co+off) vs)/\
   fT E Lo w0 ι (H.set b (.cells .live (dA cs off xs))) (w.setCells cb (co+off) vs)/\
   Ext w (Live Lo ι H) (w.setCells cb (co+off) vs) (Live Lo ι (H.set b (.cells .live (dA cs off xs)))):=by
 obtain⟨D9,co',o,g1,g2,g3,g4,_⟩:=S.obj b _ hb (by simp[cE.st]);rw[hi]at g1;cases g1
 simp only[fY]at g3;obtain⟨c,e,f,rfl,g5,g6⟩:=g3;have hlen:vs.length=xs.length:=hr.length;by_cases AD:xs=[]
 ·subst AD;simp at hlen;subst hlen;have e1:dA cs off []=cs:=by simp[dA]
  have e2:H.set b (.cells .live cs)=H:=by
   apply List.ext_getElem?;intro k;rw[aLp]
   split
   ·rename_i hk;subst hk;rw[hb];split<;>rename_i eh
    ·rfl
    ·exact absurd (aLq.1 hb).1 eh
   ·rfl
  rw[e1,e2];exact⟨by simp[storeCells,World.setCells],S,Ext.refl _ _⟩
 have hxl:0<xs.length:=List.length_pos_iff.2 AD;have pN:cs≠[]:=fun q=>by subst q;simp only[List.length_nil]at hle;omega
 have mh:=g5.size pN;have gy:=run_storeCells_cells (P:=P) cb (co+off) vs 0 w (fun j hj=>by
   rw[pJ g2,aL2 (show co+off+0+j<c.size by omega)];rfl) (fun j hj=>by
   have:=g6 trivial (co+off+0+j) (by omega)
   simp only[World.frozen?,g2];simpa using this) (fun v hv=>by
   obtain⟨i,sB⟩:=aL8 hv;have LL:i<xs.length:=by have:=(aLq.1 sB).1;omega
   obtain⟨v',k1,k2⟩:=hr.get i _ (aL6 LL);rw[sB]at k1;cases k1
   exact z8 k2 (aMf.1 vO _ (aMg LL)))
 obtain⟨c',q1,q2,q3⟩:=kI vs w cb (co+off) c e f g2 (by omega);refine⟨by simpa using gy,?_⟩;have nL:Live Lo ι H cb:=.inr ⟨b,_,co,hb,rfl,hi⟩;have hx:=q1.ext (L:=Live Lo ι H) (L':=Live Lo ι H) g2 (fun cs e f q=>by cases q;exact⟨c',_,rfl,q2⟩) nL (fun _ h=>h);refine S.update hb rfl rfl hi g2 (fun cs e f q=>by cases q;exact⟨c',_,rfl,q2⟩) q1 ?_;simp only[fY];refine⟨c',e,f,rfl,iH.gR fun i x Iw=>?_,fun _=>by rw[q2];exact g6 trivial⟩;rw[q3];unfold dA at Iw;rw[aLw,aLw]at Iw;simp only[aL9,List.length_take]at Iw;have MZ:min off cs.length=off:=by omega
 rw[MZ]at Iw;by_cases h1:i<off
 ·rw[if_pos (by omega),if_pos h1,List.getElem?_take,if_pos h1]at Iw;rw[if_neg (by omega)];obtain⟨v,k1,k2⟩:=g5.get i x Iw;exact⟨v,k1,R.ext hx _ _ _ _ (cT.le_refl _) k2⟩
 ·by_cases h2:i<off+xs.length
  ·rw[if_pos h2,if_neg h1]at Iw;rw[if_pos (by omega)];obtain⟨v,k1,k2⟩:=hr.get _ x Iw;exact⟨v,by rw[<-k1];congr 1;omega,R.ext hx _ _ _ _ (cT.le_refl _) k2⟩
  ·rw[if_neg h2,List.getElem?_drop]at Iw;rw[if_neg (by omega)];obtain⟨v,k1,k2⟩:=g5.get _ x Iw;refine⟨v,?_,R.ext hx _ _ _ _ (cT.le_refl _) k2⟩;rw[<-k1];congr 1;omega
def jT{b:Nat}{dI:cE}{x:cE}(hb:H[b]?=some x):(cF.bJ [(b,dI)]).app H=H.set b dI:=by
 have:=(aLq.1 hb).1
 simp[cF.app,cO,this]
def OV(V:Valid E P)(S:fT E Lo w0 ι H w){t:Nat}{p x:AV}{vp vx:Value}{st:List (Nat×cE)}(hp:R ι w (Live Lo ι H) p vp)(hx:R ι w (Live Lo ι H) x vx)
  (h:fh E H t p x=some st):∃w',(Instr.storeAt t vp vx).run P w=.ok () w'/\gn E Lo w0 ι H w bT (.bJ st) undef w':=by
 unfold fh at h;split at h
 case h_2=>cases h
 rename_i b off i hi;split at h
 case h_2=>cases h
 rename_i cs hb;split at h
 ·cases h
 rename_i yj;simp only[ne_eq,aL0,decide_eq_true_eq,not_or,Decidable.not_not,aMk,aMb,aMc]at yj;obtain⟨⟨h1,h2⟩,h3⟩:=yj;cases h;simp only[R]at hp;obtain⟨cb,co,g1,rfl⟩:=hp;have T:=uo (P:=P) (xs:=x.cells) (off:=off) S hb g1 hx.cells (by omega) (by simpa using h3);refine⟨_,?_,ι,cT.le_refl _,by rw[jT hb];exact T.2.1,by rw[jT hb];exact T.2.2,by simp[bT,undef,R,Rs]⟩;have mh:vx.cells.size=i.size:=by have:=hx.cells.length;simpa[h1]using this
 simp only[Instr.storeAt,Instr.sureAddr,Sem.run_bind,Sem.run_pure,Result.andThen_ok,storeVar,cH V hi w,mh,ne_eq,not_true_eq_false,if_false];exact T.1
end
section
variable{E:Env}{P:Program}{ι:cT}{w:World}{L:Nat->Prop}{ts:List AV}{a:Act}{Lo:Nat->Prop}{w0:World}{H:Hp}
def vw(S:fT E Lo w0 ι H w){x:AV}{vx:Value}(hx:R ι w (Live Lo ι H) x vx){esz n:Nat}{xs:List AV}(hl:mU x=some n)(h:oM H esz x=some xs):
  ∃news:Array Value,(Builtin.lenOf vx).run P w=.ok n w/\xs.length=n*esz/\Rs ι w (Live Lo ι H) xs news.toList/\
   (∀m,m<=n->(Builtin.firstCells esz m vx).run P w=.ok (news.extract 0 (m*esz)) w):=by
 unfold oM at h;split at h
 ·rename_i b;split at h
  case isFalse=>cases h
  rename_i y8;cases h;subst y8;simp only[mU,aLS.injEq]at hl;simp only[R]at hx;subst hx;subst hl;refine⟨(b.map fun c=>Value.int .u8 c.toNat).toArray,?_,by simp,?_,fun m hm=>?_⟩
  ·simp[Builtin.lenOf,ByteArray.size]
  ·refine Rs.gR (by simp) fun i y hy=>?_
   simp only[List.getElem?_map,aLs]at hy;obtain⟨c,hc,rfl⟩:=hy;refine⟨.int .u8 c.toNat,by simp[hc],by simp[R]⟩
  ·simp only[Builtin.firstCells,Sem.run_pure];congr 1;apply aMo;rw[Array.toList_map,ByteArray.data_extract,aLW,aLW];simp[aLV,List.map_take]
 ·unfold iI at h;split at h
  ·cases h;simp only[mU,aLS.injEq]at hl;subst hl
   simp only[R]at hx;subst hx
   exact⟨#[],by simp[Builtin.lenOf],by simp,by simp[Rs],fun m hm=>by simp[Builtin.firstCells]⟩
  ·cases h;simp only[mU,aLS.injEq]at hl;subst hl
   simp only[R]at hx;obtain⟨ad,cap,rfl⟩:=hx
   refine⟨#[],by simp[Builtin.lenOf],by simp,by simp[Rs],fun m hm=>?_⟩
   have:m=0:=by omega
   subst this;simp[Builtin.firstCells,loadCells,loadCellsFrom]
  ·rename_i cs len _;split at h
   case isFalse=>cases h
   rename_i oB;cases h;simp only[mU,aLS.injEq]at hl;subst hl
   simp only[R]at hx;obtain⟨cb,o,cap,c,e,f,rfl,h2,h3,h4,h5⟩:=hx;have h5':=iH.ext (Ext.refl w (Live Lo ι H)) _ _ ι _ _ (qM ι) h5;refine⟨c.extract o (o+xs.length),by simp[Builtin.lenOf],oB,h5'.list,fun m hm=>?_⟩;have ky:m*esz<=xs.length:=by rw[oB];exact aLZ _ hm
   obtain⟨vs,g1,g2,g3⟩:=Fj (P:=P) h3 (h5'.take (m*esz));have hlen:(xs.take (m*esz)).length=m*esz:=by simp;omega
   have g2':=run_loadCells_list (P:=P) w ⟨cb,o,none⟩ (c.extract o (o+m*esz)).toList (fun j v hj=>by
    rw[addr_add,pJ h3];rw[aLR,aLY]at hj;split at hj
    ·exact hj
    ·cases hj)
   have yk:(c.extract o (o+m*esz)).toList.length=m*esz:=by
    have:=(h5'.take (m*esz)).list.length
    rw[hlen]at this;exact this
   rw[yk]at g2';simp only[Builtin.firstCells,g2'];congr 1;apply aMo;simp only[aLW,aLV,Nat.sub_zero,List.drop_zero,List.take_take];congr 1;omega
  ·rename_i b off len e kc _;split at h
   ·cases h
   rename_i y8;simp only[ne_eq,Decidable.not_not]at y8;subst y8;split at h
   case h_2=>cases h
   rename_i st cs hb;split at h
   ·cases h
   rename_i dx;simp only[not_or,aMk]at dx;cases h;simp only[mU,aLS.injEq]at hl;subst hl
   simp only[R]at hx;obtain⟨cb,co,cap,c,e',f,h1,rfl,h3,h4,h5,h6⟩:=hx;obtain⟨D9,co',o,g1,g2,g3,_⟩:=S.obj b _ hb dx.1;rw[h1]at g1;cases g1
   rw[h5]at g2;cases g2
   simp only[fY]at g3;obtain⟨c2,e2,f2,q1,q2,_⟩:=g3;cases q1;have hr:=(q2.drop off).take (len*e);have hlen:((cs.drop off).take (len*e)).length=len*e:=by simp;omega
   refine⟨c.extract (co+off) (co+off+len*e),by simp[Builtin.lenOf],hlen,by have:=hr.list;rwa[hlen]at this,fun m hm=>?_⟩;have ky:m*e<=len*e:=aLZ _ hm;have g2':=run_loadCells_list (P:=P) w ⟨cb,co+off,none⟩ (c.extract (co+off) (co+off+m*e)).toList (fun j v hj=>by
    rw[addr_add,pJ h5];rw[aLR,aLY]at hj;split at hj
    ·exact hj
    ·cases hj)
   have yk:(c.extract (co+off) (co+off+m*e)).toList.length=m*e:=by
    have:=(hr.take (m*e)).list.length
    have h8:(((cs.drop off).take (len*e)).take (m*e)).length=m*e:=by simp;omega
    rw[h8]at this;exact this
   rw[yk]at g2';simp only[Builtin.firstCells,g2'];congr 1;apply aMo;simp only[aLW,aLV,Nat.sub_zero,List.drop_zero,List.take_take];congr 1;omega
  ·cases h
section
variable{t u ty e:Nat}{ats:Array Nat}{args:Array Value}{vx:Value}{ui ei:sk}{n:Nat}{news:Array Value}{b:Option Addr}{sl sc:Nat}
def B9(V:Valid E P)(Io:ats[0]?=some t)(vM:ats[1]?=some u)(Is:args[0]?=some (.slice b sl sc))(BH:args[1]?=some vx)
  (eC:(underlying t).run P w=.ok (.slice e) w) (ku:E.ty e=some ei) (LV:(underlying u).run P w=.ok ui.cD w) (hq:∀k,ui.cD≠ .int k)
  (hlen:(Builtin.lenOf vx).run P w=.ok n w) (M0:(Builtin.firstCells ei.size n vx).run P w=.ok news w) (EB:sl+n<=sc:=by omega):
  (Builtin.append_ ats ty args).run P w=(match b with
   |some a=>(do storeCells (a.add (sl*ei.size)) news.toList;pure (.slice b (sl+n) sc):Sem Value).run P w
   |none=>.ok (.slice b (sl+n) sc) w):=by
 cases hd:ui.cD
 case int k=>exact absurd hd (hq k)
 all_goals
  rw[hd]at LV;simp only[Builtin.append_,Io,vM,Is,BH,Sem.run_bind,eC,Result.andThen_ok,cH V ku w,LV,Sem.run_pure,hlen,M0,EB,if_true,Bool.not_false,aLT,if_false];cases b<;>simp
def E9(V:Valid E P)(Io:ats[0]?=some t)(vM:ats[1]?=some u)(Is:args[0]?=some (.slice b sl sc))(BH:args[1]?=some vx)
  (eC:(underlying t).run P w=.ok (.slice e) w) (ku:E.ty e=some ei) (LV:(underlying u).run P w=.ok ui.cD w) (hq:∀k,ui.cD≠ .int k)
  (hlen:(Builtin.lenOf vx).run P w=.ok n w) (EB:¬sl+n<=sc) (hb:(sl+n)*ei.bytes<=140737488355328) (h63:sl+n<=4611686018427387904)
  {Oj z:Array Value} (hz:∀w:World,∃zv,(zeroValue e).run P w=.ok zv w/\zv.cells=z)
  (M0:(Builtin.firstCells ei.size n vx).run P w.drew=.ok news w.drew) (hold:(Builtin.firstCells ei.size sl (.slice b sl sc)).run P w.drew=.ok Oj w.drew):
  (Builtin.append_ ats ty args).run P w=.ok (.slice (some ⟨w.heap.size,0,none⟩) (sl+n) (grownCap w (sl+n) sc e))
   (w.drew.alloc (.cells (Oj++news++Builtin.zeroCells z (grownCap w (sl+n) sc e-(sl+n))) e)):=by
 obtain⟨ti,t1,t2,t3⟩:=V.Jt ku;have ata:=growslice_fits (need:=sl+n) (old:=sc) (bytes:=ei.bytes) (by omega) hb;have hn1:¬(281474976710656<Builtin.nextslicecap (sl+n) sc*ei.bytes):=by omega
 have Sx:IntKind.i64.max=9223372036854775807:=by decide
 have zO:¬(9223372036854775807<((sl+n:Nat):Int)):=by omega
 obtain⟨zv,Uu,Uv⟩:=hz w.drew;have aD5:Sem.run P (Builtin.firstCells ei.size n vx) {heap:=w.heap,tape:=w.tape,drawn:=w.drawn+1,os:=w.os,output:=w.output}=.ok news w.drew:=M0;have XB:Sem.run P (Builtin.firstCells ei.size sl (.slice b sl sc)) {heap:=w.heap,tape:=w.tape,drawn:=w.drawn+1,os:=w.os,output:=w.output}=.ok Oj w.drew:=hold;have M8:∀w:World,(typeInfo e).run P w=.ok ti w:=fun w=>by simp[typeInfo,t1]
 cases hd:ui.cD
 case int k=>exact absurd hd (hq k)
 all_goals
  rw[hd]at LV;simp only[Builtin.append_,Io,vM,Is,BH,Sem.run_bind,eC,Result.andThen_ok,cH V ku w,LV,Sem.run_pure,hlen,EB,if_false,Bool.not_false,aLT,M8,t3,Sx,gt_iff_lt,zO,false_and,hn1,run_choose,Question.forced,run_askRoom,XB,M0,Uu,Uv,newRow,run_newObj,Nat.reducePow,if_true];rfl
def sW(V:Valid E P){k k':IntKind}{m:Int}(Io:ats[0]?=some t)(vM:ats[1]?=some u)(Is:args[0]?=some (.slice b sl sc))(BH:args[1]?=some (.int k' m))
  (eC:(underlying t).run P w=.ok (.slice e) w) (ku:E.ty e=some ei) (LV:(underlying u).run P w=.ok ui.cD w) (hq:ui.cD=.int k)
  (h0:0<=m) (aHw:m<=4611686018427387904) (hmb:m.toNat*ei.bytes<=140737488355328) (Jp:m.toNat*ei.size≠0)
  (EB:¬sl+m.toNat<=sc) (hb:(sl+m.toNat)*ei.bytes<=140737488355328) (h63:sl+m.toNat<=4611686018427387904) (hbz:ei.bytes≠0)
  {Oj z:Array Value} (hz:∀w:World,∃zv,(zeroValue e).run P w=.ok zv w/\zv.cells=z)
  (hold:(Builtin.firstCells ei.size sl (.slice b sl sc)).run P w.drew=.ok Oj w.drew):
  (Builtin.append_ ats ty args).run P w=.ok (.slice (some ⟨w.heap.size,0,none⟩) (sl+m.toNat) (grownCap w (sl+m.toNat) sc e))
   (w.drew.alloc (.cells (Oj++Builtin.zeroCells z m.toNat++Builtin.zeroCells z (grownCap w (sl+m.toNat) sc e-(sl+m.toNat))) e)):=by
 obtain⟨ti,t1,t2,t3⟩:=V.Jt ku;have ata:=growslice_fits (need:=sl+m.toNat) (old:=sc) (bytes:=ei.bytes) (by omega) hb;have hn1:¬(281474976710656<Builtin.nextslicecap (sl+m.toNat) sc*ei.bytes):=by omega
 have Sx:IntKind.i64.max=9223372036854775807:=by decide
 have zO:¬(9223372036854775807<((sl+m.toNat:Nat):Int)):=by omega
 obtain⟨zv,Uu,Uv⟩:=hz w.drew;have XB:Sem.run P (Builtin.firstCells ei.size sl (.slice b sl sc)) {heap:=w.heap,tape:=w.tape,drawn:=w.drawn+1,os:=w.os,output:=w.output}=.ok Oj w.drew:=hold;have M8:∀w:World,(typeInfo e).run P w=.ok ti w:=fun w=>by simp[typeInfo,t1]
 have hw:IntKind.i64.wrap m=m:=by rw[IntKind.wrap_i64];omega
 have n1:¬m<0:=by omega
 have n3:¬(281474976710656<m*(ei.bytes:Int)):=by
  have:=Int.ofNat_le.2 hmb
  have e1:((m.toNat:Nat):Int)=m:=by omega
  rw[Int.natCast_mul,e1]at this;omega
 rw[hq]at LV;simp only[Builtin.append_,Io,vM,Is,BH,Sem.run_bind,eC,Result.andThen_ok,cH V ku w,LV,Sem.run_pure,asInt,asIntOf,hw,n1,n3,Jp,EB,if_false,Bool.not_true,aLT,M8,t3,Sx,gt_iff_lt,zO,false_and,hn1,run_choose,Question.forced,run_askRoom,XB,Uu,Uv,newRow,run_newObj,Nat.reducePow,Int.reducePow,if_true];rfl
end
def uJ(S:fT E Lo w0 ι H w){aR:Nat}(hf:mG ι H aR){cs:List AV}{n esz e cap:Nat}{vs rest:Array Value}(hr:Rs ι w (Live Lo ι H) cs vs.toList)
  (hn:cs.length=n*esz) (sy:n<=cap) (tM:rest.size=(cap-n)*esz):
  gn E Lo w0 ι H w (.aI aR 0 n esz n) (.bJ [(aR,.cells .live cs)]) (.slice (some ⟨w.heap.size,0,none⟩) n cap) (w.drew.alloc (.cells (vs++rest) e)):=by
 have hl:vs.size=cs.length:=by have:=hr.length;simpa using this
 have hat:iH ι w (Live Lo ι H) (vs++rest) 0 cs:=hr.at (fun i v hv=>by
  rw[aLR]at hv
  have:i<vs.size:=(Array.getElem?_eq_some_iff.1 hv).1
  rw[aL5,Array.getElem?_append_left this];exact hv)
 have N:=qL S hf (e:=e) (f:=(0,0)) (w1:=w.drew) rfl rfl rfl rfl hat (fun k _ hk=>absurd hk.2 (Nat.not_lt_zero _));refine⟨_,N.1,N.2.1,N.2.2.1,?_⟩;simp only[R];refine⟨w.heap.size,0,cap,vs++rest,e,(0,0),N.2.2.2.2,rfl,aLt _,sy,N.2.2.2.1,?_⟩;rw[Array.size_append,hl,hn,tM,<-aLX]
 have:n+(cap-n)=cap:=by omega
 rw[this];omega
end
section
variable{E:Env}{P:Program}{ι:cT}{w:World}{L:Nat->Prop}{ts:List AV}{a:Act}{Lo:Nat->Prop}{w0:World}{H:Hp}
def fT.dr(S:fT E Lo w0 ι H w):fT E Lo w0 ι H w.drew:=(S.drew (w':=w.drew) rfl rfl rfl rfl).1
def CC{w':World}(h:w'.heap=w.heap):Ext w L w' L:=
 ⟨by rw[h];exact aLt _,fun _ _ hn=>⟨by rw[h],hn⟩,fun c cs e f hc=>⟨cs,f,by rw[h];exact hc,rfl⟩⟩
def R.dr{x:AV}{v:Value}(h:R ι w L x v):R ι w.drew L x v:=R.ext (w:=w) (w':=w.drew) (CC rfl) _ _ _ _ (cT.le_refl _) h
def Rs.aBW{x:List AV}{v:List Value}(h:Rs ι w.drew L x v):Rs ι w L x v:=Rs.ext (w:=w.drew) (w':=w) (CC rfl) _ _ _ _ (cT.le_refl _) h
def lM(z:Array Value)(n:Nat):(Builtin.zeroCells z n).size=n*z.size:=size_zeroCells z n
def D7(V:Valid E P){e:Nat}{ei:sk}(ku:E.ty e=some ei){zc:List AV}(hz:ei.zero=some zc):
  ∃z:Array Value,z.size=ei.size/\∀w:World,∃zv,(zeroValue e).run P w=.ok zv w/\zv.cells=z:=by
 obtain⟨ti,h1,h2,h3,h4⟩:=(V.ty e ei ku).info;obtain⟨z,z1,z2,z3,z4,z5⟩:=h4 zc hz
 have:=(uz (ι:=cg) (w:=default) (L:=fun _=>False) 19 _ _ z2).length
 exact⟨z.cells,by simp at this;omega,fun w=>⟨z,by simp[zeroValue,typeInfo,h1,z1],rfl⟩⟩
def ou{cb o m esz len cap:Nat}{c:Array Value}{e:TypeId}{f:Nat×Nat}(hc:w.heap[cb]?=some (.cells c e f))(hle:o+m*esz<=c.size):
  (Builtin.firstCells esz m (.slice (some ⟨cb,o,none⟩) len cap)).run P w=.ok (c.extract o (o+m*esz)) w:=by
 have g:=run_loadCells_list (P:=P) w ⟨cb,o,none⟩ (c.extract o (o+m*esz)).toList (fun j v hj=>by
  rw[addr_add,pJ hc];rw[aLR,aLY]at hj;split at hj
  ·exact hj
  ·cases hj)
 have hl:(c.extract o (o+m*esz)).toList.length=m*esz:=by simp;omega
 rw[hl]at g;simp only[Builtin.firstCells,g]
def Cb(V:Valid E P)(S:fT E Lo w0 ι H w){aR t u ty:Nat}(hf:mG ι H aR){ats:Array Nat}{args:Array Value}{vs vx:Value}{ui:sk}
  (Io:ats[0]?=some t) (vM:ats[1]?=some u) (Is:args[0]?=some vs) (BH:args[1]?=some vx) (hu:E.ty u=some ui)
  (hq:∀k,ui.cD≠ .int k) {s x v:AV} {st:List (Nat×cE)}
  (hs:R ι w (Live Lo ι H) s vs) (hx:R ι w (Live Lo ι H) x vx) (h:er E H aR false t s x=some (v,st)):
  ∃cv w',(Builtin.append_ ats ty args).run P w=.ok cv w'/\gn E Lo w0 ι H w v (.bJ st) cv w':=by
 unfold er at h;split at h
 case h_2=>cases h
 rename_i e _ _ _ _ _ hi;have eC:(underlying t).run P w=.ok (.slice e) w:=bt V hi w;have LV:(underlying u).run P w=.ok ui.cD w:=bt V hu w;split at h
 case h_2=>cases h
 rename_i ei ku;split at h
 case h_2=>cases h
 rename_i n xs ph;simp only[sD,aLT,if_false]at ph;split at ph
 case h_2=>cases ph
 rename_i n' xs' hlx hsx;cases ph;obtain⟨news,x1,x2,x3,x4⟩:=vw S hx hlx hsx;obtain⟨auK,d1,d2,d3,d4⟩:=vw S.dr hx.dr hlx hsx;have hns:news.size=n*ei.size:=by have:=x3.length;rw[<-x2];simpa using this
 have hnd:auK.size=n*ei.size:=by have:=d3.length;rw[<-d2];simpa using this
 have xn:=x4 n (aLt _);rw[<-hns,aMa]at xn;have dn:=d4 n (aLt _);rw[<-hnd,aMa]at dn;split at h
 ·
  rename_i LQ;subst LQ;have LQ:news=#[]:=by apply Array.eq_empty_of_size_eq_zero;rw[hns];simp
  have C3:∃b sl sc,vs=.slice b sl sc/\sl<=sc/\(b=none∨∃ad,b=some ad):=by
   cases s<;>first|(exfalso;revert h;simp;done)|simp only[R]at hs
   ·exact⟨none,0,0,hs,aLt _,.inl rfl⟩
   ·obtain⟨ad,cap,rfl⟩:=hs;exact⟨_,_,_,rfl,aMd _,.inr ⟨ad,rfl⟩⟩
   ·obtain⟨cb,co,cap,c,e',f,h1,rfl,h3,h4,_⟩:=hs;exact⟨_,_,_,rfl,by omega,.inr ⟨_,rfl⟩⟩
   ·obtain⟨cb,o,cap,c,e',f,rfl,h3,_⟩:=hs;exact⟨_,_,_,rfl,by omega,.inr ⟨_,rfl⟩⟩
  obtain⟨b,sl,sc,rfl,hle,hb⟩:=C3;have gy:=B9 (ty:=ty) V Io vM Is BH eC ku LV hq x1 xn;refine⟨.slice b sl sc,w,?_,?_⟩
  ·rw[gy];subst LQ;rcases hb with rfl|⟨ad,rfl⟩
   ·simp
   ·simp[storeCells]
  ·have:v=s/\st=[]:=by
    cases s<;>first|(exfalso;revert h;simp;done)|(simp only[if_true,aLS.injEq,Prod.mk.injEq]at h;exact⟨h.1.symm,h.2.symm⟩)
   rw[this.1,this.2];exact gn.pure S hs
 rename_i LQ;split at h
 ·cases h
 rename_i Jk;simp only[aL0,decide_eq_true_eq,not_or,aMb,aMc]at Jk;obtain⟨⟨aH1,vO⟩,hzn⟩:=Jk;obtain⟨zc,hzc⟩:∃zc,ei.zero=some zc:=by
  cases hh:ei.zero with
  |none=>rw[hh]at hzn;exact absurd rfl hzn
  |some zc=>exact⟨zc,rfl⟩
 obtain⟨z,XR,hz⟩:=D7 V ku hzc;have d3':=d3.aBW;split at h
 ·
  split at h
  case isFalse=>cases h
  rename_i hb;obtain⟨mP,vN⟩:=hb;cases h;simp only[R]at hs;subst hs;have hold:(Builtin.firstCells ei.size 0 (.slice none 0 0)).run P w.drew=.ok #[] w.drew:=by simp[Builtin.firstCells]
  have gy:=E9 (ty:=ty) V Io vM Is BH eC ku LV hq x1 (by omega) (by rw[aL5];exact mP) (by omega) hz dn hold;rw[aL5]at gy;have G:=uJ S hf (e:=e) (rest:=Builtin.zeroCells z (grownCap w n 0 e-n)) d3' x2 (grownCap_ge w n 0 e) (by rw[lM,XR]);exact⟨_,_,by rw[gy];simp,G⟩
 ·
  rename_i b off len esz kc _;split at h
  case h_2=>cases h
  rename_i cs hb;simp only[R]at hs;obtain⟨cb,co,cap,c,e',f,h1,rfl,h3,h4,h5,h6⟩:=hs;obtain⟨D9,co',o,g1,g2,g3,g4,_⟩:=S.obj b _ hb (by simp[cE.st]);rw[h1]at g1;cases g1
  rw[h5]at g2;cases g2
  simp only[fY]at g3;obtain⟨c2,e2,f2,q1,q2,q3⟩:=g3;cases q1;split at h
  ·
   rename_i hk;split at h
   case isFalse=>cases h
   rename_i hc;obtain⟨y8,hle⟩:=hc;cases h;have gy:=B9 (ty:=ty) V Io vM Is BH eC ku LV hq x1 xn;have hm:off+len*esz+xs.length<=cs.length:=by rw[x2,<-y8,aLU,<-aLX];exact hle
   have T:=uo (P:=P) (xs:=xs) (off:=off+len*esz) S hb h1 x3 hm (by simpa using vO);refine⟨.slice (some ⟨cb,co+off,none⟩) (len+n) cap,_,?_,ι,cT.le_refl _,by rw[jT hb];exact T.2.1,by rw[jT hb];exact T.2.2,?_⟩
   ·rw[gy];simp only[addr_add,<-y8,aLU,Sem.run_bind]
    have:=T.1
    rw[show co+(off+len*esz)=co+(off+len*esz)from rfl]at this;rw[this];rfl
   ·simp only[R];obtain⟨c',f',k1,k2⟩:=T.2.2.shape cb c e' f h5;exact⟨cb,co,cap,c',e',f',h1,rfl,hk,h4,k1,by omega⟩
  ·rename_i hk;split at h
   case isFalse=>cases h
   rename_i hc;obtain⟨y8,hle,mP,vN⟩:=hc;cases h;have CX:Rs ι w (Live Lo ι H) ((cs.drop off).take (len*esz)) (c.extract (co+off) (co+off+len*esz)).toList:=by
    have:=((q2.drop off).take (len*esz)).list
    have hlen:((cs.drop off).take (len*esz)).length=len*esz:=by simp;omega
    rwa[hlen]at this
   have hlen:((cs.drop off).take (len*esz)).length=len*esz:=by simp;omega
   by_cases EB:len+n<=cap
   ·
    have gy:=B9 (ty:=ty) V Io vM Is BH eC ku LV hq x1 xn EB;have hsp:co+off+len*esz+n*esz<=c.size:=by
     have:(len+n)*esz<=cap*esz:=aLZ _ EB
     rw[aLX]at this;omega
    have hvl:news.toList.length=n*esz:=by rw[y8];simpa using hns
    have agK:=run_storeCells_cells (P:=P) cb (co+off+len*esz) news.toList 0 w (fun j hj=>by
      rw[pJ h5,aL2 (show co+off+len*esz+0+j<c.size by omega)];rfl) (fun j hj=>by
      have:=q3 trivial (co+off+len*esz+0+j) (by omega)
      simp only[World.frozen?,h5];simpa using this) (fun v hv=>by
      obtain⟨i,sB⟩:=aL8 hv;have LL:i<xs.length:=by have:=(aLq.1 sB).1;rw[x2,<-y8];omega
      obtain⟨v',k1,k2⟩:=x3.get i _ (aL6 LL);rw[sB]at k1;cases k1
      exact z8 k2 (aMf.1 (by simpa using vO) _ (aMg LL)))
    obtain⟨c',o1,o2,o3⟩:=kI news.toList w cb (co+off+len*esz) c e' f h5 (by omega);have se:jP (.cells c e' f) (.cells c' e' f):=fun cs e f q=>by cases q;exact⟨c',_,rfl,o2⟩
    have nL:Live Lo ι H cb:=.inr ⟨b,_,co,hb,rfl,h1⟩;have AD:=o1.ext (L:=Live Lo ι H) (L':=Live Lo ι H) h5 se nL (fun _ h=>h);have EE:=cT.wT (p:=(cb,co+off)) hf.1;have G:=S.ZI (cs0:=[]) (co':=co+off) (blk':=.cells .live ((cs.drop off).take (len*esz)++xs)) hb rfl rfl hf h1 h5 se o1 (by
     simp only[fY];refine⟨c',e',f,rfl,iH.gR fun i y hy=>?_,fun _=>by rw[o2];exact q3 trivial⟩;rw[o3];rw[aLw]at hy;rw[hlen]at hy;by_cases h8:i<len*esz
     ·rw[if_pos h8]at hy;rw[if_neg (by omega)];obtain⟨v,k1,k2⟩:=((q2.drop off).take (len*esz)).get i y hy;exact⟨v,k1,R.ext AD _ _ _ _ EE k2⟩
     ·rw[if_neg h8]at hy;have LL:=(aLq.1 hy).1;rw[if_pos (by rw[hvl];rw[x2,<-y8]at LL;omega)];obtain⟨v,k1,k2⟩:=x3.get _ y hy;exact⟨v,by rw[<-k1];congr 1;omega,R.ext AD _ _ _ _ EE k2⟩) (by simp)
    have lD:(cF.bJ [(b,.cells .dead []),(aR,.cells .live ((cs.drop off).take (len*esz)++xs))]).app H=cO (H.set b (.cells .dead [])) aR (.cells .live ((cs.drop off).take (len*esz)++xs)):=by have eh:=(aLq.1 hb).1;simp[cF.app,cO,eh]
    refine⟨.slice (some ⟨cb,co+off,none⟩) (len+n) cap,_,?_,_,EE,by rw[lD];exact G.1,by rw[lD];exact G.2,?_⟩
    ·rw[gy];simp only[addr_add,<-y8,Sem.run_bind,aLU]at agK⊢
     have:=agK
     rw[this];rfl
    ·simp only[R];exact⟨cb,co+off,cap,c',e',f,by simp[cT.put],by simp,aLt _,EB,o1.here,by rw[o2];omega⟩
   ·
    have hold:(Builtin.firstCells ei.size len (.slice (some ⟨cb,co+off,none⟩) len cap)).run P w.drew=.ok (c.extract (co+off) (co+off+len*esz)) w.drew:=by
     rw[<-y8];exact ou (w:=w.drew) h5 (by
      have:len*esz<=cap*esz:=aLZ _ (by omega)
      omega)
    have gy:=E9 (ty:=ty) V Io vM Is BH eC ku LV hq x1 EB mP (by omega) hz dn hold;have K:=S.kill (b:=b) [] (by simp);have hf':mG ι (H.set b (.cells .dead [])) aR:=by
     refine⟨hf.1,?_⟩;rcases hf.2 with q|q
     ·exact .inl (by simpa using q)
     ·refine .inr ?_;have Xg:b≠aR:=fun e=>by subst e;rw[hf.1]at h1;cases h1
      rw[aLp,if_neg Xg];exact q
    have qd:Rs ι w (Live Lo ι (H.set b (.cells .dead []))) ((cs.drop off).take (len*esz)++xs) (c.extract (co+off) (co+off+len*esz)++auK).toList:=by rw[Array.toList_append];exact(Rs.ext K.2 _ _ _ _ (cT.le_refl _) CX).append (Rs.ext K.2 _ _ _ _ (cT.le_refl _) d3')
    have G:=uJ K.1 hf' (e:=e) (n:=len+n) (esz:=esz) (rest:=Builtin.zeroCells z (grownCap w (len+n) cap e-(len+n))) qd
     (by rw[aL9,hlen,x2,<-y8,aLX]) (grownCap_ge w (len+n) cap e) (by rw[lM,XR,y8])
    obtain⟨ι',p1,p2,p3,p4⟩:=G;have lD:(cF.bJ [(b,.cells .dead []),(aR,.cells .live ((cs.drop off).take (len*esz)++xs))]).app H=(cF.bJ [(aR,.cells .live ((cs.drop off).take (len*esz)++xs))]).app (H.set b (.cells .dead [])):=by have eh:=(aLq.1 hb).1;simp[cF.app,cO,eh]
    refine⟨_,_,gy,ι',p1,by rw[lD];exact p2,by rw[lD];exact K.2.trans p3,by rw[lD];exact p4⟩
 ·cases h
end
end Dv
