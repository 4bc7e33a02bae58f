/- A part of the proof that PairRefuses returns true for every input; no condition of its own. -/
import Derived.Test.YtblnjkjjedanaaaGreatDoorTam
set_option linter.all false
set_option maxHeartbeats 100000000
set_option maxRecDepth 100000
open Option renaming some->aLv,map_some->aNj,bind_some->aOS
namespace Go.Proofs.YtblnjkjjedanaaaGreatDoor
open Go Dv
section
variable{E:Env}
def gx(E:Env)(t:Nat):Option (Bool×Nat):=match E.ty t with
 |some i=>some (i.isAgg,i.size)
 |none=>none
def iR(ag:Bool)(n:Nat)(cs:List AV)(o:Nat):Option AV:=if ag=true then(if o+n<=cs.length then some (.agg ((cs.drop o).take n))else none)else cs[o]?
theorem aca{n:Nat}{cs:List AV}{o:Nat}:iR true n cs o=if o+n<=cs.length then some (.agg ((cs.drop o).take n))else none:=rfl
theorem lH{n:Nat}{cs:List AV}{o:Nat}:iR false n cs o=cs[o]?:=rfl
theorem Fa{t:Nat}{ag:Bool}{n:Nat}(h:gx E t=some (ag,n)){cs:List AV}{o:Nat}:ik E t cs o=iR ag n cs o:=by
 unfold gx at h;unfold ik iR;cases hi:E.ty t with
 |none=>rw[hi]at h;cases h
 |some i=>
  rw[hi]at h;simp only[aLv.injEq,Prod.mk.injEq]at h;obtain⟨h1,h2⟩:=h;subst h1;subst h2
  rfl
theorem se{t:Nat}{ag:Bool}{n:Nat}(h:gx E t=some (ag,n)){H:Hp}{cs:List AV}{o:Nat}:gl E H t (.eU cs o)=iR ag n cs o:=by
 show ik E t cs o=_
 exact Fa h
theorem lF{t:Nat}(h:gx E t=some (false,1)){H:Hp}{b o:Nat}:gl E H t (.b6 b o)=cellAt H b o:=by
 refine js ?_;unfold gx at h;cases hi:E.ty t with
 |none=>rw[hi]at h;cases h
 |some i=>rw[hi]at h;simp at h;exact⟨i,hi,h.1,h.2⟩
theorem og{t n:Nat}(h:gx E t=some (true,n)){H:Hp}{b o:Nat}:gl E H t (.b6 b o)=nZ n H b o:=by
 refine qo ?_;unfold gx at h;unfold OH;cases hi:E.ty t with
 |none=>rw[hi]at h;cases h
 |some i=>rw[hi]at h;simp at h;simp[h.1,h.2]
theorem jK{t n:Nat}{ag:Bool}(h:gx E t=some (ag,n)){H:Hp}{b o:Nat}{v:AV}:iC E H t (.b6 b o) v=(mY n v.cells H b o).map fun x=>[(b,x)]:=by
 refine kS ?_;unfold gx at h;unfold Lc;cases hi:E.ty t with
 |none=>rw[hi]at h;cases h
 |some i=>rw[hi]at h;simp at h;simp[h.2]
def iO(E:Env)(t f:Nat):Option (Nat×Bool×Nat):=match E.ty t with
 |some {cS:=.struct fields,..}=>(match fields[f]? with
  |some fd=>(match E.ty fd.type with
   |some fi=>if fi.size=0 then none else some (fd.offset,fi.isAgg,fi.size)
   |none=>none)
  |none=>none)
 |_=>none
theorem aen{t f off n:Nat}{ag:Bool}(h:iO E t f=some (off,ag,n)):(∀b o,dx E t (.b6 b o) f=some (.b6 b (o+off)))/\(∀cs o,dx E t (.eU cs o) f=some (.eU cs (o+off)))/\
  ∀cs,Eb E t (.agg cs) f=iR ag n cs off:=by
 unfold iO at h;cases hi:E.ty t with
 |none=>rw[hi]at h;cases h
 |some i=>
  rw[hi]at h;obtain⟨cS,isAgg,size,bytes,zero,eQ⟩:=i;cases cS<;>first|(cases h;done)|skip
  rename_i fs;simp only at h;cases hf:fs[f]? with
  |none=>rw[hf]at h;cases h
  |some fd=>
   rw[hf]at h;simp only at h;cases hj:E.ty fd.type with
   |none=>rw[hj]at h;cases h
   |some fi=>
    rw[hj]at h;simp only at h;by_cases hz:fi.size=0
    ·rw[if_pos hz]at h;cases h
    ·rw[if_neg hz]at h;simp only[aLv.injEq,Prod.mk.injEq]at h;obtain⟨h1,h2,h3⟩:=h;subst h1;subst h2;subst h3
     refine⟨fun b o=>?_,fun cs o=>?_,fun cs=>?_⟩
     ·simp only[dx,hi,hf,hj,hz,if_false]
     ·simp only[dx,hi,hf,hj,hz,if_false]
     ·simp only[Eb,hi,hf,ik,hj,iR]
theorem il{t f off n:Nat}{ag:Bool}(h:iO E t f=some (off,ag,n)){b o:Nat}:dx E t (.b6 b o) f=some (.b6 b (o+off)):=(aen h).1 b o
theorem Vy{t f off n:Nat}{ag:Bool}(h:iO E t f=some (off,ag,n)){cs:List AV}{o:Nat}:dx E t (.eU cs o) f=some (.eU cs (o+off)):=(aen h).2.1 cs o
def ja(E:Env)(t:Nat):Option (Nat×Bool×Nat):=match E.ty t with
 |some {cS:=.array len e,..}=>(match E.ty e with
  |some ei=>some (len,ei.isAgg,ei.size)
  |none=>none)
 |_=>none
theorem UC{t len n:Nat}{ag:Bool}(h:ja E t=some (len,ag,n)):(∀b o k z,cI E t (.b6 b o) (.int k z)=if 0<=z/\z<(len:Int)then some (.b6 b (o+z.toNat*n))else none)/\
  (∀cs o k z,cI E t (.eU cs o) (.int k z)=if 0<=z/\z<(len:Int)then some (.eU cs (o+z.toNat*n))else none)/\
  (∀cs k z,qm E t (.agg cs) (.int k z)=if 0<=z/\z<(len:Int)then iR ag n cs (z.toNat*n)else none)/\
  (∀H aM v,aZ E H aM .len [t] [v]=some (.int .i64 len,[])):=by
 unfold ja at h;cases hi:E.ty t with
 |none=>rw[hi]at h;cases h
 |some i=>
  rw[hi]at h;obtain⟨cS,isAgg,size,bytes,zero,eQ⟩:=i;cases cS<;>first|(cases h;done)|skip
  rename_i ln e;simp only at h;cases he:E.ty e with
  |none=>rw[he]at h;cases h
  |some ei=>
   rw[he]at h;simp only[aLv.injEq,Prod.mk.injEq]at h;obtain⟨h1,h2,h3⟩:=h;subst h1;subst h2;subst h3
   refine⟨fun b o k z=>?_,fun cs o k z=>?_,fun cs k z=>?_,fun H aM v=>?_⟩
   ·simp only[cI,hi,he]
   ·simp only[cI,hi,he]
   ·simp only[qm,hi,he,ik,iR]
   ·simp[aZ,sf,hi]
theorem CZ{t len n:Nat}{ag:Bool}(h:ja E t=some (len,ag,n)){b o:Nat}{k:IntKind}{z:Int}:cI E t (.b6 b o) (.int k z)=if 0<=z/\z<(len:Int)then some (.b6 b (o+z.toNat*n))else none:=(UC h).1 b o k z
theorem ZM{t len n:Nat}{ag:Bool}(h:ja E t=some (len,ag,n)){cs:List AV}{o:Nat}{k:IntKind}{z:Int}:cI E t (.eU cs o) (.int k z)=if 0<=z/\z<(len:Int)then some (.eU cs (o+z.toNat*n))else none:=(UC h).2.1 cs o k z
theorem Nn{t len n:Nat}{ag:Bool}(h:ja E t=some (len,ag,n)){cs:List AV}{k:IntKind}{z:Int}:qm E t (.agg cs) (.int k z)=if 0<=z/\z<(len:Int)then iR ag n cs (z.toNat*n)else none:=(UC h).2.2.1 cs k z
def eR(E:Env)(t:Nat):Option (Bool×Nat×Nat×List AV):=match E.ty t with
 |some {cS:=.slice e,..}=>(match E.ty e with
  |some ei=>(match ei.zero with
   |some z=>some (ei.isAgg,ei.size,ei.bytes,z)
   |none=>none)
  |none=>none)
 |_=>none
def jP:AV->Option Int
 |.aH=>some 0
 |.ef=>some 0
 |.aJ _ n=>some (n:Int)
 |.aI _ _ n _ _=>some (n:Int)
 |_=>none
theorem Ls:jP .aH=some 0:=rfl
theorem aix:jP .ef=some 0:=rfl
theorem WW{cs:List AV}{n:Nat}:jP (.aJ cs n)=some (n:Int):=rfl
theorem Ji{b o n e k:Nat}:jP (.aI b o n e k)=some (n:Int):=rfl
def aiw(x:Option Int):Option (AV×List (Nat×cG)):=match x with
 |some n=>some (.int .i64 n,[])
 |none=>none
theorem jU{n:Int}:aiw (some n)=some (.int .i64 n,[]):=rfl
theorem iB{t n rQ:Nat}{ag:Bool}{z:List AV}(h:eR E t=some (ag,n,rQ,z)):∃i e ei,E.ty t=some i/\i.cS=.slice e/\E.ty e=some ei/\ei.isAgg=ag/\ei.size=n/\ei.bytes=rQ/\ei.zero=some z:=by
 unfold eR at h;cases hi:E.ty t with
 |none=>rw[hi]at h;cases h
 |some i=>
  rw[hi]at h;obtain⟨cS,isAgg,size,bytes,zero,eQ⟩:=i;cases cS<;>first|(cases h;done)|skip
  rename_i e;simp only at h;cases he:E.ty e with
  |none=>rw[he]at h;cases h
  |some ei=>
   rw[he]at h;simp only at h;cases hz:ei.zero with
   |none=>rw[hz]at h;cases h
   |some z'=>
    rw[hz]at h;simp only[aLv.injEq,Prod.mk.injEq]at h;exact⟨_,e,ei,rfl,rfl,he,h.1,h.2.1,h.2.2.1,by rw[hz,h.2.2.2]⟩
theorem kQ{t n rQ:Nat}{ag:Bool}{z:List AV}(h:eR E t=some (ag,n,rQ,z)){H:Hp}{aM:Nat}{v:AV}:aZ E H aM .len [t] [v]=aiw (jP v):=by
 obtain⟨i,e,ei,h1,h2,_⟩:=iB h;obtain⟨cS,isAgg,size,bytes,zero,eQ⟩:=i;simp only at h2;subst h2;cases v<;>simp[aZ,sf,h1,jP,aiw]
theorem mQ{t n rQ:Nat}{ag:Bool}{z:List AV}(h:eR E t=some (ag,n,rQ,z)){cs:List AV}{m:Nat}{k:IntKind}{x:Int}:cI E t (.aJ cs m) (.int k x)=if 0<=x/\x<(m:Int)then some (.eU cs (x.toNat*n))else none:=by obtain⟨i,e,ei,h1,h2,h3,h4,h5,_⟩:=iB h;simp only[cI,h1,h2,h3,h5]
theorem ow{t n rQ:Nat}{ag:Bool}{z:List AV}(h:eR E t=some (ag,n,rQ,z)){b o m kc:Nat}{k:IntKind}{x:Int}:cI E t (.aI b o m n kc) (.int k x)=if 0<=x/\x<(m:Int)then some (.b6 b (o+x.toNat*n))else none:=by obtain⟨i,e,ei,h1,h2,h3,h4,h5,_⟩:=iB h;simp only[cI,h1,h2,h3,h5,true_and]
theorem PA{t n rQ:Nat}{ag:Bool}{z:List AV}(h:eR E t=some (ag,n,rQ,z))(hz:z.length=n)(hn:0<n){aM m:Nat}{k k':IntKind}(hm:m*rQ<=gq)(FG:m<=4611686018427387904):
  fL E aM t (.int k (m:Int)) (.int k' (m:Int))=some (.aI aM 0 m n m,[(aM,.cells .live (iG z m))]):=by
 obtain⟨i,e,ei,h1,h2,h3,h4,h5,h6,h7⟩:=iB h;obtain⟨cS,isAgg,size,bytes,zero,eQ⟩:=i;simp only at h2;subst h2;simp only[fL,h1,h3,h7,h5,h6];rw[if_pos ⟨by omega,Int.le_refl _,by simpa using hm,by omega,hz,hn⟩]
 simp
def Ff(E:Env)(t:Nat):Option (List AV×List (Nat×Nat)):=match E.ty t with
 |some {cS:=.struct fields,zero:=some z,..}=>(dh (fun(f:Field)=>(E.ty f.type).map fun fi=>(f.offset,fi.size)) fields.toList).map fun l=>(z,l)
 |_=>none
def pQ(pl:List (Nat×Nat))(cells:List AV):List (Nat×AV)->Option (List AV)
 |[]=>some cells
 |(i,v)::rest=>
  match pl[i]? with
  |none=>none
  |some (off,size)=>if(v.cells.length==size&&decide (off+size<=cells.length))=true then pQ pl (cells.take off++v.cells++cells.drop (off+size)) rest else none
theorem RW{pl:List (Nat×Nat)}{cells:List AV}:pQ pl cells []=some cells:=rfl
def aeo(pl:List (Nat×Nat))(cells:List AV)(rest:List (Nat×AV))(v:AV)(x:Option (Nat×Nat)):Option (List AV):=match x with
 |none=>none
 |some (off,size)=>if(v.cells.length==size&&decide (off+size<=cells.length))=true then pQ pl (cells.take off++v.cells++cells.drop (off+size)) rest else none
theorem N6{pl:List (Nat×Nat)}{cells:List AV}{i:Nat}{v:AV}{rest:List (Nat×AV)}:pQ pl cells ((i,v)::rest)=aeo pl cells rest v pl[i]?:=by rw[pQ];rfl
theorem N5{pl:List (Nat×Nat)}{cells:List AV}{v:AV}{rest:List (Nat×AV)}{off size:Nat}:aeo pl cells rest v (some (off,size))=if(v.cells.length==size&&decide (off+size<=cells.length))=true then pQ pl (cells.take off++v.cells++cells.drop (off+size)) rest else none:=rfl
theorem Qv{place:Nat->Option (Nat×Nat)}{pl:List (Nat×Nat)}(h:∀i,place i=pl[i]?):∀(vs:List (Nat×AV)) (cells:List AV),hZ place cells vs=pQ pl cells vs
 |[],_=>rfl
 |(i,v)::rest,cells=>by
  rw[hZ,pQ,h i];cases pl[i]? with
  |none=>rfl
  |some p=>
   obtain⟨off,size⟩:=p;simp only;by_cases h1:v.cells.length=size<;>by_cases h2:off+size<=cells.length
   ·have h3:¬off+size>cells.length:=by omega
    simp[h1,h2,h3,Qv h rest]
   ·have h3:off+size>cells.length:=by omega
    simp[h1,h2,h3]
   ·simp[h1]
   ·simp[h1]
theorem LI{α β:Type}{f:α->Option β}:∀{l:List α} {r:List β},dh f l=some r->(∀i:Nat,(l[i]?).bind f=r[i]?)/\∀x∈l,(f x).isSome=true
 |[],r,h=>by cases h;exact⟨fun i=>by simp,fun x hx=>by cases hx⟩
 |x::xs,r,h=>by
  unfold dh at h;cases hx:f x with
  |none=>rw[hx]at h;cases h
  |some y=>
   rw[hx]at h;simp only at h;cases WI:dh f xs with
   |none=>rw[WI]at h;cases h
   |some ys=>
    rw[WI]at h;cases h;have ih:=LI WI;refine⟨fun i=>?_,fun z hz=>?_⟩
    ·cases i with
     |zero=>simp[hx]
     |succ i=>simpa using ih.1 i
    ·rcases List.mem_cons.1 hz with rfl|hz
     ·rw[hx];rfl
     ·exact ih.2 z hz
theorem BK{t:Nat}{z:List AV}{pl:List (Nat×Nat)}(h:Ff E t=some (z,pl)){vs:List (Nat×AV)}:iJ E t vs=(pQ pl z vs).map .agg:=by
 unfold Ff at h;cases hi:E.ty t with
 |none=>rw[hi]at h;cases h
 |some i=>
  rw[hi]at h;obtain⟨cS,isAgg,size,bytes,zero,eQ⟩:=i;cases cS<;>first|(cases h;done)|skip
  rename_i fs;cases zero with
  |none=>cases h
  |some z'=>
   simp only at h;cases hm:dh (fun(f:Field)=>(E.ty f.type).map fun fi=>(f.offset,fi.size)) fs.toList with
   |none=>rw[hm]at h;cases h
   |some l=>
    rw[hm]at h;simp only[aNj,aLv.injEq,Prod.mk.injEq]at h;obtain⟨h1,h2⟩:=h;subst h1;subst h2
    have hg:=LI hm;have tf:fs.toList.all (fun f=>(E.ty f.type).isSome)=true:=by
     rw[List.all_eq_true];intro f hf
     have:=hg.2 f hf
     simpa using this
    unfold iJ gQ;simp only[hi,tf,if_true,aOS];rw[Qv (pl:=l)];intro i
    have:=hg.1 i
    rw[<-this];cases hf:fs[i]? with
    |none=>simp[hf]
    |some f=>simp[hf]
def zi(E:Env)(t:Nat):Option (List AV×Nat):=match E.ty t with
 |some {cS:=.array _ e,zero:=some z,..}=>(E.ty e).map fun ei=>(z,ei.size)
 |_=>none
def Ed(s:Nat)(cells:List AV)(vs:List (Nat×AV)):Option (List AV):=hZ (fun i=>some (i*s,s)) cells vs
theorem RV{s:Nat}{cells:List AV}:Ed s cells []=some cells:=rfl
theorem N4{s:Nat}{cells:List AV}{i:Nat}{v:AV}{rest:List (Nat×AV)}:Ed s cells ((i,v)::rest)=if(v.cells.length==s&&decide (i*s+s<=cells.length))=true then Ed s (cells.take (i*s)++v.cells++cells.drop (i*s+s)) rest else none:=by
 unfold Ed;rw[hZ];simp only;by_cases h1:v.cells.length=s<;>by_cases h2:i*s+s<=cells.length
 ·have h3:¬i*s+s>cells.length:=by omega
  simp[h1,h2,h3]
 ·have h3:i*s+s>cells.length:=by omega
  simp[h1,h2,h3]
 ·simp[h1]
 ·simp[h1]
theorem UP{t s:Nat}{z:List AV}(h:zi E t=some (z,s)){vs:List (Nat×AV)}:iJ E t vs=(Ed s z vs).map .agg:=by
 unfold zi at h;cases hi:E.ty t with
 |none=>rw[hi]at h;cases h
 |some i=>
  rw[hi]at h;obtain⟨cS,isAgg,size,bytes,zero,eQ⟩:=i;cases cS<;>first|(cases h;done)|skip
  cases zero with
  |none=>cases h
  |some z'=>
   simp only at h;rename_i len e;cases he:E.ty e with
   |none=>rw[he]at h;cases h
   |some ei=>
    rw[he]at h;simp only[aNj,aLv.injEq,Prod.mk.injEq]at h;obtain⟨h1,h2⟩:=h;subst h1;subst h2
    unfold iJ gQ;simp only[hi,he,aNj,aOS];rfl
theorem ad5(C:Ctx E){t:Nat}{x}(h:zi E0 t=some x):zi E t=some x:=by unfold zi at h⊢;rw[C.ty];exact h
theorem Ax(C:Ctx E){t:Nat}{v:AV}(h:gX E0 t=some v):gX E t=some v:=by unfold gX at h⊢;rw[C.ty];exact h
theorem nM(C:Ctx E){t:Nat}{x}(h:gx E0 t=some x):gx E t=some x:=by unfold gx at h⊢;rw[C.ty];exact h
theorem qk(C:Ctx E){t f:Nat}{x}(h:iO E0 t f=some x):iO E t f=some x:=by unfold iO at h⊢;rw[C.ty];exact h
theorem Nj(C:Ctx E){t:Nat}{x}(h:ja E0 t=some x):ja E t=some x:=by unfold ja at h⊢;rw[C.ty];exact h
theorem Al(C:Ctx E){t:Nat}{x}(h:eR E0 t=some x):eR E t=some x:=by unfold eR at h⊢;rw[C.ty];exact h
theorem Cm(C:Ctx E){t:Nat}{x}(h:Ff E0 t=some x):Ff E t=some x:=by unfold Ff at h⊢;rw[C.ty];exact h
theorem arL(C:Ctx E){t:Nat}(h:tl E0 t=true):tl E t=true:=by unfold tl at h⊢;rw[C.ty];exact h
theorem cn(C:Ctx E){f:Nat}{b:Bool}(h:cg E0 f=b):cg E f=b:=by unfold cg at h⊢;rw[C.fn];exact h
theorem agG(C:Ctx E){f:Nat}{b:Bool}(h:vf E0 f=b):vf E f=b:=by unfold vf at h⊢;rw[C.fn];exact h
theorem fm(C:Ctx E){i n:Nat}{l:List (Nat×Nat)}(h:Xt i n=l):E.pairs i n=l:=by rw[C.pairs];exact h
theorem abL{t:Nat}(h:tl E t=true){H:Hp}{aM:Nat}{s:List UInt8}:aZ E H aM .len [t] [.str s]=some (.int .i64 s.length,[]):=by
 unfold tl at h;cases hi:E.ty t with
 |none=>rw[hi]at h;cases h
 |some i=>
  rw[hi]at h;obtain⟨cS,isAgg,size,bytes,zero,eQ⟩:=i;cases cS<;>first|(cases h;done)|simp[aZ,sf,hi]
theorem WN{t:Nat}(h:tl E t=true){s:List UInt8}{i:Nat}{c:UInt8}(hc:s[i]?=some c){k:IntKind}:qm E t (.str s) (.int k (i:Int))=some (.int .u8 c.toNat):=by
 unfold tl at h;cases hi:E.ty t with
 |none=>rw[hi]at h;cases h
 |some ti=>
  rw[hi]at h;obtain⟨cS,isAgg,size,bytes,zero,eQ⟩:=ti;cases cS<;>first|(cases h;done)|simp[qm,hi,hc]
theorem ajN{t:Nat}(h:tl E t=true){H:Hp}{s:List UInt8}{lo hi:Option AV}:AE E H t (.str s) lo hi=(gG s.length s.length lo hi).map fun x=>.str ((s.drop x.1).take (x.2-x.1)):=by
 unfold tl at h;cases zL:E.ty t with
 |none=>rw[zL]at h;cases h
 |some ti=>
  rw[zL]at h;obtain⟨cS,isAgg,size,bytes,zero,eQ⟩:=ti;cases cS<;>first|(cases h;done)|simp[AE,iM,zL]
end
theorem aat{ts:List AV}{s:ByteArray}:ch ts (.const (.string s))=some (.str s.data.toList):=rfl
theorem Ks{H:Hp}{cs:List AV}{o:Nat}:cellAt (H++[.cells .live cs]) H.length o=cs[o]?:=by
 rw[iT];simp
theorem Tq{H:Hp}{n:Nat}{xs cs:List AV}{o:Nat}:mY n xs (H++[.cells .live cs]) H.length o=if(xs.length==n&&(decide (o+n<=cs.length)&&xs.all b7))=true then some (.cells .live (dE cs o xs))else none:=by
 rw[kR];simp
theorem Hy{H:Hp}{x y:cG}:dP (H++[x]) H.length y=H++[y]:=by
 unfold dP
 simp
theorem eO{H:Hp}{y:cG}:dP H H.length y=H++[y]:=by
 unfold dP
 simp
theorem Rl{out:List Nat}{H:Hp}{j z:Nat}(hj:j<out.length):mY 1 [.int .u32 (z:Int)] (H++[.cells .live (cP out)]) H.length j=some (.cells .live (cP (out.set j z))):=by rw[Tq,xj hj,qd,if_pos];simp[b7];omega
theorem gW{out:List Nat}{j:Nat}(hj:j<out.length):(cP out)[j]?=some (.int .u32 ((out.getD j 0:Nat):Int)):=by simp[cP,List.getD,hj]
theorem Mb{n:Nat}:iG [.int .u32 0] n=cP (List.replicate n 0):=Re
def DJ:=eL (eL (And.intro @gJ @fw) (And.intro @ky @UX) (And.intro @mM @ZL) (And.intro @qJ @l8)) (eL (And.intro @qt @cR) (And.intro @k8 @fU) (And.intro @arF @afA) (And.intro @arE @arD)) (eL (And.intro @fV @E2) (And.intro @rP @mK) (And.intro @aat @aca) (And.intro @lH @RW)) (eL (And.intro @N6 @RV) (And.intro @N4 @N5) (And.intro @jU @WW) (And.intro @Ji (And.intro @Ls @aix)))
section
variable{E:Env} [C:Ctx E]
theorem CQ:eR E 58=some (false,1,4,[.int .u32 0]):=Al C (by kernel_rfl)
theorem afD{aM m:Nat}{k k':IntKind}(h:m<=100000000000):fL E aM 58 (.int k (m:Int)) (.int k' (m:Int))=some (.aI aM 0 m 1 m,[(aM,.cells .live (iG [.int .u32 0] m))]):=PA CQ rfl (by decide) (by unfold gq;omega) (by omega)
theorem jT:je E 154=some .u64:=CO C (by kernel_rfl)
theorem Xs:gx E 156=some (false,1):=nM C (by kernel_rfl)
theorem gU:je E 156=some .u32:=CO C (by kernel_rfl)
theorem ajs:E.pairs 5 10=[]:=fm C rfl
noncomputable def alW:=gu Tryz.f178
theorem anc:E0.fn 178=some {code:=alW,ntmps:=40,results:=[.tmp 4],pure:=false,eX:=false}:=by kernel_rfl
theorem apY:cg E 211=true:=cn C (by kernel_rfl)
theorem amh{st:Bool}{bl:List AV}{H:Hp}{k:AV->cJ->Prop}:iD E false st 211 bl H k=oI (cL E 211 bl H) fun r H2=>k r (.vK H2):=jx apY
theorem ajC:E.pairs 7 17=[]:=fm C rfl
noncomputable def alX:=gu Tryz.f180
theorem anf:E0.fn 180=fI alX 45 [.tmp 4]:=by kernel_rfl
theorem Zv:je E 2=some .i64:=CO C (by kernel_rfl)
theorem aji:E.pairs 2 14=[]:=fm C rfl
theorem ajn:E.pairs 3 18=[]:=fm C rfl
theorem ajr:E.pairs 4 26=[]:=fm C rfl
noncomputable def vY:=gu Tryz.f179
theorem ane:E0.fn 179=some {code:=vY,ntmps:=173,results:=[.tmp 4],pure:=false,eX:=false}:=by kernel_rfl
theorem apU:cg E 177=false:=cn C (by kernel_rfl)
theorem apV:cg E 178=true:=cn C (by kernel_rfl)
theorem ame{st:Bool}{bl:List AV}{H:Hp}{k:AV->cJ->Prop}:iD E false st 178 bl H k=oI (cL E 178 bl H) fun r H2=>k r (.vK H2):=jx apV
theorem apW:cg E 179=true:=cn C (by kernel_rfl)
theorem amf{st:Bool}{bl:List AV}{H:Hp}{k:AV->cJ->Prop}:iD E false st 179 bl H k=oI (cL E 179 bl H) fun r H2=>k r (.vK H2):=jx apW
noncomputable def alP:=gu Tryz.f143
theorem amZ:E0.fn 143=fI alP 79 [.tmp 4,.tmp 5]:=by kernel_rfl
theorem pI4:gx E 4=some (false,1):=nM C (by kernel_rfl)
theorem bo4:isBool E 4=true:=UN C (by kernel_rfl)
theorem ayK:gx E 58=some (false,1):=nM C (by kernel_rfl)
theorem aqN:gx E 60=some (true,2):=nM C (by kernel_rfl)
theorem azw:gX E 60=some (.agg [.bool false,.aH]):=Ax C (by kernel_rfl)
theorem aud{vs:List (Nat×AV)}:iJ E 60 vs=(pQ [(0,1),(1,1)] [.bool false,.aH] vs).map .agg:=BK (Cm C (by kernel_rfl))
theorem ag8:iO E 60 0=some (0,false,1):=qk C (by kernel_rfl)
theorem ag9:iO E 60 1=some (1,false,1):=qk C (by kernel_rfl)
theorem ajq:E.pairs 4 13=[]:=fm C rfl
theorem arf:E.pairs 6 8=[(1,4)]:=fm C rfl
theorem ari:E.pairs 7 5=[(1,2)]:=fm C rfl
noncomputable def alx:=gu Tryz.f103
theorem amG:E0.fn 103=fI alx 51 [.cell 4 60,.cell 5 60,.tmp 6]:=by kernel_rfl
theorem aq5:E.pairs 1 6=[]:=fm C rfl
noncomputable def aly:=gu Tryz.f104
theorem amH:E0.fn 104=fI aly 26 [.cell 4 60]:=by kernel_rfl
theorem kd3:je E 3=some .i64:=CO C (by kernel_rfl)
theorem st9:tl E 9=true:=arL C (by kernel_rfl)
theorem aqd{H:Hp}{aM:Nat}{s:List UInt8}:aZ E H aM .len [9] [.str s]=some (.int .i64 s.length,[]):=abL st9
theorem ay5{H:Hp}{s:List UInt8}{lo hi:Option AV}:AE E H 9 (.str s) lo hi=(gG s.length s.length lo hi).map fun x=>.str ((s.drop x.1).take (x.2-x.1)):=ajN st9
theorem Tk:eR E 54=some (false,1,16,[.str []]):=Al C (by kernel_rfl)
theorem ayf:cg E 91=false:=cn C (by kernel_rfl)
theorem ayg:cg E 92=false:=cn C (by kernel_rfl)
theorem ayh:cg E 93=true:=cn C (by kernel_rfl)
theorem aut{st:Bool}{bl:List AV}{H:Hp}{k:AV->cJ->Prop}:iD E false st 93 bl H k=oI (cL E 93 bl H) fun r H2=>k r (.vK H2):=jx ayh
theorem ayi:cg E 94=false:=cn C (by kernel_rfl)
noncomputable def c51:=gu Tryz.f51
theorem avm:E0.fn 51=fI c51 49 [.tmp 2]:=by kernel_rfl
theorem apQ:cg E 156=false:=cn C (by kernel_rfl)
theorem apR:cg E 157=false:=cn C (by kernel_rfl)
theorem apS:cg E 159=false:=cn C (by kernel_rfl)
noncomputable def FU:=gu Tryz.f119
theorem amQ:E0.fn 119=fI FU 71 [.cell 2 60,.tmp 3]:=by kernel_rfl
theorem aiW:gx E 62=some (true,4):=nM C (by kernel_rfl)
theorem azx:gX E 62=some (.agg [.bool false,.aH,.bool false,.aH]):=Ax C (by kernel_rfl)
theorem aue{vs:List (Nat×AV)}:iJ E 62 vs=(pQ [(0,2),(2,2)] [.bool false,.aH,.bool false,.aH] vs).map .agg:=BK (Cm C (by kernel_rfl))
noncomputable def c18:=gu Tryz.f18
theorem au2:E0.fn 18=fI c18 6 [.cell 2 62]:=by kernel_rfl
theorem ahb:iO E 62 1=some (2,true,2):=qk C (by kernel_rfl)
theorem aha:iO E 62 0=some (0,true,2):=qk C (by kernel_rfl)
theorem ara:E.pairs 3 9=[]:=fm C rfl
noncomputable def c19:=gu Tryz.f19
theorem au3:E0.fn 19=fI c19 16 [.tmp 2]:=by kernel_rfl
noncomputable def c38:=gu Tryz.f38
theorem avf:E0.fn 38=fI c38 6 [.tmp 2]:=by kernel_rfl
noncomputable def c39:=gu Tryz.f39
theorem avg:E0.fn 39=fI c39 8 [.cell 2 62,.tmp 3]:=by kernel_rfl
theorem ajb:E.pairs 1 12=[(4,8),(4,9)]:=fm C rfl
noncomputable def c50:=gu Tryz.f50
theorem avl:E0.fn 50=fI c50 14 [.tmp 2]:=by kernel_rfl
noncomputable def c52:=gu Tryz.f52
theorem avn:E0.fn 52=fI c52 8 [.tmp 2,.tmp 3]:=by kernel_rfl
theorem ajl:E.pairs 3 13=[]:=fm C rfl
noncomputable def c64:=gu Tryz.f64
theorem avA:E0.fn 64=fI c64 21 [.cell 4 62,.tmp 5]:=by kernel_rfl
theorem ajk:E.pairs 3 12=[]:=fm C rfl
noncomputable def c67:=gu Tryz.f67
theorem avD:E0.fn 67=fI c67 28 [.cell 4 62]:=by kernel_rfl
theorem vo:eR E 118=some (true,4,64,[.bool false,.aH,.bool false,.aH]):=Al C (by kernel_rfl)
theorem yP{aM m:Nat}{k k':IntKind}(h:m<=100000000000):fL E aM 118 (.int k (m:Int)) (.int k' (m:Int))=some (.aI aM 0 m 4 m,[(aM,.cells .live (iG [.bool false,.aH,.bool false,.aH] m))]):=PA vo rfl (by decide) (by unfold gq;omega) (by omega)
theorem apK:cg E 114=false:=cn C (by kernel_rfl)
noncomputable def c74:=gu Tryz.f74
theorem avJ:E0.fn 74=fI c74 17 [.cell 2 62]:=by kernel_rfl
theorem apL:cg E 117=false:=cn C (by kernel_rfl)
theorem apM:cg E 118=false:=cn C (by kernel_rfl)
theorem ack:E.pairs 15 16=[]:=fm C rfl
noncomputable def c76:=gu Tryz.f76
theorem avK:E0.fn 76=fI c76 85 [.cell 4 62,.tmp 5]:=by kernel_rfl
theorem JD:eR E 25=some (false,1,16,[.str []]):=Al C (by kernel_rfl)
theorem arI{aM m:Nat}{k k':IntKind}(h:m<=100000000000):fL E aM 25 (.int k (m:Int)) (.int k' (m:Int))=some (.aI aM 0 m 1 m,[(aM,.cells .live (iG [.str []] m))]):=PA JD rfl (by decide) (by unfold gq;omega) (by omega)
theorem aiV:gx E 26=some (false,1):=nM C (by kernel_rfl)
noncomputable def c82:=gu Tryz.f82
theorem avP:E0.fn 82=some {code:=c82,ntmps:=23,results:=[.tmp 2],pure:=false,eX:=false}:=by kernel_rfl
noncomputable def c89:=gu Tryz.f89
theorem avS:E0.fn 89=fI c89 2 [.cell 0 60]:=by kernel_rfl
noncomputable def c95:=gu Tryz.f95
theorem avW:E0.fn 95=fI c95 34 [.tmp 4,.tmp 5]:=by kernel_rfl
noncomputable def alw:=gu Tryz.f102
theorem amF:E0.fn 102=fI alw 27 [.tmp 4]:=by kernel_rfl
noncomputable def alz:=gu Tryz.f105
theorem amI:E0.fn 105=fI alz 10 [.cell 2 60]:=by kernel_rfl
noncomputable def alA:=gu Tryz.f107
theorem amJ:E0.fn 107=fI alA 13 [.cell 4 62,.tmp 5]:=by kernel_rfl
noncomputable def alB:=gu Tryz.f108
theorem amK:E0.fn 108=fI alB 5 [.cell 2 60]:=by kernel_rfl
theorem aq7:E.pairs 2 6=[]:=fm C rfl
theorem arb:E.pairs 4 4=[]:=fm C rfl
noncomputable def agt:=gu Tryz.f109
theorem aep:E0.fn 109=fI agt 37 [.cell 4 62]:=by kernel_rfl
theorem aq4:E.pairs 1 5=[]:=fm C rfl
noncomputable def alD:=gu Tryz.f111
theorem amM:E0.fn 111=fI alD 9 [.cell 4 62]:=by kernel_rfl
noncomputable def alE:=gu Tryz.f114
theorem amN:E0.fn 114=fI alE 34 [.cell 4 62]:=by kernel_rfl
noncomputable def alG:=gu Tryz.f116
theorem amP:E0.fn 116=fI alG 10 [.tmp 2]:=by kernel_rfl
theorem aq6:E.pairs 1 7=[]:=fm C rfl
noncomputable def alN:=gu Tryz.f137
theorem amX:E0.fn 137=fI alN 9 [.cell 2 62]:=by kernel_rfl
theorem aiX:gx E 72=some (true,12):=nM C (by kernel_rfl)
theorem auf{vs:List (Nat×AV)}:iJ E 72 vs=(Ed 4 [.bool false,.aH,.bool false,.aH,.bool false,.aH,.bool false,.aH,.bool false,.aH,.bool false,.aH] vs).map .agg:=UP (ad5 C (by kernel_rfl))
noncomputable def c28:=gu Tryz.f28
theorem au8:E0.fn 28=fI c28 7 [.tmp 2]:=by kernel_rfl
theorem aqL:gx E 37=some (true,3):=nM C (by kernel_rfl)
theorem azu:gX E 37=some (.agg [.str [],.str [],.str []]):=Ax C (by kernel_rfl)
theorem alc:ja E 37=some (3,false,1):=Nj C (by kernel_rfl)
theorem ZJ:ja E 72=some (3,true,4):=Nj C (by kernel_rfl)
noncomputable def c32:=gu Tryz.f32
theorem avb:E0.fn 32=fI c32 17 [.cell 2 37]:=by kernel_rfl
theorem azy:gX E 72=some (.agg [.bool false,.aH,.bool false,.aH,.bool false,.aH,.bool false,.aH,.bool false,.aH,.bool false,.aH]):=Ax C (by kernel_rfl)
noncomputable def c35:=gu Tryz.f35
theorem avd:E0.fn 35=fI c35 8 [.cell 2 72,.tmp 3]:=by kernel_rfl
noncomputable def c37:=gu Tryz.f37
theorem ave:E0.fn 37=fI c37 11 [.cell 4 62]:=by kernel_rfl
theorem ard:E.pairs 4 8=[]:=fm C rfl
noncomputable def c59:=gu Tryz.f59
theorem avv:E0.fn 59=fI c59 21 [.tmp 4]:=by kernel_rfl
theorem ajB:E.pairs 7 15=[(0,10),(1,10),(2,10),(3,10),(4,10),(5,10),(0,11),(1,11),(2,11),(3,11),(4,11),(5,11),(10,11)]:=fm C rfl
theorem arj:E.pairs 8 5=[]:=fm C rfl
theorem ai3:E.pairs 10 9=[(0,6),(1,6),(2,6)]:=fm C rfl
theorem ai7:E.pairs 16 5=[]:=fm C rfl
theorem ai8:E.pairs 18 9=[(0,6),(1,6),(2,6)]:=fm C rfl
noncomputable def c63:=gu Tryz.f63
theorem avz:E0.fn 63=fI c63 67 [.cell 2 72,.tmp 3]:=by kernel_rfl
noncomputable def c65:=gu Tryz.f65
theorem avB:E0.fn 65=fI c65 9 [.cell 4 72]:=by kernel_rfl
theorem aye:cg E 67=false:=cn C (by kernel_rfl)
theorem apJ:cg E 111=false:=cn C (by kernel_rfl)
theorem ajz:E.pairs 6 18=[]:=fm C rfl
noncomputable def c66:=gu Tryz.f66
theorem avC:E0.fn 66=fI c66 37 [.cell 4 72]:=by kernel_rfl
theorem aqH:gx E 139=some (true,3):=nM C (by kernel_rfl)
theorem ad3:ja E 139=some (3,false,1):=Nj C (by kernel_rfl)
noncomputable def c68:=gu Tryz.f68
theorem avE:E0.fn 68=fI c68 17 [.cell 2 72]:=by kernel_rfl
noncomputable def c69:=gu Tryz.f69
theorem avF:E0.fn 69=fI c69 6 [.cell 2 72]:=by kernel_rfl
noncomputable def c72:=gu Tryz.f72
theorem avH:E0.fn 72=fI c72 31 [.cell 4 72,.tmp 5]:=by kernel_rfl
theorem ajt:E.pairs 5 11=[]:=fm C rfl
noncomputable def c73:=gu Tryz.f73
theorem avI:E0.fn 73=fI c73 24 [.cell 6 72]:=by kernel_rfl
noncomputable def c81:=gu Tryz.f81
theorem avO:E0.fn 81=fI c81 19 [.tmp 4]:=by kernel_rfl
noncomputable def c85:=gu Tryz.f85
theorem avR:E0.fn 85=fI c85 8 [.cell 4 72]:=by kernel_rfl
noncomputable def alC:=gu Tryz.f110
theorem amL:E0.fn 110=fI alC 9 [.cell 5 62]:=by kernel_rfl
noncomputable def c16:=gu Tryz.f16
theorem pI3:gx E 3=some (false,1):=nM C (by kernel_rfl)
theorem aiY:gx E 74=some (true,24):=nM C (by kernel_rfl)
theorem azz:gX E 74=some (.agg [.bool false,.aH,.bool false,.aH,.bool false,.aH,.bool false,.aH,.bool false,.aH,.bool false,.aH,.bool false,.aH,.bool false,.aH,.bool false,.aH,.bool false,.aH,.bool false,.aH,.bool false,.aH]):=Ax C (by kernel_rfl)
theorem aug{vs:List (Nat×AV)}:iJ E 74 vs=(pQ [(0,12),(12,12)] [.bool false,.aH,.bool false,.aH,.bool false,.aH,.bool false,.aH,.bool false,.aH,.bool false,.aH,.bool false,.aH,.bool false,.aH,.bool false,.aH,.bool false,.aH,.bool false,.aH,.bool false,.aH] vs).map .agg:=BK (Cm C (by kernel_rfl))
theorem aiZ:gx E 78=some (true,6):=nM C (by kernel_rfl)
noncomputable def c23:=gu Tryz.f23
theorem au5:E0.fn 23=fI c23 17 [.cell 2 74,.tmp 3]:=by kernel_rfl
theorem Vx:iO E 74 1=some (12,true,12):=qk C (by kernel_rfl)
theorem Vw:iO E 74 0=some (0,true,12):=qk C (by kernel_rfl)
theorem aqP:gx E 86=some (true,29):=nM C (by kernel_rfl)
theorem azB:gX E 86=some (.agg [.int .i64 0,.bool false,.aH,.bool false,.aH,.bool false,.aH,.bool false,.aH,.bool false,.aH,.bool false,.aH,.bool false,.aH,.bool false,.aH,.bool false,.aH,.bool false,.aH,.bool false,.aH,.bool false,.aH,.bool false,.aH,.bool false,.aH]):=Ax C (by kernel_rfl)
theorem auh{vs:List (Nat×AV)}:iJ E 86 vs=(pQ [(0,1),(1,12),(13,12),(25,4)] [.int .i64 0,.bool false,.aH,.bool false,.aH,.bool false,.aH,.bool false,.aH,.bool false,.aH,.bool false,.aH,.bool false,.aH,.bool false,.aH,.bool false,.aH,.bool false,.aH,.bool false,.aH,.bool false,.aH,.bool false,.aH,.bool false,.aH] vs).map .agg:=BK (Cm C (by kernel_rfl))
theorem ahf:iO E 86 3=some (25,true,4):=qk C (by kernel_rfl)
theorem ahc:iO E 86 0=some (0,false,1):=qk C (by kernel_rfl)
theorem ajA:E.pairs 7 13=[(0,10),(2,10),(4,10),(5,10),(6,10)]:=fm C rfl
theorem ajD:E.pairs 8 11=[(0,9),(2,9),(4,9),(5,9),(6,9),(7,9)]:=fm C rfl
theorem ark:E.pairs 9 9=[(0,6),(1,6),(2,6)]:=fm C rfl
noncomputable def c30:=gu Tryz.f30
theorem anq:E0.fn 30=fI c30 63 [.cell 2 86]:=by kernel_rfl
theorem azA:gX E 78=some (.agg [.str [],.str [],.str [],.str [],.str [],.str []]):=Ax C (by kernel_rfl)
theorem ap2:cg E 82=true:=cn C (by kernel_rfl)
theorem auQ:vf E 82=false:=agG C (by kernel_rfl)
theorem aus{st:Bool}{bl:List AV}{H:Hp}{k:AV->cJ->Prop}:iD E false st 82 bl H k=oI (cL E 82 bl H) fun r H2=>k r (.vK H2):=jx ap2
theorem auI{bl:List AV}{H:Hp}{k:AV->cJ->Prop}:iD E true true 82 bl H k=oI (cL E 82 bl H) fun r H2=>pK (!oO H H2) False (k r (.vK H2)):=Il ap2 auQ
noncomputable def c41:=gu Tryz.f41
theorem avh:E0.fn 41=fI c41 11 [.cell 2 78]:=by kernel_rfl
theorem atW:ja E 77=some (6,false,1):=Nj C (by kernel_rfl)
theorem aq9:E.pairs 3 6=[(1,3)]:=fm C rfl
theorem ajo:E.pairs 4 11=[(3,9),(4,9),(5,9),(6,9),(7,9),(7,8)]:=fm C rfl
noncomputable def c57:=gu Tryz.f57
theorem avt:E0.fn 57=fI c57 24 [.cell 2 72,.cell 3 72,.tmp 4]:=by kernel_rfl
noncomputable def c62:=gu Tryz.f62
theorem avy:E0.fn 62=fI c62 11 [.tmp 2]:=by kernel_rfl
noncomputable def c77:=gu Tryz.f77
theorem avL:E0.fn 77=fI c77 10 [.cell 4 74]:=by kernel_rfl
noncomputable def c78:=gu Tryz.f78
theorem avM:E0.fn 78=fI c78 5 [.cell 2 74]:=by kernel_rfl
noncomputable def c79:=gu Tryz.f79
theorem avN:E0.fn 79=fI c79 16 [.cell 4 74]:=by kernel_rfl
theorem ajv:E.pairs 5 15=[(10,12)]:=fm C rfl
noncomputable def c83:=gu Tryz.f83
theorem avQ:E0.fn 83=fI c83 26 [.tmp 4]:=by kernel_rfl
theorem ac1:eR E 91=some (false,1,8,[.int .i64 0]):=Al C (by kernel_rfl)
theorem Xr:gx E 118=some (false,1):=nM C (by kernel_rfl)
theorem xb:eR E 216=some (false,1,24,[.aH]):=Al C (by kernel_rfl)
theorem ac5{cs:List AV}{m:Nat}{k:IntKind}{x:Int}:cI E 216 (.aJ cs m) (.int k x)=if 0<=x/\x<(m:Int)then some (.eU cs (x.toNat*1))else none:=mQ xb
theorem apT:cg E 172=true:=cn C (by kernel_rfl)
theorem amd{st:Bool}{bl:List AV}{H:Hp}{k:AV->cJ->Prop}:iD E false st 172 bl H k=oI (cL E 172 bl H) fun r H2=>k r (.vK H2):=jx apT
noncomputable def alO:=gu Tryz.f139
theorem amY:E0.fn 139=fI alO 41 [.tmp 2,.tmp 3,.tmp 4]:=by kernel_rfl
theorem By:eR E 65=some (false,1,24,[.aH]):=Al C (by kernel_rfl)
noncomputable def alS:=gu Tryz.f169
theorem am8:E0.fn 169=fI alS 25 [.tmp 2]:=by kernel_rfl
theorem apX:cg E 198=true:=cn C (by kernel_rfl)
theorem amg{st:Bool}{bl:List AV}{H:Hp}{k:AV->cJ->Prop}:iD E false st 198 bl H k=oI (cL E 198 bl H) fun r H2=>k r (.vK H2):=jx apX
theorem ach:E.pairs 13 16=[]:=fm C rfl
theorem acj:E.pairs 15 10=[]:=fm C rfl
theorem acm:E.pairs 16 16=[]:=fm C rfl
theorem acp:E.pairs 21 20=[]:=fm C rfl
theorem ajf:E.pairs 24 6=[]:=fm C rfl
noncomputable def alT:=gu Tryz.f170
theorem am9:E0.fn 170=fI alT 142 [.tmp 4,.tmp 5,.cell 6 62]:=by kernel_rfl
noncomputable def alU:=gu Tryz.f171
theorem ana:E0.fn 171=fI alU 10 [.tmp 2]:=by kernel_rfl
noncomputable def alZ:=gu Tryz.f198
theorem anh:E0.fn 198=some {code:=alZ,ntmps:=8,results:=[.tmp 2],pure:=false,eX:=true}:=by kernel_rfl
noncomputable def al0:=gu Tryz.f199
theorem ani:E0.fn 199=fI al0 9 [.tmp 4]:=by kernel_rfl
noncomputable def al1:=gu Tryz.f200
theorem ank:E0.fn 200=fI al1 11 [.tmp 6]:=by kernel_rfl
theorem aju:E.pairs 5 14=[]:=fm C rfl
noncomputable def al4:=gu Tryz.f230
theorem anm:E0.fn 230=fI al4 32 [.tmp 6]:=by kernel_rfl
noncomputable def al5:=gu Tryz.f231
theorem ann:E0.fn 231=fI al5 15 [.cell 5 62]:=by kernel_rfl
noncomputable def al6:=gu Tryz.f232
theorem ano:E0.fn 232=fI al6 15 [.cell 5 62]:=by kernel_rfl
noncomputable def alV:=gu Tryz.f172
theorem anb:E0.fn 172=some {code:=alV,ntmps:=8,results:=[.tmp 2],pure:=false,eX:=true}:=by kernel_rfl
theorem aqK:gx E 31=some (true,3):=nM C (by kernel_rfl)
theorem azt:gX E 31=some (.agg [.int .i64 0,.aH,.aH]):=Ax C (by kernel_rfl)
theorem aua{vs:List (Nat×AV)}:iJ E 31 vs=(pQ [(0,1),(1,1),(2,1)] [.int .i64 0,.aH,.aH] vs).map .agg:=BK (Cm C (by kernel_rfl))
theorem ayd:cg E 21=true:=cn C (by kernel_rfl)
theorem aup{st:Bool}{bl:List AV}{H:Hp}{k:AV->cJ->Prop}:iD E false st 21 bl H k=oI (cL E 21 bl H) fun r H2=>k r (.vK H2):=jx ayd
noncomputable def c7:=gu Tryz.f7
theorem fn7:E0.fn 7=some {code:=c7,ntmps:=44,results:=[.cell 6 31,.tmp 7],pure:=false,eX:=false}:=by kernel_rfl
noncomputable def c8:=gu Tryz.f8
theorem fn8:E0.fn 8=fI c8 11 [.tmp 2]:=by kernel_rfl
theorem Ak:eR E 24=some (false,1,24,[.aH]):=Al C (by kernel_rfl)
theorem aqJ:gx E 25=some (false,1):=nM C (by kernel_rfl)
noncomputable def c20:=gu Tryz.f20
theorem anj:E0.fn 20=fI c20 41 [.tmp 6,.tmp 7]:=by kernel_rfl
theorem aqI:gx E 24=some (false,1):=nM C (by kernel_rfl)
theorem ag1:iO E 31 2=some (2,false,1):=qk C (by kernel_rfl)
theorem ag0:iO E 31 1=some (1,false,1):=qk C (by kernel_rfl)
theorem ap0:cg E 53=true:=cn C (by kernel_rfl)
theorem auO:vf E 53=false:=agG C (by kernel_rfl)
theorem auq{st:Bool}{bl:List AV}{H:Hp}{k:AV->cJ->Prop}:iD E false st 53 bl H k=oI (cL E 53 bl H) fun r H2=>k r (.vK H2):=jx ap0
theorem auG{bl:List AV}{H:Hp}{k:AV->cJ->Prop}:iD E true true 53 bl H k=oI (cL E 53 bl H) fun r H2=>pK (!oO H H2) False (k r (.vK H2)):=Il ap0 auO
theorem ajp:E.pairs 4 12=[]:=fm C rfl
noncomputable def c21:=gu Tryz.f21
theorem au4:E0.fn 21=some {code:=c21,ntmps:=31,results:=[.cell 6 31,.tmp 7],pure:=false,eX:=false}:=by kernel_rfl
theorem agZ:iO E 31 0=some (0,false,1):=qk C (by kernel_rfl)
theorem ap1:cg E 56=true:=cn C (by kernel_rfl)
theorem auP:vf E 56=false:=agG C (by kernel_rfl)
theorem aur{st:Bool}{bl:List AV}{H:Hp}{k:AV->cJ->Prop}:iD E false st 56 bl H k=oI (cL E 56 bl H) fun r H2=>k r (.vK H2):=jx ap1
theorem auH{bl:List AV}{H:Hp}{k:AV->cJ->Prop}:iD E true true 56 bl H k=oI (cL E 56 bl H) fun r H2=>pK (!oO H H2) False (k r (.vK H2)):=Il ap1 auP
theorem acg:E.pairs 12 12=[]:=fm C rfl
noncomputable def c22:=gu Tryz.f22
theorem aaA:E0.fn 22=fI c22 67 [.cell 2 31,.tmp 3]:=by kernel_rfl
noncomputable def c53:=gu Tryz.f53
theorem avo:E0.fn 53=some {code:=c53,ntmps:=19,results:=[.cell 6 31,.tmp 7],pure:=false,eX:=false}:=by kernel_rfl
noncomputable def c54:=gu Tryz.f54
theorem avp:E0.fn 54=fI c54 25 [.tmp 2]:=by kernel_rfl
noncomputable def c55:=gu Tryz.f55
theorem avq:E0.fn 55=fI c55 27 [.tmp 4]:=by kernel_rfl
theorem ayj:cg E 98=true:=cn C (by kernel_rfl)
theorem auu{st:Bool}{bl:List AV}{H:Hp}{k:AV->cJ->Prop}:iD E false st 98 bl H k=oI (cL E 98 bl H) fun r H2=>k r (.vK H2):=jx ayj
theorem ayk:cg E 99=true:=cn C (by kernel_rfl)
theorem auv{st:Bool}{bl:List AV}{H:Hp}{k:AV->cJ->Prop}:iD E false st 99 bl H k=oI (cL E 99 bl H) fun r H2=>k r (.vK H2):=jx ayk
theorem apI:cg E 101=true:=cn C (by kernel_rfl)
theorem al9{st:Bool}{bl:List AV}{H:Hp}{k:AV->cJ->Prop}:iD E false st 101 bl H k=oI (cL E 101 bl H) fun r H2=>k r (.vK H2):=jx apI
noncomputable def c56:=gu Tryz.f56
theorem avr:E0.fn 56=some {code:=c56,ntmps:=41,results:=[.cell 6 31],pure:=false,eX:=false}:=by kernel_rfl
noncomputable def c96:=gu Tryz.f96
theorem avX:E0.fn 96=fI c96 8 [.tmp 4]:=by kernel_rfl
noncomputable def c97:=gu Tryz.f97
theorem avY:E0.fn 97=fI c97 8 [.tmp 4]:=by kernel_rfl
theorem aqO:gx E 65=some (false,1):=nM C (by kernel_rfl)
theorem aln{vs:List (Nat×AV)}:iJ E 203 vs=(pQ [(0,1),(1,1),(2,1)] [.aH,.aH,.int .i64 0] vs).map .agg:=BK (Cm C (by kernel_rfl))
theorem aav:iO E 203 0=some (0,false,1):=qk C (by kernel_rfl)
noncomputable def c98:=gu Tryz.f98
theorem avZ:E0.fn 98=some {code:=c98,ntmps:=30,results:=[.tmp 2],pure:=false,eX:=false}:=by kernel_rfl
theorem afm:gx E 201=some (false,1):=nM C (by kernel_rfl)
theorem Ft:eR E 201=some (true,17,152,[.aH,.int .u64 0,.int .u64 0,.int .u64 0,.int .u64 0,.int .u64 0,.int .u64 0,.int .u64 0,.int .u64 0,.int .u64 0,.int .u64 0,.int .u64 0,.int .u64 0,.int .u64 0,.int .u64 0,.int .u64 0,.int .u64 0]):=Al C (by kernel_rfl)
theorem aaw:iO E 203 1=some (1,false,1):=qk C (by kernel_rfl)
theorem aax:iO E 203 2=some (2,false,1):=qk C (by kernel_rfl)
theorem afn:gx E 211=some (true,17):=nM C (by kernel_rfl)
theorem asp:gX E 211=some (.agg [.aH,.int .u64 0,.int .u64 0,.int .u64 0,.int .u64 0,.int .u64 0,.int .u64 0,.int .u64 0,.int .u64 0,.int .u64 0,.int .u64 0,.int .u64 0,.int .u64 0,.int .u64 0,.int .u64 0,.int .u64 0,.int .u64 0]):=Ax C (by kernel_rfl)
theorem alo{vs:List (Nat×AV)}:iJ E 211 vs=(pQ [(0,1),(1,16)] [.aH,.int .u64 0,.int .u64 0,.int .u64 0,.int .u64 0,.int .u64 0,.int .u64 0,.int .u64 0,.int .u64 0,.int .u64 0,.int .u64 0,.int .u64 0,.int .u64 0,.int .u64 0,.int .u64 0,.int .u64 0,.int .u64 0] vs).map .agg:=BK (Cm C (by kernel_rfl))
theorem aay:iO E 211 0=some (0,false,1):=qk C (by kernel_rfl)
theorem aaz:iO E 211 1=some (1,true,16):=qk C (by kernel_rfl)
theorem apN:cg E 132=true:=cn C (by kernel_rfl)
theorem ama{st:Bool}{bl:List AV}{H:Hp}{k:AV->cJ->Prop}:iD E false st 132 bl H k=oI (cL E 132 bl H) fun r H2=>k r (.vK H2):=jx apN
theorem apO:cg E 133=true:=cn C (by kernel_rfl)
theorem amb{st:Bool}{bl:List AV}{H:Hp}{k:AV->cJ->Prop}:iD E false st 133 bl H k=oI (cL E 133 bl H) fun r H2=>k r (.vK H2):=jx apO
noncomputable def c99:=gu Tryz.f99
theorem ahg:E0.fn 99=some {code:=c99,ntmps:=152,results:=[],pure:=false,eX:=false}:=by kernel_rfl
noncomputable def alu:=gu Tryz.f100
theorem amD:E0.fn 100=fI alu 23 [.tmp 2]:=by kernel_rfl
theorem apP:cg E 141=true:=cn C (by kernel_rfl)
theorem amc{st:Bool}{bl:List AV}{H:Hp}{k:AV->cJ->Prop}:iD E false st 141 bl H k=oI (cL E 141 bl H) fun r H2=>k r (.vK H2):=jx apP
theorem acn:E.pairs 17 13=[]:=fm C rfl
theorem ajg:E.pairs 28 8=[(1,4)]:=fm C rfl
noncomputable def alv:=gu Tryz.f101
theorem amE:E0.fn 101=some {code:=alv,ntmps:=109,results:=[.cell 4 31],pure:=false,eX:=false}:=by kernel_rfl
noncomputable def alH:=gu Tryz.f130
theorem amR:E0.fn 130=fI alH 9 [.tmp 3]:=by kernel_rfl
theorem ajx:E.pairs 6 12=[]:=fm C rfl
noncomputable def alI:=gu Tryz.f131
theorem amS:E0.fn 131=fI alI 40 [.cell 4 62]:=by kernel_rfl
theorem asn:gX E 118=some (.aH):=Ax C (by kernel_rfl)
theorem arc:E.pairs 4 6=[]:=fm C rfl
theorem acs:E.pairs 27 11=[(4,6)]:=fm C rfl
noncomputable def alJ:=gu Tryz.f132
theorem amT:E0.fn 132=some {code:=alJ,ntmps:=108,results:=[],pure:=false,eX:=false}:=by kernel_rfl
theorem afl:gx E 154=some (false,1):=nM C (by kernel_rfl)
theorem alb:ja E 209=some (16,false,1):=Nj C (by kernel_rfl)
theorem ai2:E.pairs 0 13=[]:=fm C rfl
noncomputable def alK:=gu Tryz.f133
theorem amU:E0.fn 133=some {code:=alK,ntmps:=16,results:=[],pure:=false,eX:=false}:=by kernel_rfl
theorem are:E.pairs 5 6=[(0,4),(1,4),(2,4),(3,4)]:=fm C rfl
theorem ajy:E.pairs 6 13=[(0,8),(1,8),(2,8),(3,8),(0,9),(1,9),(2,9),(3,9),(8,9)]:=fm C rfl
theorem aci:E.pairs 14 10=[]:=fm C rfl
theorem ai6:E.pairs 15 8=[]:=fm C rfl
theorem ai9:E.pairs 19 7=[]:=fm C rfl
theorem acr:E.pairs 23 10=[]:=fm C rfl
noncomputable def alL:=gu Tryz.f135
theorem amV:E0.fn 135=fI alL 97 [.tmp 2]:=by kernel_rfl
theorem ajw:E.pairs 5 17=[]:=fm C rfl
noncomputable def alM:=gu Tryz.f136
theorem amW:E0.fn 136=fI alM 37 [.tmp 8]:=by kernel_rfl
theorem aja:E.pairs 1 11=[(0,8),(2,8),(3,8),(4,8)]:=fm C rfl
theorem aq8:E.pairs 2 7=[]:=fm C rfl
noncomputable def alR:=gu Tryz.f167
theorem am7:E0.fn 167=fI alR 22 [.tmp 5]:=by kernel_rfl
theorem aqM:gx E 39=some (true,10):=nM C (by kernel_rfl)
theorem azv:gX E 39=some (.agg [.int .i64 0,.int .i64 0,.bool false,.str [],.str [],.str [],.str [],.str [],.str [],.str []]):=Ax C (by kernel_rfl)
theorem auc{vs:List (Nat×AV)}:iJ E 39 vs=(pQ [(0,1),(1,1),(2,1),(3,3),(6,3),(9,1)] [.int .i64 0,.int .i64 0,.bool false,.str [],.str [],.str [],.str [],.str [],.str [],.str []] vs).map .agg:=BK (Cm C (by kernel_rfl))
theorem ag4:iO E 39 2=some (2,false,1):=qk C (by kernel_rfl)
theorem ag2:iO E 39 0=some (0,false,1):=qk C (by kernel_rfl)
theorem ag3:iO E 39 1=some (1,false,1):=qk C (by kernel_rfl)
theorem uo:eR E 70=some (true,24,384,[.bool false,.aH,.bool false,.aH,.bool false,.aH,.bool false,.aH,.bool false,.aH,.bool false,.aH,.bool false,.aH,.bool false,.aH,.bool false,.aH,.bool false,.aH,.bool false,.aH,.bool false,.aH]):=Al C (by kernel_rfl)
theorem ayL:gx E 79=some (false,1):=nM C (by kernel_rfl)
theorem arC:eR E 80=some (false,1,8,[.jl]):=Al C (by kernel_rfl)
noncomputable def c9:=gu Tryz.f9
theorem fn9:E0.fn 9=fI c9 98 [.cell 2 39,.tmp 3]:=by kernel_rfl
theorem ac0:eR E 48=some (true,6,96,[.str [],.str [],.str [],.str [],.str [],.str []]):=Al C (by kernel_rfl)
theorem pI9:gx E 9=some (false,1):=nM C (by kernel_rfl)
theorem aqG:gx E 111=some (true,5):=nM C (by kernel_rfl)
theorem asm:gX E 111=some (.agg [.str [],.int .i64 0,.bool false,.bool false,.bool false]):=Ax C (by kernel_rfl)
theorem aau:iO E 111 0=some (0,false,1):=qk C (by kernel_rfl)
noncomputable def c14:=gu Tryz.f14
theorem au1:E0.fn 14=fI c14 15 [.tmp 2,.tmp 3]:=by kernel_rfl
theorem ag7:iO E 39 5=some (9,false,1):=qk C (by kernel_rfl)
theorem ag6:iO E 39 4=some (6,true,3):=qk C (by kernel_rfl)
theorem ag5:iO E 39 3=some (3,true,3):=qk C (by kernel_rfl)
noncomputable def c24:=gu Tryz.f24
theorem au6:E0.fn 24=fI c24 42 [.cell 2 39]:=by kernel_rfl
theorem ajh:E.pairs 2 10=[]:=fm C rfl
noncomputable def c25:=gu Tryz.f25
theorem au7:E0.fn 25=fI c25 21 [.cell 2 39]:=by kernel_rfl
noncomputable def c29:=gu Tryz.f29
theorem au9:E0.fn 29=fI c29 10 [.tmp 4]:=by kernel_rfl
theorem acf:E.pairs 11 12=[]:=fm C rfl
theorem ai5:E.pairs 13 9=[]:=fm C rfl
noncomputable def c40:=gu Tryz.f40
theorem aaB:E0.fn 40=fI c40 146 [.tmp 2]:=by kernel_rfl
theorem Uv:ja E 78=some (6,false,1):=Nj C (by kernel_rfl)
theorem im7:cg E 7=true:=cn C (by kernel_rfl)
theorem ck7{st:Bool}{bl:List AV}{H:Hp}{k:AV->cJ->Prop}:iD E false st 7 bl H k=oI (cL E 7 bl H) fun r H2=>k r (.vK H2):=jx im7
noncomputable def c44:=gu Tryz.f44
theorem avi:E0.fn 44=fI c44 29 [.tmp 2]:=by kernel_rfl
theorem aub{vs:List (Nat×AV)}:iJ E 37 vs=(Ed 1 [.str [],.str [],.str []] vs).map .agg:=UP (ad5 C (by kernel_rfl))
noncomputable def c47:=gu Tryz.f47
theorem avj:E0.fn 47=fI c47 17 [.cell 2 72]:=by kernel_rfl
theorem ajc:E.pairs 1 13=[(0,10),(2,10),(4,10),(5,10),(6,10)]:=fm C rfl
theorem ajj:E.pairs 2 16=[]:=fm C rfl
noncomputable def c58:=gu Tryz.f58
theorem avu:E0.fn 58=fI c58 30 [.cell 2 72,.cell 3 62]:=by kernel_rfl
theorem kd5:je E 5=some .u8:=CO C (by kernel_rfl)
theorem arB:eR E 22=some (true,6,6,[.int .i8 0,.int .i8 0,.int .i8 0,.int .i8 0,.int .i8 0,.int .i8 0]):=Al C (by kernel_rfl)
theorem ayI:gx E 28=some (false,1):=nM C (by kernel_rfl)
theorem ays:je E 28=some .i8:=CO C (by kernel_rfl)
theorem atV:ja E 29=some (6,false,1):=Nj C (by kernel_rfl)
theorem acu:E.pairs 27 23=[]:=fm C rfl
noncomputable def c3:=gu Tryz.f3
theorem fn3:E0.fn 3=fI c3 133 [.tmp 6]:=by kernel_rfl
noncomputable def c4:=gu Tryz.f4
theorem fn4:E0.fn 4=fI c4 148 [.tmp 6]:=by kernel_rfl
noncomputable def c5:=gu Tryz.f5
theorem fn5:E0.fn 5=fI c5 114 [.tmp 0]:=by kernel_rfl
noncomputable def c6:=gu Tryz.f6
theorem fn6:E0.fn 6=fI c6 6 [.tmp 2]:=by kernel_rfl
theorem ajL:eR E 84=some (true,10,136,[.int .i64 0,.int .i64 0,.bool false,.str [],.str [],.str [],.str [],.str [],.str [],.str []]):=Al C (by kernel_rfl)
theorem ahe:iO E 86 2=some (13,true,12):=qk C (by kernel_rfl)
theorem ahd:iO E 86 1=some (1,true,12):=qk C (by kernel_rfl)
theorem acd:E.pairs 10 18=[]:=fm C rfl
theorem ajd:E.pairs 20 6=[]:=fm C rfl
theorem aco:E.pairs 21 14=[(7,10)]:=fm C rfl
noncomputable def c10:=gu Tryz.f10
theorem amC:E0.fn 10=fI c10 124 [.cell 2 39]:=by kernel_rfl
noncomputable def c31:=gu Tryz.f31
theorem ava:E0.fn 31=fI c31 21 [.cell 2 72]:=by kernel_rfl
theorem acb:E.pairs 10 17=[]:=fm C rfl
noncomputable def c33:=gu Tryz.f33
theorem avc:E0.fn 33=fI c33 54 [.tmp 4]:=by kernel_rfl
noncomputable def c70:=gu Tryz.f70
theorem avG:E0.fn 70=fI c70 48 [.cell 4 31,.tmp 5]:=by kernel_rfl
theorem ace:E.pairs 11 10=[]:=fm C rfl
theorem ai4:E.pairs 13 7=[]:=fm C rfl
theorem aje:E.pairs 21 6=[(0,4),(2,4),(3,4)]:=fm C rfl
theorem acq:E.pairs 22 17=[]:=fm C rfl
noncomputable def MV:=gu Tryz.f71
theorem RX:E0.fn 71=fI MV 155 [.tmp 2]:=by kernel_rfl
theorem aso:gX E 139=some (.agg [.int .i64 0,.int .i64 0,.int .i64 0]):=Ax C (by kernel_rfl)
noncomputable def ZT:=gu Tryz.f113
theorem VD:E0.fn 113=fI ZT 8 [.cell 2 72]:=by kernel_rfl
noncomputable def c60:=gu Tryz.f60
theorem avw:E0.fn 60=fI c60 32 [.tmp 6]:=by kernel_rfl
theorem arh:E.pairs 6 9=[]:=fm C rfl
noncomputable def c61:=gu Tryz.f61
theorem avx:E0.fn 61=fI c61 26 [.tmp 4]:=by kernel_rfl
noncomputable def agu:=gu Tryz.f129
theorem aeq:E0.fn 129=fI agu 19 [.tmp 4]:=by kernel_rfl
noncomputable def alF:=gu Tryz.f115
theorem amO:E0.fn 115=fI alF 13 [.tmp 4,.tmp 5,.tmp 6]:=by kernel_rfl
noncomputable def alQ:=gu Tryz.f147
theorem am6:E0.fn 147=fI alQ 23 [.tmp 4,.tmp 5,.tmp 6]:=by kernel_rfl
noncomputable def alY:=gu Tryz.f183
theorem ang:E0.fn 183=fI alY 143 [.tmp 4]:=by kernel_rfl
theorem apZ:cg E 238=false:=cn C (by kernel_rfl)
noncomputable def al2:=gu Tryz.f212
theorem anl:E0.fn 212=fI al2 8 [.tmp 4]:=by kernel_rfl
theorem ajm:E.pairs 3 16=[]:=fm C rfl
noncomputable def c93:=gu Tryz.f93
theorem avU:E0.fn 93=some {code:=c93,ntmps:=28,results:=[],pure:=false,eX:=false}:=by kernel_rfl
noncomputable def agv:=gu Tryz.f211
theorem aes:E0.fn 211=some {code:=agv,ntmps:=8,results:=[.tmp 2],pure:=false,eX:=true}:=by kernel_rfl
noncomputable def c94:=gu Tryz.f94
theorem avV:E0.fn 94=fI c94 75 [.tmp 4]:=by kernel_rfl
end
def aT:=eL (eL @lu @amh @ame @amf) (eL @aut @aus @amg (And.intro @amd @amb)) (eL @ama @amc @auu @auv) (eL @al9 @aur @auq (And.intro @aup @ck7))
def aK{E:Env} [C:Ctx E]:=eL (eL (eL (eL (@kQ E _ _ _ _ _ CQ) (@mQ E _ _ _ _ _ CQ) (@ow E _ _ _ _ _ CQ) (And.intro (@lF E _ Xs) (@se E _ _ _ Xs))) (eL (@jK E _ _ _ Xs) (@ajs E C) (@ajC E C) (And.intro (@aji E C) (@ajn E C))) (eL (@ajr E C) (@lF E _ ayK) (@og E _ _ aqN) (And.intro (@jK E _ _ _ aqN) (@azw E C))) (eL (@aud E C) (And.intro (@il E _ _ _ _ _ ag9) (@aq5 E C)) (@lF E _ pI4) (And.intro (@il E _ _ _ _ _ ag8) (@ajq E C)))) (eL (eL (@arf E C) (@ari E C) (@lF E _ pI9) (And.intro (@se E _ _ _ pI9) (@jK E _ _ _ pI9))) (eL (@kQ E _ _ _ _ _ Tk) (@mQ E _ _ _ _ _ Tk) (@ow E _ _ _ _ _ Tk) (And.intro (@ajm E C) (@aqd E C))) (eL (@ay5 E C) (@og E _ _ aiW) (@se E _ _ _ aiW) (And.intro (@jK E _ _ _ aiW) (@azx E C))) (eL (@aue E C) (And.intro (@aq7 E C) (@arb E C)) (@il E _ _ _ _ _ ahb) (And.intro (@ajb E C) (@il E _ _ _ _ _ aha)))) (eL (eL (@aq6 E C) (@ajk E C) (@aq4 E C) (And.intro (@ajl E C) (@lF E _ pI3))) (eL (@se E _ _ _ pI3) (@ack E C) (@og E _ _ aiX) (And.intro (@se E _ _ _ aiX) (@jK E _ _ _ aiX))) (eL (@azy E C) (@CZ E _ _ _ _ ZJ) (@Nn E _ _ _ _ ZJ) (And.intro (@ajt E C) (@auf E C))) (eL (@kQ E _ _ _ _ _ vo) (And.intro (@mQ E _ _ _ _ _ vo) (@ow E _ _ _ _ _ vo)) (@ajz E C) (And.intro (@ard E C) (@ara E C)))) (eL (eL (@jK E _ _ _ aiV) (@og E _ _ aqL) (@jK E _ _ _ aqL) (And.intro (@azu E C) (@CZ E _ _ _ _ alc))) (eL (@Nn E _ _ _ _ alc) (@og E _ _ aqH) (@CZ E _ _ _ _ ad3) (And.intro (@Nn E _ _ _ _ ad3) (@ajB E C))) (eL (@arj E C) (@ai3 E C) (@ai7 E C) (And.intro (@ai8 E C) (@aju E C))) (eL (@aq9 E C) (And.intro (@og E _ _ aiY) (@se E _ _ _ aiY)) (@jK E _ _ _ aiY) (And.intro (@azz E C) (@aug E C))))) (eL (eL (eL (@il E _ _ _ _ _ Vw) (@Vy E _ _ _ _ _ Vw) (@il E _ _ _ _ _ Vx) (And.intro (@Vy E _ _ _ _ _ Vx) (@ajv E C))) (eL (@kQ E _ _ _ _ _ JD) (@mQ E _ _ _ _ _ JD) (@ow E _ _ _ _ _ JD) (And.intro (@og E _ _ aiZ) (@se E _ _ _ aiZ))) (eL (@jK E _ _ _ aiZ) (@azA E C) (@auI E C) (And.intro (@lF E _ aiV) (@se E _ _ _ aiV))) (eL (@ajo E C) (And.intro (@kQ E _ _ _ _ _ xb) (@mQ E _ _ _ _ _ xb)) (@ow E _ _ _ _ _ xb) (And.intro (@kQ E _ _ _ _ _ ac1) (@mQ E _ _ _ _ _ ac1)))) (eL (eL (@lF E _ Xr) (@se E _ _ _ Xr) (@jK E _ _ _ Xr) (And.intro (@ach E C) (@acj E C))) (eL (@acm E C) (@acp E C) (@ajf E C) (And.intro (@kQ E _ _ _ _ _ By) (@mQ E _ _ _ _ _ By))) (eL (@ow E _ _ _ _ _ By) (@ajx E C) (@ajw E C) (And.intro (@ajc E C) (@ajj E C))) (eL (@aub E C) (And.intro (@jK E _ _ _ aqG) (@asm E C)) (@il E _ _ _ _ _ aau) (And.intro (@il E _ _ _ _ _ ag4) (@il E _ _ _ _ _ ag7)))) (eL (eL (@il E _ _ _ _ _ ag6) (@il E _ _ _ _ _ ag5) (@il E _ _ _ _ _ ag2) (And.intro (@il E _ _ _ _ _ ag3) (@are E C))) (eL (@ajy E C) (@ark E C) (@aci E C) (And.intro (@ai6 E C) (@ai9 E C))) (eL (@acr E C) (@aja E C) (@aq8 E C) (And.intro (@kQ E _ _ _ _ _ uo) (@mQ E _ _ _ _ _ uo))) (eL (@ow E _ _ _ _ _ uo) (And.intro (@acf E C) (@ai5 E C)) (@lF E _ afl) (And.intro (@jK E _ _ _ afl) (@CZ E _ _ _ _ alb)))) (eL (eL (@ai2 E C) (@lF E _ aqO) (@jK E _ _ _ aqO) (And.intro (@asn E C) (@lF E _ afm))) (eL (@jK E _ _ _ afm) (And.intro (@kQ E _ _ _ _ _ Ft) (@ow E _ _ _ _ _ Ft)) (@il E _ _ _ _ _ aaw) (And.intro (@il E _ _ _ _ _ aav) (@og E _ _ afn))) (eL (@jK E _ _ _ afn) (@asp E C) (@alo E C) (And.intro (@il E _ _ _ _ _ aay) (@il E _ _ _ _ _ aaz))) (eL (@arc E C) (And.intro (@acs E C) (@jK E _ _ _ pI3)) (@il E _ _ _ _ _ aax) (And.intro (@aln E C) (@lF E _ aqI))))) (eL (eL (eL (@jK E _ _ _ aqI) (@kQ E _ _ _ _ _ Ak) (@mQ E _ _ _ _ _ Ak) (And.intro (@ow E _ _ _ _ _ Ak) (@og E _ _ aqK))) (eL (@jK E _ _ _ aqK) (@azt E C) (@aua E C) (And.intro (@il E _ _ _ _ _ ag1) (@il E _ _ _ _ _ ag0))) (eL (@acn E C) (@ajg E C) (@lF E _ aqJ) (And.intro (@se E _ _ _ aqJ) (@auH E C))) (eL (@auG E C) (And.intro (@ajp E C) (@arh E C)) (@il E _ _ _ _ _ agZ) (And.intro (@acg E C) (@og E _ _ aqM)))) (eL (eL (@jK E _ _ _ aqM) (@azv E C) (@auc E C) (And.intro (@ajh E C) (@jK E _ _ _ pI4))) (eL (@lF E _ ayL) (@kQ E _ _ _ _ _ arC) (@ow E _ _ _ _ _ arC) (And.intro (@kQ E _ _ _ _ _ ac0) (@mQ E _ _ _ _ _ ac0))) (eL (@ace E C) (@ai4 E C) (@aje E C) (And.intro (@acq E C) (@aso E C))) (eL (@kQ E _ _ _ _ _ arB) (And.intro (@mQ E _ _ _ _ _ arB) (@acb E C)) (@og E _ _ aqP) (And.intro (@jK E _ _ _ aqP) (@azB E C)))) (eL (eL (@auh E C) (@il E _ _ _ _ _ ahf) (@il E _ _ _ _ _ ahc) (And.intro (@ajA E C) (@ajD E C))) (eL (@kQ E _ _ _ _ _ ajL) (@ow E _ _ _ _ _ ajL) (@il E _ _ _ _ _ ahe) (And.intro (@il E _ _ _ _ _ ahd) (@acd E C))) (eL (@ajd E C) (@aco E C) (@se E _ _ _ ayI) (And.intro (@ZM E _ _ _ _ atV) (@acu E C))) (eL (cn C (by kernel_rfl):cg E 5=false) (And.intro (cn C (by kernel_rfl):cg E 6=false) (cn C (by kernel_rfl):cg E 8=false)) (cn C (by kernel_rfl):cg E 9=false) (And.intro (cn C (by kernel_rfl):cg E 10=false) (cn C (by kernel_rfl):cg E 14=false)))) (eL (eL (cn C (by kernel_rfl):cg E 17=false) (cn C (by kernel_rfl):cg E 18=false) (cn C (by kernel_rfl):cg E 19=false) (And.intro (cn C (by kernel_rfl):cg E 20=false) (cn C (by kernel_rfl):cg E 22=false))) (eL (cn C (by kernel_rfl):cg E 23=false) (cn C (by kernel_rfl):cg E 28=false) (cn C (by kernel_rfl):cg E 29=false) (And.intro (cn C (by kernel_rfl):cg E 30=false) (cn C (by kernel_rfl):cg E 31=false))) (eL (cn C (by kernel_rfl):cg E 32=false) (cn C (by kernel_rfl):cg E 33=false) (cn C (by kernel_rfl):cg E 35=false) (And.intro (cn C (by kernel_rfl):cg E 37=false) (cn C (by kernel_rfl):cg E 38=false))) (eL (cn C (by kernel_rfl):cg E 39=false) (And.intro (cn C (by kernel_rfl):cg E 40=false) (cn C (by kernel_rfl):cg E 41=false)) (cn C (by kernel_rfl):cg E 44=false) (And.intro (cn C (by kernel_rfl):cg E 45=false) (cn C (by kernel_rfl):cg E 47=false))))) (eL (eL (eL (cn C (by kernel_rfl):cg E 49=false) (cn C (by kernel_rfl):cg E 50=false) (cn C (by kernel_rfl):cg E 51=false) (And.intro (cn C (by kernel_rfl):cg E 52=false) (cn C (by kernel_rfl):cg E 54=false))) (eL (cn C (by kernel_rfl):cg E 55=false) (cn C (by kernel_rfl):cg E 57=false) (cn C (by kernel_rfl):cg E 58=false) (And.intro (cn C (by kernel_rfl):cg E 59=false) (cn C (by kernel_rfl):cg E 60=false))) (eL (cn C (by kernel_rfl):cg E 61=false) (cn C (by kernel_rfl):cg E 62=false) (cn C (by kernel_rfl):cg E 63=false) (And.intro (cn C (by kernel_rfl):cg E 64=false) (cn C (by kernel_rfl):cg E 65=false))) (eL (cn C (by kernel_rfl):cg E 66=false) (And.intro (cn C (by kernel_rfl):cg E 67=false) (cn C (by kernel_rfl):cg E 68=false)) (cn C (by kernel_rfl):cg E 69=false) (And.intro (cn C (by kernel_rfl):cg E 70=false) (cn C (by kernel_rfl):cg E 71=false)))) (eL (eL (cn C (by kernel_rfl):cg E 72=false) (cn C (by kernel_rfl):cg E 73=false) (cn C (by kernel_rfl):cg E 74=false) (And.intro (cn C (by kernel_rfl):cg E 75=false) (cn C (by kernel_rfl):cg E 76=false))) (eL (cn C (by kernel_rfl):cg E 77=false) (cn C (by kernel_rfl):cg E 78=false) (cn C (by kernel_rfl):cg E 79=false) (And.intro (cn C (by kernel_rfl):cg E 81=false) (cn C (by kernel_rfl):cg E 83=false))) (eL (cn C (by kernel_rfl):cg E 85=false) (cn C (by kernel_rfl):cg E 87=false) (cn C (by kernel_rfl):cg E 88=false) (And.intro (cn C (by kernel_rfl):cg E 89=false) (cn C (by kernel_rfl):cg E 90=false))) (eL (cn C (by kernel_rfl):cg E 91=false) (And.intro (cn C (by kernel_rfl):cg E 92=false) (cn C (by kernel_rfl):cg E 94=false)) (cn C (by kernel_rfl):cg E 95=false) (And.intro (cn C (by kernel_rfl):cg E 100=false) (cn C (by kernel_rfl):cg E 102=false)))) (eL (eL (cn C (by kernel_rfl):cg E 103=false) (cn C (by kernel_rfl):cg E 104=false) (cn C (by kernel_rfl):cg E 105=false) (And.intro (cn C (by kernel_rfl):cg E 106=false) (cn C (by kernel_rfl):cg E 107=false))) (eL (cn C (by kernel_rfl):cg E 108=false) (cn C (by kernel_rfl):cg E 109=false) (cn C (by kernel_rfl):cg E 111=false) (And.intro (cn C (by kernel_rfl):cg E 113=false) (cn C (by kernel_rfl):cg E 114=false))) (eL (cn C (by kernel_rfl):cg E 115=false) (cn C (by kernel_rfl):cg E 116=false) (cn C (by kernel_rfl):cg E 117=false) (And.intro (cn C (by kernel_rfl):cg E 118=false) (cn C (by kernel_rfl):cg E 119=false))) (eL (cn C (by kernel_rfl):cg E 120=false) (And.intro (cn C (by kernel_rfl):cg E 121=false) (cn C (by kernel_rfl):cg E 129=false)) (cn C (by kernel_rfl):cg E 131=false) (And.intro (cn C (by kernel_rfl):cg E 135=false) (cn C (by kernel_rfl):cg E 136=false)))) (eL (eL (cn C (by kernel_rfl):cg E 137=false) (cn C (by kernel_rfl):cg E 139=false) (cn C (by kernel_rfl):cg E 140=false) (And.intro (cn C (by kernel_rfl):cg E 143=false) (cn C (by kernel_rfl):cg E 145=false))) (eL (cn C (by kernel_rfl):cg E 146=false) (And.intro (cn C (by kernel_rfl):cg E 147=false) (cn C (by kernel_rfl):cg E 156=false)) (cn C (by kernel_rfl):cg E 157=false) (And.intro (cn C (by kernel_rfl):cg E 159=false) (cn C (by kernel_rfl):cg E 160=false))) (eL (cn C (by kernel_rfl):cg E 169=false) (cn C (by kernel_rfl):cg E 170=false) (cn C (by kernel_rfl):cg E 171=false) (And.intro (cn C (by kernel_rfl):cg E 177=false) (cn C (by kernel_rfl):cg E 180=false))) (eL (cn C (by kernel_rfl):cg E 183=false) (And.intro (cn C (by kernel_rfl):cg E 199=false) (cn C (by kernel_rfl):cg E 200=false)) (cn C (by kernel_rfl):cg E 212=false) (And.intro (cn C (by kernel_rfl):cg E 230=false) (cn C (by kernel_rfl):cg E 238=false)))))
section
variable{E:Env} [C:Ctx E]{f nt:Nat}{code:Code}{results:List ResultVar}{a b c e:AV}{G:AV->Prop}
theorem gw0(jj:E0.fn f=some {code:=code,ntmps:=nt,results:=results,pure:=true,eX:=false})(h:∀ts:List AV,ts.length=nt->V E code (S ts []) [] (mS E results G))(he:f∉N1:=by decide):∃r,aO E f []=some r/\G r:=gv0 (C.ov _ _ he) (by rw[C.fn];exact jj) rfl h
theorem mO(jj:E0.fn f=some {code:=code,ntmps:=nt,results:=results,pure:=true,eX:=false})(h:∀ts:List AV,ts.length=nt->gt ts 0=a->V E code (S ts []) [] (mS E results G))(he:f∉N1:=by decide)(hn:1<=nt:=by decide):∃r,aO E f [a]=some r/\G r:=gv1 (C.ov _ _ he) (by rw[C.fn];exact jj) rfl hn h
theorem tS(jj:E0.fn f=some {code:=code,ntmps:=nt,results:=results,pure:=true,eX:=false})(h:∀ts:List AV,ts.length=nt->gt ts 0=a->gt ts 1=b->V E code (S ts []) [] (mS E results G))(he:f∉N1:=by decide)(hn:2<=nt:=by decide):∃r,aO E f [a,b]=some r/\G r:=gv2 (C.ov _ _ he) (by rw[C.fn];exact jj) rfl hn h
theorem Zj(jj:E0.fn f=some {code:=code,ntmps:=nt,results:=results,pure:=true,eX:=false})(h:∀ts:List AV,ts.length=nt->gt ts 0=a->gt ts 1=b->gt ts 2=c->V E code (S ts []) [] (mS E results G))(he:f∉N1:=by decide)(hn:3<=nt:=by decide):∃r,aO E f [a,b,c]=some r/\G r:=gv3 (C.ov _ _ he) (by rw[C.fn];exact jj) rfl hn h
theorem gw4(jj:E0.fn f=some {code:=code,ntmps:=nt,results:=results,pure:=true,eX:=false})(h:∀ts:List AV,ts.length=nt->gt ts 0=a->gt ts 1=b->gt ts 2=c->gt ts 3=e->V E code (S ts []) [] (mS E results G))(he:f∉N1:=by decide)(hn:4<=nt:=by decide):∃r,aO E f [a,b,c,e]=some r/\G r:=gv4 (C.ov _ _ he) (by rw[C.fn];exact jj) rfl hn h
end
end Go.Proofs.YtblnjkjjedanaaaGreatDoor
