/- A part of the proof that PairChecks returns true for every input; no condition of its own. -/
import Derived.Test.YtblnjkjjedanaaaGreatDoorTaf
set_option linter.all false
set_option maxHeartbeats 100000000
set_option maxRecDepth 100000
open Option renaming some->aKV,map_some->aLT,bind_some->aN6
namespace Go.Proofs.YtblnjkjjedanaaaGreatDoor
open Go Dv
section
variable{E:Env}
def ek(E:Env)(t:Nat):Option (Bool×Nat):=match E.ty t with
 |some i=>some (i.isAgg,i.size)
 |none=>none
def fD(ag:Bool)(n:Nat)(cs:List AV)(o:Nat):Option AV:=if ag=true then(if o+n<=cs.length then some (.agg ((cs.drop o).take n))else none)else cs[o]?
theorem abU{n:Nat}{cs:List AV}{o:Nat}:fD true n cs o=if o+n<=cs.length then some (.agg ((cs.drop o).take n))else none:=rfl
theorem nO{n:Nat}{cs:List AV}{o:Nat}:fD false n cs o=cs[o]?:=rfl
theorem ahK{t:Nat}{ag:Bool}{n:Nat}(h:ek E t=some (ag,n)){cs:List AV}{o:Nat}:jq E t cs o=fD ag n cs o:=by
 unfold ek at h;unfold jq fD;cases hi:E.ty t with
 |none=>rw[hi]at h;cases h
 |some i=>
  rw[hi]at h;simp only[aKV.injEq,Prod.mk.injEq]at h;obtain⟨h1,h2⟩:=h;subst h1;subst h2
  rfl
theorem uu{t:Nat}{ag:Bool}{n:Nat}(h:ek E t=some (ag,n)){H:Hp}{cs:List AV}{o:Nat}:gT E H t (.eX cs o)=fD ag n cs o:=by
 show jq E t cs o=_
 exact ahK h
theorem jK{t:Nat}(h:ek E t=some (false,1)){H:Hp}{b o:Nat}:gT E H t (.b9 b o)=cellAt H b o:=by
 refine js ?_;unfold ek at h;cases hi:E.ty t with
 |none=>rw[hi]at h;cases h
 |some i=>rw[hi]at h;simp at h;exact⟨i,hi,h.1,h.2⟩
theorem gD{t n:Nat}(h:ek E t=some (true,n)){H:Hp}{b o:Nat}:gT E H t (.b9 b o)=lZ n H b o:=by
 refine qc ?_;unfold ek at h;unfold Rt;cases hi:E.ty t with
 |none=>rw[hi]at h;cases h
 |some i=>rw[hi]at h;simp at h;simp[h.1,h.2]
theorem gw{t n:Nat}{ag:Bool}(h:ek E t=some (ag,n)){H:Hp}{b o:Nat}{v:AV}:iO E H t (.b9 b o) v=(mK n v.cells H b o).map fun x=>[(b,x)]:=by
 refine lD ?_;unfold ek at h;unfold Mj;cases hi:E.ty t with
 |none=>rw[hi]at h;cases h
 |some i=>rw[hi]at h;simp at h;simp[h.2]
def fE(E:Env)(t f:Nat):Option (Nat×Bool×Nat):=match E.ty t with
 |some {cV:=.struct fields,..}=>(match fields[f]? with
  |some fd=>(match E.ty fd.type with
   |some fi=>if fi.size=0 then none else some (fd.offset,fi.isAgg,fi.size)
   |none=>none)
  |none=>none)
 |_=>none
theorem ae7{t f off n:Nat}{ag:Bool}(h:fE E t f=some (off,ag,n)):(∀b o,dy E t (.b9 b o) f=some (.b9 b (o+off)))/\(∀cs o,dy E t (.eX cs o) f=some (.eX cs (o+off)))/\
  ∀cs,GN E t (.agg cs) f=fD ag n cs off:=by
 unfold fE at h;cases hi:E.ty t with
 |none=>rw[hi]at h;cases h
 |some i=>
  rw[hi]at h;obtain⟨cV,isAgg,size,bytes,zero,eS⟩:=i;cases cV<;>first|(cases h;done)|skip
  rename_i fs;simp only at h;cases hf:fs[f]? with
  |none=>rw[hf]at h;cases h
  |some fd=>
   rw[hf]at h;simp only at h;cases hj:E.ty fd.type with
   |none=>rw[hj]at h;cases h
   |some fi=>
    rw[hj]at h;simp only at h;by_cases hz:fi.size=0
    ·rw[if_pos hz]at h;cases h
    ·rw[if_neg hz]at h;simp only[aKV.injEq,Prod.mk.injEq]at h;obtain⟨h1,h2,h3⟩:=h;subst h1;subst h2;subst h3
     refine⟨fun b o=>?_,fun cs o=>?_,fun cs=>?_⟩
     ·simp only[dy,hi,hf,hj,hz,if_false]
     ·simp only[dy,hi,hf,hj,hz,if_false]
     ·simp only[GN,hi,hf,jq,hj,fD]
theorem fj{t f off n:Nat}{ag:Bool}(h:fE E t f=some (off,ag,n)){b o:Nat}:dy E t (.b9 b o) f=some (.b9 b (o+off)):=(ae7 h).1 b o
theorem WG{t f off n:Nat}{ag:Bool}(h:fE E t f=some (off,ag,n)){cs:List AV}{o:Nat}:dy E t (.eX cs o) f=some (.eX cs (o+off)):=(ae7 h).2.1 cs o
def gv(E:Env)(t:Nat):Option (Nat×Bool×Nat):=match E.ty t with
 |some {cV:=.array len e,..}=>(match E.ty e with
  |some ei=>some (len,ei.isAgg,ei.size)
  |none=>none)
 |_=>none
theorem YS{t len n:Nat}{ag:Bool}(h:gv E t=some (len,ag,n)):(∀b o k z,cF E t (.b9 b o) (.int k z)=if 0<=z/\z<(len:Int)then some (.b9 b (o+z.toNat*n))else none)/\
  (∀cs o k z,cF E t (.eX cs o) (.int k z)=if 0<=z/\z<(len:Int)then some (.eX cs (o+z.toNat*n))else none)/\
  (∀cs k z,pZ E t (.agg cs) (.int k z)=if 0<=z/\z<(len:Int)then fD ag n cs (z.toNat*n)else none)/\
  (∀H aL v,aV E H aL .len [t] [v]=some (.int .i64 len,[])):=by
 unfold gv at h;cases hi:E.ty t with
 |none=>rw[hi]at h;cases h
 |some i=>
  rw[hi]at h;obtain⟨cV,isAgg,size,bytes,zero,eS⟩:=i;cases cV<;>first|(cases h;done)|skip
  rename_i ln e;simp only at h;cases he:E.ty e with
  |none=>rw[he]at h;cases h
  |some ei=>
   rw[he]at h;simp only[aKV.injEq,Prod.mk.injEq]at h;obtain⟨h1,h2,h3⟩:=h;subst h1;subst h2;subst h3
   refine⟨fun b o k z=>?_,fun cs o k z=>?_,fun cs k z=>?_,fun H aL v=>?_⟩
   ·simp only[cF,hi,he]
   ·simp only[cF,hi,he]
   ·simp only[pZ,hi,he,jq,fD]
   ·simp[aV,rS,hi]
theorem xW{t len n:Nat}{ag:Bool}(h:gv E t=some (len,ag,n)){b o:Nat}{k:IntKind}{z:Int}:cF E t (.b9 b o) (.int k z)=if 0<=z/\z<(len:Int)then some (.b9 b (o+z.toNat*n))else none:=(YS h).1 b o k z
theorem abD{t len n:Nat}{ag:Bool}(h:gv E t=some (len,ag,n)){cs:List AV}{o:Nat}{k:IntKind}{z:Int}:cF E t (.eX cs o) (.int k z)=if 0<=z/\z<(len:Int)then some (.eX cs (o+z.toNat*n))else none:=(YS h).2.1 cs o k z
theorem zR{t len n:Nat}{ag:Bool}(h:gv E t=some (len,ag,n)){cs:List AV}{k:IntKind}{z:Int}:pZ E t (.agg cs) (.int k z)=if 0<=z/\z<(len:Int)then fD ag n cs (z.toNat*n)else none:=(YS h).2.2.1 cs k z
def eu(E:Env)(t:Nat):Option (Bool×Nat×Nat×List AV):=match E.ty t with
 |some {cV:=.slice e,..}=>(match E.ty e with
  |some ei=>(match ei.zero with
   |some z=>some (ei.isAgg,ei.size,ei.bytes,z)
   |none=>none)
  |none=>none)
 |_=>none
def k9:AV->Option Int
 |.aH=>some 0
 |.eW=>some 0
 |.aK _ n=>some (n:Int)
 |.aI _ _ n _ _=>some (n:Int)
 |_=>none
theorem NJ:k9 .aH=some 0:=rfl
theorem ag6:k9 .eW=some 0:=rfl
theorem Xt{cs:List AV}{n:Nat}:k9 (.aK cs n)=some (n:Int):=rfl
theorem J6{b o n e k:Nat}:k9 (.aI b o n e k)=some (n:Int):=rfl
def ahd(x:Option Int):Option (AV×List (Nat×cz)):=match x with
 |some n=>some (.int .i64 n,[])
 |none=>none
theorem jS{n:Int}:ahd (some n)=some (.int .i64 n,[]):=rfl
theorem ij{t n rR:Nat}{ag:Bool}{z:List AV}(h:eu E t=some (ag,n,rR,z)):∃i e ei,E.ty t=some i/\i.cV=.slice e/\E.ty e=some ei/\ei.isAgg=ag/\ei.size=n/\ei.bytes=rR/\ei.zero=some z:=by
 unfold eu at h;cases hi:E.ty t with
 |none=>rw[hi]at h;cases h
 |some i=>
  rw[hi]at h;obtain⟨cV,isAgg,size,bytes,zero,eS⟩:=i;cases cV<;>first|(cases h;done)|skip
  rename_i e;simp only at h;cases he:E.ty e with
  |none=>rw[he]at h;cases h
  |some ei=>
   rw[he]at h;simp only at h;cases hz:ei.zero with
   |none=>rw[hz]at h;cases h
   |some z'=>
    rw[hz]at h;simp only[aKV.injEq,Prod.mk.injEq]at h;exact⟨_,e,ei,rfl,rfl,he,h.1,h.2.1,h.2.2.1,by rw[hz,h.2.2.2]⟩
theorem mX{t n rR:Nat}{ag:Bool}{z:List AV}(h:eu E t=some (ag,n,rR,z)){H:Hp}{aL:Nat}{v:AV}:aV E H aL .len [t] [v]=ahd (k9 v):=by
 obtain⟨i,e,ei,h1,h2,_⟩:=ij h;obtain⟨cV,isAgg,size,bytes,zero,eS⟩:=i;simp only at h2;subst h2;cases v<;>simp[aV,rS,h1,k9,ahd]
theorem qI{t n rR:Nat}{ag:Bool}{z:List AV}(h:eu E t=some (ag,n,rR,z)){cs:List AV}{m:Nat}{k:IntKind}{x:Int}:cF E t (.aK cs m) (.int k x)=if 0<=x/\x<(m:Int)then some (.eX cs (x.toNat*n))else none:=by obtain⟨i,e,ei,h1,h2,h3,h4,h5,_⟩:=ij h;simp only[cF,h1,h2,h3,h5]
theorem mY{t n rR:Nat}{ag:Bool}{z:List AV}(h:eu E t=some (ag,n,rR,z)){b o m kc:Nat}{k:IntKind}{x:Int}:cF E t (.aI b o m n kc) (.int k x)=if 0<=x/\x<(m:Int)then some (.b9 b (o+x.toNat*n))else none:=by obtain⟨i,e,ei,h1,h2,h3,h4,h5,_⟩:=ij h;simp only[cF,h1,h2,h3,h5,true_and]
theorem Rk{t n rR:Nat}{ag:Bool}{z:List AV}(h:eu E t=some (ag,n,rR,z))(hz:z.length=n)(hn:0<n){aL m:Nat}{k k':IntKind}(hm:m*rR<=gO)(vN:m<=4611686018427387904):
  fM E aL t (.int k (m:Int)) (.int k' (m:Int))=some (.aI aL 0 m n m,[(aL,.cells .live (iE z m))]):=by
 obtain⟨i,e,ei,h1,h2,h3,h4,h5,h6,h7⟩:=ij h;obtain⟨cV,isAgg,size,bytes,zero,eS⟩:=i;simp only at h2;subst h2;simp only[fM,h1,h3,h7,h5,h6];rw[if_pos ⟨by omega,Int.le_refl _,by simpa using hm,by omega,hz,hn⟩]
 simp
def vX(E:Env)(t:Nat):Option (List AV×List (Nat×Nat)):=match E.ty t with
 |some {cV:=.struct fields,zero:=some z,..}=>(dP (fun(f:Field)=>(E.ty f.type).map fun fi=>(f.offset,fi.size)) fields.toList).map fun l=>(z,l)
 |_=>none
def nZ(pl:List (Nat×Nat))(cells:List AV):List (Nat×AV)->Option (List AV)
 |[]=>some cells
 |(i,v)::rest=>
  match pl[i]? with
  |none=>none
  |some (off,size)=>if(v.cells.length==size&&decide (off+size<=cells.length))=true then nZ pl (cells.take off++v.cells++cells.drop (off+size)) rest else none
theorem UQ{pl:List (Nat×Nat)}{cells:List AV}:nZ pl cells []=some cells:=rfl
def aff(pl:List (Nat×Nat))(cells:List AV)(rest:List (Nat×AV))(v:AV)(x:Option (Nat×Nat)):Option (List AV):=match x with
 |none=>none
 |some (off,size)=>if(v.cells.length==size&&decide (off+size<=cells.length))=true then nZ pl (cells.take off++v.cells++cells.drop (off+size)) rest else none
theorem PJ{pl:List (Nat×Nat)}{cells:List AV}{i:Nat}{v:AV}{rest:List (Nat×AV)}:nZ pl cells ((i,v)::rest)=aff pl cells rest v pl[i]?:=by rw[nZ];rfl
theorem Pb{pl:List (Nat×Nat)}{cells:List AV}{v:AV}{rest:List (Nat×AV)}{off size:Nat}:aff pl cells rest v (some (off,size))=if(v.cells.length==size&&decide (off+size<=cells.length))=true then nZ pl (cells.take off++v.cells++cells.drop (off+size)) rest else none:=rfl
theorem Sc{place:Nat->Option (Nat×Nat)}{pl:List (Nat×Nat)}(h:∀i,place i=pl[i]?):∀(vs:List (Nat×AV)) (cells:List AV),gV place cells vs=nZ pl cells vs
 |[],_=>rfl
 |(i,v)::rest,cells=>by
  rw[gV,nZ,h i];cases pl[i]? with
  |none=>rfl
  |some p=>
   obtain⟨off,size⟩:=p;simp only;by_cases h1:v.cells.length=size<;>by_cases h2:off+size<=cells.length
   ·have h3:¬off+size>cells.length:=by omega
    simp[h1,h2,h3,Sc h rest]
   ·have h3:off+size>cells.length:=by omega
    simp[h1,h2,h3]
   ·simp[h1]
   ·simp[h1]
theorem LP{α β:Type}{f:α->Option β}:∀{l:List α} {r:List β},dP f l=some r->(∀i:Nat,(l[i]?).bind f=r[i]?)/\∀x∈l,(f x).isSome=true
 |[],r,h=>by cases h;exact⟨fun i=>by simp,fun x hx=>by cases hx⟩
 |x::xs,r,h=>by
  unfold dP at h;cases hx:f x with
  |none=>rw[hx]at h;cases h
  |some y=>
   rw[hx]at h;simp only at h;cases XW:dP f xs with
   |none=>rw[XW]at h;cases h
   |some ys=>
    rw[XW]at h;cases h;have ih:=LP XW;refine⟨fun i=>?_,fun z hz=>?_⟩
    ·cases i with
     |zero=>simp[hx]
     |succ i=>simpa using ih.1 i
    ·rcases List.mem_cons.1 hz with rfl|hz
     ·rw[hx];rfl
     ·exact ih.2 z hz
theorem zb{t:Nat}{z:List AV}{pl:List (Nat×Nat)}(h:vX E t=some (z,pl)){vs:List (Nat×AV)}:fT E t vs=(nZ pl z vs).map .agg:=by
 unfold vX at h;cases hi:E.ty t with
 |none=>rw[hi]at h;cases h
 |some i=>
  rw[hi]at h;obtain⟨cV,isAgg,size,bytes,zero,eS⟩:=i;cases cV<;>first|(cases h;done)|skip
  rename_i fs;cases zero with
  |none=>cases h
  |some z'=>
   simp only at h;cases hm:dP (fun(f:Field)=>(E.ty f.type).map fun fi=>(f.offset,fi.size)) fs.toList with
   |none=>rw[hm]at h;cases h
   |some l=>
    rw[hm]at h;simp only[aLT,aKV.injEq,Prod.mk.injEq]at h;obtain⟨h1,h2⟩:=h;subst h1;subst h2
    have hg:=LP hm;have wj:fs.toList.all (fun f=>(E.ty f.type).isSome)=true:=by
     rw[List.all_eq_true];intro f hf
     have:=hg.2 f hf
     simpa using this
    unfold fT gX;simp only[hi,wj,if_true,aN6];rw[Sc (pl:=l)];intro i
    have:=hg.1 i
    rw[<-this];cases hf:fs[i]? with
    |none=>simp[hf]
    |some f=>simp[hf]
def sG(E:Env)(t:Nat):Option (List AV×Nat):=match E.ty t with
 |some {cV:=.array _ e,zero:=some z,..}=>(E.ty e).map fun ei=>(z,ei.size)
 |_=>none
def ud(s:Nat)(cells:List AV)(vs:List (Nat×AV)):Option (List AV):=gV (fun i=>some (i*s,s)) cells vs
theorem TQ{s:Nat}{cells:List AV}:ud s cells []=some cells:=rfl
theorem QN{s:Nat}{cells:List AV}{i:Nat}{v:AV}{rest:List (Nat×AV)}:ud s cells ((i,v)::rest)=if(v.cells.length==s&&decide (i*s+s<=cells.length))=true then ud s (cells.take (i*s)++v.cells++cells.drop (i*s+s)) rest else none:=by
 unfold ud;rw[gV];simp only;by_cases h1:v.cells.length=s<;>by_cases h2:i*s+s<=cells.length
 ·have h3:¬i*s+s>cells.length:=by omega
  simp[h1,h2,h3]
 ·have h3:i*s+s>cells.length:=by omega
  simp[h1,h2,h3]
 ·simp[h1]
 ·simp[h1]
theorem wY{t s:Nat}{z:List AV}(h:sG E t=some (z,s)){vs:List (Nat×AV)}:fT E t vs=(ud s z vs).map .agg:=by
 unfold sG at h;cases hi:E.ty t with
 |none=>rw[hi]at h;cases h
 |some i=>
  rw[hi]at h;obtain⟨cV,isAgg,size,bytes,zero,eS⟩:=i;cases cV<;>first|(cases h;done)|skip
  cases zero with
  |none=>cases h
  |some z'=>
   simp only at h;rename_i len e;cases he:E.ty e with
   |none=>rw[he]at h;cases h
   |some ei=>
    rw[he]at h;simp only[aLT,aKV.injEq,Prod.mk.injEq]at h;obtain⟨h1,h2⟩:=h;subst h1;subst h2
    unfold fT gX;simp only[hi,he,aLT,aN6];rfl
theorem Bg(C:Ctx E){t:Nat}{x}(h:sG E0 t=some x):sG E t=some x:=by unfold sG at h⊢;rw[C.ty];exact h
theorem sw(C:Ctx E){t:Nat}{v:AV}(h:fR E0 t=some v):fR E t=some v:=by unfold fR at h⊢;rw[C.ty];exact h
theorem jJ(C:Ctx E){t:Nat}{x}(h:ek E0 t=some x):ek E t=some x:=by unfold ek at h⊢;rw[C.ty];exact h
theorem lA(C:Ctx E){t f:Nat}{x}(h:fE E0 t f=some x):fE E t f=some x:=by unfold fE at h⊢;rw[C.ty];exact h
theorem Ak(C:Ctx E){t:Nat}{x}(h:gv E0 t=some x):gv E t=some x:=by unfold gv at h⊢;rw[C.ty];exact h
theorem zC(C:Ctx E){t:Nat}{x}(h:eu E0 t=some x):eu E t=some x:=by unfold eu at h⊢;rw[C.ty];exact h
theorem v8(C:Ctx E){t:Nat}{x}(h:vX E0 t=some x):vX E t=some x:=by unfold vX at h⊢;rw[C.ty];exact h
theorem MC(C:Ctx E){t:Nat}(h:ll E0 t=true):ll E t=true:=by unfold ll at h⊢;rw[C.ty];exact h
theorem bS(C:Ctx E){f:Nat}{b:Bool}(h:bQ E0 f=b):bQ E f=b:=by unfold bQ at h⊢;rw[C.fn];exact h
theorem zU(C:Ctx E){f:Nat}{b:Bool}(h:ku E0 f=b):ku E f=b:=by unfold ku at h⊢;rw[C.fn];exact h
theorem eR(C:Ctx E){i n:Nat}{l:List (Nat×Nat)}(h:Ra i n=l):E.pairs i n=l:=by rw[C.pairs];exact h
theorem KA{t:Nat}(h:ll E t=true){H:Hp}{aL:Nat}{s:List UInt8}:aV E H aL .len [t] [.str s]=some (.int .i64 s.length,[]):=by
 unfold ll at h;cases hi:E.ty t with
 |none=>rw[hi]at h;cases h
 |some i=>
  rw[hi]at h;obtain⟨cV,isAgg,size,bytes,zero,eS⟩:=i;cases cV<;>first|(cases h;done)|simp[aV,rS,hi]
theorem Xg{t:Nat}(h:ll E t=true){s:List UInt8}{i:Nat}{c:UInt8}(hc:s[i]?=some c){k:IntKind}:pZ E t (.str s) (.int k (i:Int))=some (.int .u8 c.toNat):=by
 unfold ll at h;cases hi:E.ty t with
 |none=>rw[hi]at h;cases h
 |some ti=>
  rw[hi]at h;obtain⟨cV,isAgg,size,bytes,zero,eS⟩:=ti;cases cV<;>first|(cases h;done)|simp[pZ,hi,hc]
theorem akE{t:Nat}(h:ll E t=true){H:Hp}{s:List UInt8}{lo hi:Option AV}:Ez E H t (.str s) lo hi=(gW s.length s.length lo hi).map fun x=>.str ((s.drop x.1).take (x.2-x.1)):=by
 unfold ll at h;cases AK:E.ty t with
 |none=>rw[AK]at h;cases h
 |some ti=>
  rw[AK]at h;obtain⟨cV,isAgg,size,bytes,zero,eS⟩:=ti;cases cV<;>first|(cases h;done)|simp[Ez,iS,AK]
end
theorem aa6{ts:List AV}{s:ByteArray}:cn ts (.const (.string s))=some (.str s.data.toList):=rfl
theorem Mk{H:Hp}{cs:List AV}{o:Nat}:cellAt (H++[.cells .live cs]) H.length o=cs[o]?:=by
 rw[iX];simp
theorem Rg{H:Hp}{cs:List AV}{o n:Nat}:lZ n (H++[.cells .live cs]) H.length o=if o+n<=cs.length then some (.agg ((cs.drop o).take n))else none:=by
 rw[lW];simp
theorem Ji{H:Hp}{n:Nat}{xs cs:List AV}{o:Nat}:mK n xs (H++[.cells .live cs]) H.length o=if(xs.length==n&&(decide (o+n<=cs.length)&&xs.all df))=true then some (.cells .live (cH cs o xs))else none:=by
 rw[kH];simp
theorem CY{H:Hp}{x y:cz}:eE (H++[x]) H.length y=H++[y]:=by
 unfold eE
 simp
theorem ep{H:Hp}{y:cz}:eE H H.length y=H++[y]:=by
 unfold eE
 simp
theorem Sp{out:List Nat}{H:Hp}{j z:Nat}(hj:j<out.length):mK 1 [.int .u32 (z:Int)] (H++[.cells .live (cM out)]) H.length j=some (.cells .live (cM (out.set j z))):=by rw[Ji,xg hj,pH,if_pos];simp[df];omega
theorem il{out:List Nat}{j:Nat}(hj:j<out.length):(cM out)[j]?=some (.int .u32 ((out.getD j 0:Nat):Int)):=by simp[cM,List.getD,hj]
theorem NN{n:Nat}:iE [.int .u32 0] n=cM (List.replicate n 0):=SW
def Gw:=dZ (dZ (And.intro @gR @fq) (And.intro @kP @Zy) (And.intro @mW @abR) (And.intro @qw @mH)) (dZ (And.intro @qb @cQ) (And.intro @lP @ga) (And.intro @aqu @age) (And.intro @anz @aq7)) (dZ (And.intro @gb @Fg) (And.intro @rG @mN) (And.intro @aa6 @abU) (And.intro @nO @UQ)) (dZ (And.intro @PJ @TQ) (And.intro @QN @Pb) (And.intro @jS @Xt) (And.intro @J6 (And.intro @NJ @ag6)))
section
variable{E:Env} [C:Ctx E]
theorem DX:eu E 58=some (false,1,4,[.int .u32 0]):=zC C (by kernel_rfl)
theorem aeE{aL m:Nat}{k k':IntKind}(h:m<=100000000000):fM E aL 58 (.int k (m:Int)) (.int k' (m:Int))=some (.aI aL 0 m 1 m,[(aL,.cells .live (iE [.int .u32 0] m))]):=Rk DX rfl (by decide) (by unfold gO;omega) (by omega)
theorem jT:iI E 154=some .u64:=Eh C (by kernel_rfl)
theorem Yc:ek E 156=some (false,1):=jJ C (by kernel_rfl)
theorem iB:iI E 156=some .u32:=Eh C (by kernel_rfl)
theorem ai9:E.pairs 5 10=[]:=eR C rfl
noncomputable def arX:=fW Tryz.f178
theorem aqP:E0.fn 178=some {code:=arX,ntmps:=40,results:=[.tmp 4],pure:=false,fL:=false}:=by kernel_rfl
theorem apl:bQ E 211=true:=bS C (by kernel_rfl)
theorem aoC:ku E 211=true:=zU C (by kernel_rfl)
theorem apm{st:Bool}{bl:List AV}{H:Hp}{k:AV->cE->Prop}:jm E false st 211 bl H k=tJ (de E 211 bl H) fun r H2=>k r (.Ee H2):=mw apl (by rw[aoC];rfl)
theorem agt:E.pairs 7 17=[]:=eR C rfl
noncomputable def am7:=fW Tryz.f180
theorem aqh:E0.fn 180=fI am7 45 [.tmp 4]:=by kernel_rfl
theorem kd2:iI E 2=some .i64:=Eh C (by kernel_rfl)
theorem aj0:E.pairs 2 14=[]:=eR C rfl
theorem akd:E.pairs 3 18=[]:=eR C rfl
theorem aiN:E.pairs 4 26=[]:=eR C rfl
noncomputable def xi:=fW Tryz.f179
theorem amX:E0.fn 179=some {code:=xi,ntmps:=173,results:=[.tmp 4],pure:=false,fL:=false}:=by kernel_rfl
theorem arA:bQ E 177=false:=bS C (by kernel_rfl)
theorem anm:bQ E 178=true:=bS C (by kernel_rfl)
theorem apC:ku E 178=false:=zU C (by kernel_rfl)
theorem aqW{dr st:Bool}{bl:List AV}{H:Hp}{k:AV->cE->Prop}:jm E dr st 178 bl H k=tJ (de E 178 bl H) fun r H2=>k r (.Ee H2):=mw anm (by rw[apC];rfl)
theorem aoq:bQ E 179=true:=bS C (by kernel_rfl)
theorem anh:ku E 179=false:=zU C (by kernel_rfl)
theorem aqL{dr st:Bool}{bl:List AV}{H:Hp}{k:AV->cE->Prop}:jm E dr st 179 bl H k=tJ (de E 179 bl H) fun r H2=>k r (.Ee H2):=mw aoq (by rw[anh];rfl)
noncomputable def anc:=fW Tryz.f143
theorem anF:E0.fn 143=fI anc 79 [.tmp 4,.tmp 5]:=by kernel_rfl
theorem pI4:ek E 4=some (false,1):=jJ C (by kernel_rfl)
theorem vn:isBool E 4=true:=K0 C (by kernel_rfl)
theorem auO:ek E 58=some (false,1):=jJ C (by kernel_rfl)
theorem alR:ek E 60=some (true,2):=jJ C (by kernel_rfl)
theorem auK:fR E 60=some (.agg [.bool false,.aH]):=sw C (by kernel_rfl)
theorem av9{vs:List (Nat×AV)}:fT E 60 vs=(nZ [(0,1),(1,1)] [.bool false,.aH] vs).map .agg:=zb (v8 C (by kernel_rfl))
theorem agZ:fE E 60 1=some (1,false,1):=lA C (by kernel_rfl)
theorem aiU:fE E 60 0=some (0,false,1):=lA C (by kernel_rfl)
theorem ahB:E.pairs 4 13=[]:=eR C rfl
theorem arF:E.pairs 6 8=[(1,4)]:=eR C rfl
theorem aqp:E.pairs 7 5=[(1,2)]:=eR C rfl
noncomputable def anb:=fW Tryz.f103
theorem anY:E0.fn 103=fI anb 51 [.cell 4 60,.cell 5 60,.tmp 6]:=by kernel_rfl
theorem ary:E.pairs 1 6=[]:=eR C rfl
noncomputable def aoY:=fW Tryz.f104
theorem aqC:E0.fn 104=fI aoY 26 [.cell 4 60]:=by kernel_rfl
theorem kd3:iI E 3=some .i64:=Eh C (by kernel_rfl)
theorem st9:ll E 9=true:=MC C (by kernel_rfl)
theorem apu{H:Hp}{aL:Nat}{s:List UInt8}:aV E H aL .len [9] [.str s]=some (.int .i64 s.length,[]):=KA st9
theorem axY{H:Hp}{s:List UInt8}{lo hi:Option AV}:Ez E H 9 (.str s) lo hi=(gW s.length s.length lo hi).map fun x=>.str ((s.drop x.1).take (x.2-x.1)):=akE st9
theorem Mm:eu E 54=some (false,1,16,[.str []]):=zC C (by kernel_rfl)
theorem aAm:bQ E 91=false:=bS C (by kernel_rfl)
theorem aus:bQ E 92=false:=bS C (by kernel_rfl)
theorem ayY:bQ E 93=true:=bS C (by kernel_rfl)
theorem awc:ku E 93=false:=zU C (by kernel_rfl)
theorem azl{dr st:Bool}{bl:List AV}{H:Hp}{k:AV->cE->Prop}:jm E dr st 93 bl H k=tJ (de E 93 bl H) fun r H2=>k r (.Ee H2):=mw ayY (by rw[awc];rfl)
theorem aAc:bQ E 94=false:=bS C (by kernel_rfl)
noncomputable def c51:=fW Tryz.f51
theorem ayu:E0.fn 51=fI c51 49 [.tmp 2]:=by kernel_rfl
theorem apj:bQ E 156=false:=bS C (by kernel_rfl)
theorem alD:bQ E 157=false:=bS C (by kernel_rfl)
theorem aqy:bQ E 159=false:=bS C (by kernel_rfl)
noncomputable def Hq:=fW Tryz.f119
theorem amo:E0.fn 119=fI Hq 71 [.cell 2 60,.tmp 3]:=by kernel_rfl
theorem UX:ek E 62=some (true,4):=jJ C (by kernel_rfl)
theorem ahf:fR E 62=some (.agg [.bool false,.aH,.bool false,.aH]):=sw C (by kernel_rfl)
theorem ax9{vs:List (Nat×AV)}:fT E 62 vs=(nZ [(0,2),(2,2)] [.bool false,.aH,.bool false,.aH] vs).map .agg:=zb (v8 C (by kernel_rfl))
noncomputable def c18:=fW Tryz.f18
theorem aw5:E0.fn 18=fI c18 6 [.cell 2 62]:=by kernel_rfl
theorem ajv:fE E 62 1=some (2,true,2):=lA C (by kernel_rfl)
theorem akB:fE E 62 0=some (0,true,2):=lA C (by kernel_rfl)
theorem ard:E.pairs 3 9=[]:=eR C rfl
noncomputable def c19:=fW Tryz.f19
theorem axA:E0.fn 19=fI c19 16 [.tmp 2]:=by kernel_rfl
noncomputable def c38:=fW Tryz.f38
theorem aw7:E0.fn 38=fI c38 6 [.tmp 2]:=by kernel_rfl
noncomputable def c39:=fW Tryz.f39
theorem axv:E0.fn 39=fI c39 8 [.cell 2 62,.tmp 3]:=by kernel_rfl
theorem akj:E.pairs 1 12=[(4,8),(4,9)]:=eR C rfl
noncomputable def c50:=fW Tryz.f50
theorem auS:E0.fn 50=fI c50 14 [.tmp 2]:=by kernel_rfl
noncomputable def c52:=fW Tryz.f52
theorem ayF:E0.fn 52=fI c52 8 [.tmp 2,.tmp 3]:=by kernel_rfl
theorem ait:E.pairs 3 13=[]:=eR C rfl
noncomputable def c64:=fW Tryz.f64
theorem avK:E0.fn 64=fI c64 21 [.cell 4 62,.tmp 5]:=by kernel_rfl
theorem aio:E.pairs 3 12=[]:=eR C rfl
noncomputable def c67:=fW Tryz.f67
theorem azR:E0.fn 67=fI c67 28 [.cell 4 62]:=by kernel_rfl
theorem vj:eu E 118=some (true,4,64,[.bool false,.aH,.bool false,.aH]):=zC C (by kernel_rfl)
theorem zM{aL m:Nat}{k k':IntKind}(h:m<=100000000000):fM E aL 118 (.int k (m:Int)) (.int k' (m:Int))=some (.aI aL 0 m 4 m,[(aL,.cells .live (iE [.bool false,.aH,.bool false,.aH] m))]):=Rk vj rfl (by decide) (by unfold gO;omega) (by omega)
theorem alv:bQ E 114=false:=bS C (by kernel_rfl)
noncomputable def c74:=fW Tryz.f74
theorem axj:E0.fn 74=fI c74 17 [.cell 2 62]:=by kernel_rfl
theorem apt:bQ E 117=false:=bS C (by kernel_rfl)
theorem amd:bQ E 118=false:=bS C (by kernel_rfl)
theorem acP:E.pairs 15 16=[]:=eR C rfl
noncomputable def c76:=fW Tryz.f76
theorem awr:E0.fn 76=fI c76 85 [.cell 4 62,.tmp 5]:=by kernel_rfl
theorem aed:eu E 25=some (false,1,16,[.str []]):=zC C (by kernel_rfl)
theorem apc{aL m:Nat}{k k':IntKind}(h:m<=100000000000):fM E aL 25 (.int k (m:Int)) (.int k' (m:Int))=some (.aI aL 0 m 1 m,[(aL,.cells .live (iE [.str []] m))]):=Rk aed rfl (by decide) (by unfold gO;omega) (by omega)
theorem Ys:ek E 26=some (false,1):=jJ C (by kernel_rfl)
noncomputable def c82:=fW Tryz.f82
theorem awl:E0.fn 82=fI c82 23 [.tmp 2]:=by kernel_rfl
noncomputable def c86:=fW Tryz.f86
theorem aAk:E0.fn 86=fI c86 8 [.cell 2 62,.tmp 3]:=by kernel_rfl
noncomputable def c89:=fW Tryz.f89
theorem awm:E0.fn 89=fI c89 2 [.cell 0 60]:=by kernel_rfl
noncomputable def c95:=fW Tryz.f95
theorem aAn:E0.fn 95=fI c95 34 [.tmp 4,.tmp 5]:=by kernel_rfl
noncomputable def arv:=fW Tryz.f102
theorem aoh:E0.fn 102=fI arv 27 [.tmp 4]:=by kernel_rfl
noncomputable def alC:=fW Tryz.f105
theorem aoL:E0.fn 105=fI alC 10 [.cell 2 60]:=by kernel_rfl
noncomputable def arP:=fW Tryz.f107
theorem asj:E0.fn 107=fI arP 13 [.cell 4 62,.tmp 5]:=by kernel_rfl
noncomputable def ao0:=fW Tryz.f108
theorem al8:E0.fn 108=fI ao0 5 [.cell 2 60]:=by kernel_rfl
theorem aob:E.pairs 2 6=[]:=eR C rfl
theorem aoJ:E.pairs 4 4=[]:=eR C rfl
noncomputable def aji:=fW Tryz.f109
theorem afN:E0.fn 109=fI aji 37 [.cell 4 62]:=by kernel_rfl
theorem ani:E.pairs 1 5=[]:=eR C rfl
noncomputable def asr:=fW Tryz.f111
theorem ap5:E0.fn 111=fI asr 9 [.cell 4 62]:=by kernel_rfl
noncomputable def alK:=fW Tryz.f114
theorem aqn:E0.fn 114=fI alK 34 [.cell 4 62]:=by kernel_rfl
noncomputable def apd:=fW Tryz.f116
theorem amf:E0.fn 116=fI apd 10 [.tmp 2]:=by kernel_rfl
theorem aqN:E.pairs 1 7=[]:=eR C rfl
noncomputable def asq:=fW Tryz.f137
theorem ao6:E0.fn 137=fI asq 9 [.cell 2 62]:=by kernel_rfl
theorem Vn:ek E 72=some (true,12):=jJ C (by kernel_rfl)
theorem agA{vs:List (Nat×AV)}:fT E 72 vs=(ud 4 [.bool false,.aH,.bool false,.aH,.bool false,.aH,.bool false,.aH,.bool false,.aH,.bool false,.aH] vs).map .agg:=wY (Bg C (by kernel_rfl))
noncomputable def c28:=fW Tryz.f28
theorem aws:E0.fn 28=fI c28 7 [.tmp 2]:=by kernel_rfl
theorem ady:ek E 37=some (true,3):=jJ C (by kernel_rfl)
theorem awG:fR E 37=some (.agg [.str [],.str [],.str []]):=sw C (by kernel_rfl)
theorem adU:gv E 37=some (3,false,1):=Ak C (by kernel_rfl)
theorem aaf:gv E 72=some (3,true,4):=Ak C (by kernel_rfl)
noncomputable def c32:=fW Tryz.f32
theorem avp:E0.fn 32=fI c32 17 [.cell 2 37]:=by kernel_rfl
theorem akA:fR E 72=some (.agg [.bool false,.aH,.bool false,.aH,.bool false,.aH,.bool false,.aH,.bool false,.aH,.bool false,.aH]):=sw C (by kernel_rfl)
noncomputable def c35:=fW Tryz.f35
theorem auW:E0.fn 35=fI c35 8 [.cell 2 72,.tmp 3]:=by kernel_rfl
noncomputable def c36:=fW Tryz.f36
theorem au2:E0.fn 36=fI c36 9 [.tmp 4]:=by kernel_rfl
noncomputable def c37:=fW Tryz.f37
theorem azK:E0.fn 37=fI c37 11 [.cell 4 62]:=by kernel_rfl
noncomputable def c48:=fW Tryz.f48
theorem az5:E0.fn 48=fI c48 8 [.cell 2 72,.tmp 3]:=by kernel_rfl
theorem arM:E.pairs 4 8=[]:=eR C rfl
noncomputable def c59:=fW Tryz.f59
theorem ax7:E0.fn 59=fI c59 21 [.tmp 4]:=by kernel_rfl
theorem agy:E.pairs 7 15=[(0,10),(1,10),(2,10),(3,10),(4,10),(5,10),(0,11),(1,11),(2,11),(3,11),(4,11),(5,11),(10,11)]:=eR C rfl
theorem apA:E.pairs 8 5=[]:=eR C rfl
theorem aie:E.pairs 10 9=[(0,6),(1,6),(2,6)]:=eR C rfl
theorem aj1:E.pairs 16 5=[]:=eR C rfl
theorem ah5:E.pairs 18 9=[(0,6),(1,6),(2,6)]:=eR C rfl
noncomputable def c63:=fW Tryz.f63
theorem au4:E0.fn 63=fI c63 67 [.cell 2 72,.tmp 3]:=by kernel_rfl
noncomputable def c65:=fW Tryz.f65
theorem azQ:E0.fn 65=fI c65 9 [.cell 4 72]:=by kernel_rfl
theorem awN:bQ E 67=false:=bS C (by kernel_rfl)
theorem asK:bQ E 111=false:=bS C (by kernel_rfl)
theorem ahE:E.pairs 6 18=[]:=eR C rfl
noncomputable def c66:=fW Tryz.f66
theorem axa:E0.fn 66=fI c66 37 [.cell 4 72]:=by kernel_rfl
theorem ar7:ek E 139=some (true,3):=jJ C (by kernel_rfl)
theorem alB:gv E 139=some (3,false,1):=Ak C (by kernel_rfl)
theorem axI:bQ E 18=false:=bS C (by kernel_rfl)
theorem axd{dr st:Bool}{bl:List AV}{H:Hp}{k:AV->cE->Prop}:jm E dr st 18 bl H k=tX (bW H bl) fun cl bs=>ck (aP E 18 cl) fun r=>k r (if bR r=true then cE.looks bs else cE.marks bs):=gn axI
noncomputable def c68:=fW Tryz.f68
theorem awy:E0.fn 68=fI c68 17 [.cell 2 72]:=by kernel_rfl
noncomputable def c69:=fW Tryz.f69
theorem awt:E0.fn 69=fI c69 6 [.cell 2 72]:=by kernel_rfl
noncomputable def c72:=fW Tryz.f72
theorem auR:E0.fn 72=fI c72 31 [.cell 4 72,.tmp 5]:=by kernel_rfl
theorem aiw:E.pairs 5 11=[]:=eR C rfl
noncomputable def c73:=fW Tryz.f73
theorem ayi:E0.fn 73=fI c73 24 [.cell 6 72]:=by kernel_rfl
noncomputable def c81:=fW Tryz.f81
theorem avV:E0.fn 81=fI c81 19 [.tmp 4]:=by kernel_rfl
noncomputable def c85:=fW Tryz.f85
theorem ayT:E0.fn 85=fI c85 8 [.cell 4 72]:=by kernel_rfl
noncomputable def ao1:=fW Tryz.f110
theorem aru:E0.fn 110=fI ao1 9 [.cell 5 62]:=by kernel_rfl
theorem aw4:ek E 44=some (true,4):=jJ C (by kernel_rfl)
theorem awp{vs:List (Nat×AV)}:fT E 44 vs=(ud 1 [.int .i64 0,.int .i64 0,.int .i64 0,.int .i64 0] vs).map .agg:=wY (Bg C (by kernel_rfl))
theorem aoK:gv E 44=some (4,false,1):=Ak C (by kernel_rfl)
theorem PR:fE E 46 1=some (4,true,3):=lA C (by kernel_rfl)
theorem ajO:fE E 46 0=some (0,true,4):=lA C (by kernel_rfl)
theorem azI:bQ E 48=false:=bS C (by kernel_rfl)
theorem auH{dr st:Bool}{bl:List AV}{H:Hp}{k:AV->cE->Prop}:jm E dr st 48 bl H k=tX (bW H bl) fun cl bs=>ck (aP E 48 cl) fun r=>k r (if bR r=true then cE.looks bs else cE.marks bs):=gn azI
noncomputable def c16:=fW Tryz.f16
theorem ayN:E0.fn 16=fI c16 60 [.tmp 2]:=by kernel_rfl
theorem pI3:ek E 3=some (false,1):=jJ C (by kernel_rfl)
theorem aks:ek E 46=some (true,7):=jJ C (by kernel_rfl)
theorem Sl:gv E 103=some (3,true,12):=Ak C (by kernel_rfl)
theorem NR:ek E 105=some (true,48):=jJ C (by kernel_rfl)
theorem Xz:fR E 105=some (.agg [.bool false,.aH,.bool false,.aH,.bool false,.aH,.bool false,.aH,.bool false,.aH,.bool false,.aH,.bool false,.aH,.bool false,.aH,.bool false,.aH,.bool false,.aH,.bool false,.aH,.bool false,.aH,.bool false,.aH,.bool false,.aH,.bool false,.aH,.bool false,.aH,.bool false,.aH,.bool false,.aH,.bool false,.aH,.bool false,.aH,.bool false,.aH,.bool false,.aH,.bool false,.aH,.bool false,.aH]):=sw C (by kernel_rfl)
theorem apT{vs:List (Nat×AV)}:fT E 105 vs=(nZ [(0,36),(36,12)] [.bool false,.aH,.bool false,.aH,.bool false,.aH,.bool false,.aH,.bool false,.aH,.bool false,.aH,.bool false,.aH,.bool false,.aH,.bool false,.aH,.bool false,.aH,.bool false,.aH,.bool false,.aH,.bool false,.aH,.bool false,.aH,.bool false,.aH,.bool false,.aH,.bool false,.aH,.bool false,.aH,.bool false,.aH,.bool false,.aH,.bool false,.aH,.bool false,.aH,.bool false,.aH,.bool false,.aH] vs).map .agg:=zb (v8 C (by kernel_rfl))
theorem acy:fE E 105 0=some (0,true,36):=lA C (by kernel_rfl)
theorem af6:ek E 138=some (true,3):=jJ C (by kernel_rfl)
theorem ami:fR E 138=some (.agg [.int .i64 0,.int .i64 0,.int .i64 0]):=sw C (by kernel_rfl)
theorem anO{vs:List (Nat×AV)}:fT E 138 vs=(ud 1 [.int .i64 0,.int .i64 0,.int .i64 0] vs).map .agg:=wY (Bg C (by kernel_rfl))
theorem afC:ek E 152=some (true,9):=jJ C (by kernel_rfl)
theorem api:fR E 152=some (.agg [.int .i64 0,.int .i64 0,.int .i64 0,.int .i64 0,.int .i64 0,.int .i64 0,.int .i64 0,.int .i64 0,.int .i64 0]):=sw C (by kernel_rfl)
theorem asQ{vs:List (Nat×AV)}:fT E 152 vs=(ud 3 [.int .i64 0,.int .i64 0,.int .i64 0,.int .i64 0,.int .i64 0,.int .i64 0,.int .i64 0,.int .i64 0,.int .i64 0] vs).map .agg:=wY (Bg C (by kernel_rfl))
theorem aqK:gv E 152=some (3,true,3):=Ak C (by kernel_rfl)
theorem aja:bQ E 16=false:=bS C (by kernel_rfl)
theorem arS{dr st:Bool}{bl:List AV}{H:Hp}{k:AV->cE->Prop}:jm E dr st 16 bl H k=tX (bW H bl) fun cl bs=>ck (aP E 16 cl) fun r=>k r (if bR r=true then cE.looks bs else cE.marks bs):=gn aja
theorem azh:bQ E 64=false:=bS C (by kernel_rfl)
theorem axf{dr st:Bool}{bl:List AV}{H:Hp}{k:AV->cE->Prop}:jm E dr st 64 bl H k=tX (bW H bl) fun cl bs=>ck (aP E 64 cl) fun r=>k r (if bR r=true then cE.looks bs else cE.marks bs):=gn azh
theorem agN:E.pairs 5 16=[]:=eR C rfl
theorem akx:E.pairs 12 8=[]:=eR C rfl
noncomputable def c42:=fW Tryz.f42
theorem avL:E0.fn 42=fI c42 175 [.cell 2 105,.tmp 3]:=by kernel_rfl
theorem afs:ek E 103=some (true,36):=jJ C (by kernel_rfl)
noncomputable def c84:=fW Tryz.f84
theorem azM:E0.fn 84=fI c84 21 [.cell 4 72]:=by kernel_rfl
theorem Uv:ek E 74=some (true,24):=jJ C (by kernel_rfl)
theorem aj7:fR E 74=some (.agg [.bool false,.aH,.bool false,.aH,.bool false,.aH,.bool false,.aH,.bool false,.aH,.bool false,.aH,.bool false,.aH,.bool false,.aH,.bool false,.aH,.bool false,.aH,.bool false,.aH,.bool false,.aH]):=sw C (by kernel_rfl)
theorem auY{vs:List (Nat×AV)}:fT E 74 vs=(nZ [(0,12),(12,12)] [.bool false,.aH,.bool false,.aH,.bool false,.aH,.bool false,.aH,.bool false,.aH,.bool false,.aH,.bool false,.aH,.bool false,.aH,.bool false,.aH,.bool false,.aH,.bool false,.aH,.bool false,.aH] vs).map .agg:=zb (v8 C (by kernel_rfl))
theorem ajd:ek E 78=some (true,6):=jJ C (by kernel_rfl)
noncomputable def c23:=fW Tryz.f23
theorem axi:E0.fn 23=fI c23 17 [.cell 2 74,.tmp 3]:=by kernel_rfl
theorem Ku:fE E 74 1=some (12,true,12):=lA C (by kernel_rfl)
theorem WV:fE E 74 0=some (0,true,12):=lA C (by kernel_rfl)
theorem ane:E.pairs 9 9=[(0,6),(1,6),(2,6)]:=eR C rfl
theorem axk:fR E 78=some (.agg [.str [],.str [],.str [],.str [],.str [],.str []]):=sw C (by kernel_rfl)
noncomputable def c41:=fW Tryz.f41
theorem az8:E0.fn 41=fI c41 11 [.cell 2 78]:=by kernel_rfl
theorem acB:fE E 105 1=some (36,true,12):=lA C (by kernel_rfl)
theorem ahh:E.pairs 2 12=[]:=eR C rfl
noncomputable def c43:=fW Tryz.f43
theorem avW:E0.fn 43=fI c43 21 [.cell 4 74]:=by kernel_rfl
theorem azp:gv E 77=some (6,false,1):=Ak C (by kernel_rfl)
theorem alL:E.pairs 3 6=[(1,3)]:=eR C rfl
theorem ahc:E.pairs 4 11=[(3,9),(4,9),(5,9),(6,9),(7,9),(7,8)]:=eR C rfl
noncomputable def c57:=fW Tryz.f57
theorem ayJ:E0.fn 57=fI c57 24 [.cell 2 72,.cell 3 72,.tmp 4]:=by kernel_rfl
noncomputable def c77:=fW Tryz.f77
theorem azu:E0.fn 77=fI c77 10 [.cell 4 74]:=by kernel_rfl
noncomputable def c78:=fW Tryz.f78
theorem avG:E0.fn 78=fI c78 5 [.cell 2 74]:=by kernel_rfl
noncomputable def c79:=fW Tryz.f79
theorem ayB:E0.fn 79=fI c79 16 [.cell 4 74]:=by kernel_rfl
theorem aiH:E.pairs 5 15=[(10,12)]:=eR C rfl
noncomputable def c83:=fW Tryz.f83
theorem az9:E0.fn 83=fI c83 26 [.tmp 4]:=by kernel_rfl
theorem Uf:eu E 91=some (false,1,8,[.int .i64 0]):=zC C (by kernel_rfl)
theorem Xy:ek E 118=some (false,1):=jJ C (by kernel_rfl)
theorem vQ:eu E 216=some (false,1,24,[.aH]):=zC C (by kernel_rfl)
theorem ab4{cs:List AV}{m:Nat}{k:IntKind}{x:Int}:cF E 216 (.aK cs m) (.int k x)=if 0<=x/\x<(m:Int)then some (.eX cs (x.toNat*1))else none:=qI vQ
theorem apb:bQ E 172=true:=bS C (by kernel_rfl)
theorem anL:ku E 172=true:=zU C (by kernel_rfl)
theorem aoX{st:Bool}{bl:List AV}{H:Hp}{k:AV->cE->Prop}:jm E false st 172 bl H k=tJ (de E 172 bl H) fun r H2=>k r (.Ee H2):=mw apb (by rw[anL];rfl)
noncomputable def ar2:=fW Tryz.f139
theorem an6:E0.fn 139=fI ar2 41 [.tmp 2,.tmp 3,.tmp 4]:=by kernel_rfl
theorem GG:eu E 65=some (false,1,24,[.aH]):=zC C (by kernel_rfl)
noncomputable def aqF:=fW Tryz.f169
theorem apq:E0.fn 169=fI aqF 25 [.tmp 2]:=by kernel_rfl
theorem anQ:bQ E 198=true:=bS C (by kernel_rfl)
theorem ao4:ku E 198=true:=zU C (by kernel_rfl)
theorem arz{st:Bool}{bl:List AV}{H:Hp}{k:AV->cE->Prop}:jm E false st 198 bl H k=tJ (de E 198 bl H) fun r H2=>k r (.Ee H2):=mw anQ (by rw[ao4];rfl)
theorem adf:E.pairs 13 16=[]:=eR C rfl
theorem acC:E.pairs 15 10=[]:=eR C rfl
theorem aeo:E.pairs 16 16=[]:=eR C rfl
theorem acw:E.pairs 21 20=[]:=eR C rfl
theorem ajp:E.pairs 24 6=[]:=eR C rfl
noncomputable def amR:=fW Tryz.f170
theorem aqi:E0.fn 170=fI amR 142 [.tmp 4,.tmp 5,.cell 6 62]:=by kernel_rfl
noncomputable def aow:=fW Tryz.f171
theorem alA:E0.fn 171=fI aow 10 [.tmp 2]:=by kernel_rfl
noncomputable def an9:=fW Tryz.f198
theorem aqc:E0.fn 198=some {code:=an9,ntmps:=8,results:=[.tmp 2],pure:=false,fL:=true}:=by kernel_rfl
noncomputable def amh:=fW Tryz.f199
theorem ap7:E0.fn 199=fI amh 9 [.tmp 4]:=by kernel_rfl
noncomputable def arl:=fW Tryz.f200
theorem aoM:E0.fn 200=fI arl 11 [.tmp 6]:=by kernel_rfl
theorem ahL:E.pairs 5 14=[]:=eR C rfl
noncomputable def alN:=fW Tryz.f230
theorem aqI:E0.fn 230=fI alN 32 [.tmp 6]:=by kernel_rfl
noncomputable def amA:=fW Tryz.f231
theorem asC:E0.fn 231=fI amA 15 [.cell 5 62]:=by kernel_rfl
noncomputable def amZ:=fW Tryz.f232
theorem anA:E0.fn 232=fI amZ 15 [.cell 5 62]:=by kernel_rfl
noncomputable def apY:=fW Tryz.f172
theorem aq9:E0.fn 172=some {code:=apY,ntmps:=8,results:=[.tmp 2],pure:=false,fL:=true}:=by kernel_rfl
theorem asb:ek E 31=some (true,3):=jJ C (by kernel_rfl)
theorem awH:fR E 31=some (.agg [.int .i64 0,.aH,.aH]):=sw C (by kernel_rfl)
theorem aki{vs:List (Nat×AV)}:fT E 31 vs=(nZ [(0,1),(1,1),(2,1)] [.int .i64 0,.aH,.aH] vs).map .agg:=zb (v8 C (by kernel_rfl))
noncomputable def c7:=fW Tryz.f7
theorem fn7:E0.fn 7=fI c7 44 [.cell 6 31,.tmp 7]:=by kernel_rfl
noncomputable def c8:=fW Tryz.f8
theorem fn8:E0.fn 8=fI c8 11 [.tmp 2]:=by kernel_rfl
theorem Rx:eu E 24=some (false,1,24,[.aH]):=zC C (by kernel_rfl)
theorem auu:ek E 25=some (false,1):=jJ C (by kernel_rfl)
noncomputable def c20:=fW Tryz.f20
theorem ava:E0.fn 20=fI c20 41 [.tmp 6,.tmp 7]:=by kernel_rfl
theorem apo:ek E 24=some (false,1):=jJ C (by kernel_rfl)
theorem ag9:fE E 31 1=some (1,false,1):=lA C (by kernel_rfl)
theorem ajh:fE E 31 2=some (2,false,1):=lA C (by kernel_rfl)
theorem akh:E.pairs 4 12=[]:=eR C rfl
noncomputable def c21:=fW Tryz.f21
theorem awe:E0.fn 21=fI c21 31 [.cell 6 31,.tmp 7]:=by kernel_rfl
theorem ai0:fE E 31 0=some (0,false,1):=lA C (by kernel_rfl)
theorem ab8:E.pairs 12 12=[]:=eR C rfl
noncomputable def c22:=fW Tryz.f22
theorem axu:E0.fn 22=fI c22 67 [.cell 2 31,.tmp 3]:=by kernel_rfl
noncomputable def c53:=fW Tryz.f53
theorem awA:E0.fn 53=fI c53 19 [.cell 6 31,.tmp 7]:=by kernel_rfl
noncomputable def c54:=fW Tryz.f54
theorem ay6:E0.fn 54=fI c54 25 [.tmp 2]:=by kernel_rfl
noncomputable def c55:=fW Tryz.f55
theorem axS:E0.fn 55=fI c55 27 [.tmp 4]:=by kernel_rfl
theorem avh:bQ E 98=true:=bS C (by kernel_rfl)
theorem azr:ku E 98=false:=zU C (by kernel_rfl)
theorem aAo{dr st:Bool}{bl:List AV}{H:Hp}{k:AV->cE->Prop}:jm E dr st 98 bl H k=tJ (de E 98 bl H) fun r H2=>k r (.Ee H2):=mw avh (by rw[azr];rfl)
theorem azJ:bQ E 99=true:=bS C (by kernel_rfl)
theorem azH:ku E 99=false:=zU C (by kernel_rfl)
theorem axo{dr st:Bool}{bl:List AV}{H:Hp}{k:AV->cE->Prop}:jm E dr st 99 bl H k=tJ (de E 99 bl H) fun r H2=>k r (.Ee H2):=mw azJ (by rw[azH];rfl)
theorem asS:bQ E 101=true:=bS C (by kernel_rfl)
theorem anM:ku E 101=false:=zU C (by kernel_rfl)
theorem ap3{dr st:Bool}{bl:List AV}{H:Hp}{k:AV->cE->Prop}:jm E dr st 101 bl H k=tJ (de E 101 bl H) fun r H2=>k r (.Ee H2):=mw asS (by rw[anM];rfl)
noncomputable def c56:=fW Tryz.f56
theorem azd:E0.fn 56=fI c56 41 [.cell 6 31]:=by kernel_rfl
noncomputable def c96:=fW Tryz.f96
theorem avt:E0.fn 96=fI c96 8 [.tmp 4]:=by kernel_rfl
noncomputable def c97:=fW Tryz.f97
theorem avo:E0.fn 97=fI c97 8 [.tmp 4]:=by kernel_rfl
theorem ar1:ek E 65=some (false,1):=jJ C (by kernel_rfl)
theorem amJ{vs:List (Nat×AV)}:fT E 203 vs=(nZ [(0,1),(1,1),(2,1)] [.aH,.aH,.int .i64 0] vs).map .agg:=zb (v8 C (by kernel_rfl))
theorem adz:fE E 203 0=some (0,false,1):=lA C (by kernel_rfl)
noncomputable def c98:=fW Tryz.f98
theorem aAf:E0.fn 98=some {code:=c98,ntmps:=30,results:=[.tmp 2],pure:=false,fL:=false}:=by kernel_rfl
theorem ae2:ek E 201=some (false,1):=jJ C (by kernel_rfl)
theorem Gp:eu E 201=some (true,17,152,[.aH,.int .u64 0,.int .u64 0,.int .u64 0,.int .u64 0,.int .u64 0,.int .u64 0,.int .u64 0,.int .u64 0,.int .u64 0,.int .u64 0,.int .u64 0,.int .u64 0,.int .u64 0,.int .u64 0,.int .u64 0,.int .u64 0]):=zC C (by kernel_rfl)
theorem ado:fE E 203 2=some (2,false,1):=lA C (by kernel_rfl)
theorem ab2:fE E 203 1=some (1,false,1):=lA C (by kernel_rfl)
theorem ae8:ek E 211=some (true,17):=jJ C (by kernel_rfl)
theorem ap9:fR E 211=some (.agg [.aH,.int .u64 0,.int .u64 0,.int .u64 0,.int .u64 0,.int .u64 0,.int .u64 0,.int .u64 0,.int .u64 0,.int .u64 0,.int .u64 0,.int .u64 0,.int .u64 0,.int .u64 0,.int .u64 0,.int .u64 0,.int .u64 0]):=sw C (by kernel_rfl)
theorem aog{vs:List (Nat×AV)}:fT E 211 vs=(nZ [(0,1),(1,16)] [.aH,.int .u64 0,.int .u64 0,.int .u64 0,.int .u64 0,.int .u64 0,.int .u64 0,.int .u64 0,.int .u64 0,.int .u64 0,.int .u64 0,.int .u64 0,.int .u64 0,.int .u64 0,.int .u64 0,.int .u64 0,.int .u64 0] vs).map .agg:=zb (v8 C (by kernel_rfl))
theorem acV:fE E 211 1=some (1,true,16):=lA C (by kernel_rfl)
theorem adn:fE E 211 0=some (0,false,1):=lA C (by kernel_rfl)
theorem apf:bQ E 132=true:=bS C (by kernel_rfl)
theorem asI:ku E 132=false:=zU C (by kernel_rfl)
theorem anv{dr st:Bool}{bl:List AV}{H:Hp}{k:AV->cE->Prop}:jm E dr st 132 bl H k=tJ (de E 132 bl H) fun r H2=>k r (.Ee H2):=mw apf (by rw[asI];rfl)
theorem ar3:bQ E 133=true:=bS C (by kernel_rfl)
theorem anP:ku E 133=false:=zU C (by kernel_rfl)
theorem am8{dr st:Bool}{bl:List AV}{H:Hp}{k:AV->cE->Prop}:jm E dr st 133 bl H k=tJ (de E 133 bl H) fun r H2=>k r (.Ee H2):=mw ar3 (by rw[anP];rfl)
noncomputable def c99:=fW Tryz.f99
theorem aiB:E0.fn 99=some {code:=c99,ntmps:=152,results:=[],pure:=false,fL:=false}:=by kernel_rfl
noncomputable def aqG:=fW Tryz.f100
theorem ash:E0.fn 100=fI aqG 23 [.tmp 2]:=by kernel_rfl
theorem am9:bQ E 141=true:=bS C (by kernel_rfl)
theorem aqe:ku E 141=false:=zU C (by kernel_rfl)
theorem amI{dr st:Bool}{bl:List AV}{H:Hp}{k:AV->cE->Prop}:jm E dr st 141 bl H k=tJ (de E 141 bl H) fun r H2=>k r (.Ee H2):=mw am9 (by rw[aqe];rfl)
noncomputable def arN:=fW Tryz.f101
theorem ast:E0.fn 101=some {code:=arN,ntmps:=109,results:=[.cell 4 31],pure:=false,fL:=false}:=by kernel_rfl
noncomputable def arY:=fW Tryz.f130
theorem asH:E0.fn 130=fI arY 9 [.tmp 3]:=by kernel_rfl
theorem aiQ:E.pairs 6 12=[]:=eR C rfl
noncomputable def amG:=fW Tryz.f131
theorem anU:E0.fn 131=fI amG 40 [.cell 4 62]:=by kernel_rfl
theorem aqR:fR E 118=some (.aH):=sw C (by kernel_rfl)
theorem asE:E.pairs 4 6=[]:=eR C rfl
theorem abP:E.pairs 27 11=[(4,6)]:=eR C rfl
noncomputable def aqf:=fW Tryz.f132
theorem aom:E0.fn 132=some {code:=aqf,ntmps:=108,results:=[],pure:=false,fL:=false}:=by kernel_rfl
theorem aeD:ek E 154=some (false,1):=jJ C (by kernel_rfl)
theorem aqD:gv E 209=some (16,false,1):=Ak C (by kernel_rfl)
theorem aix:E.pairs 0 13=[]:=eR C rfl
noncomputable def aoH:=fW Tryz.f133
theorem arL:E0.fn 133=some {code:=aoH,ntmps:=16,results:=[],pure:=false,fL:=false}:=by kernel_rfl
theorem asc:E.pairs 5 6=[(0,4),(1,4),(2,4),(3,4)]:=eR C rfl
theorem ajz:E.pairs 6 13=[(0,8),(1,8),(2,8),(3,8),(0,9),(1,9),(2,9),(3,9),(8,9)]:=eR C rfl
theorem ac1:E.pairs 14 10=[]:=eR C rfl
theorem ajL:E.pairs 15 8=[]:=eR C rfl
theorem ahi:E.pairs 19 7=[]:=eR C rfl
theorem aa2:E.pairs 23 10=[]:=eR C rfl
noncomputable def anG:=fW Tryz.f135
theorem apD:E0.fn 135=fI anG 97 [.tmp 2]:=by kernel_rfl
theorem ag0:E.pairs 5 17=[]:=eR C rfl
noncomputable def amH:=fW Tryz.f136
theorem asN:E0.fn 136=fI amH 37 [.tmp 8]:=by kernel_rfl
theorem agj:E.pairs 1 11=[(0,8),(2,8),(3,8),(4,8)]:=eR C rfl
theorem arI:E.pairs 2 7=[]:=eR C rfl
noncomputable def amn:=fW Tryz.f167
theorem arZ:E0.fn 167=fI amn 22 [.tmp 5]:=by kernel_rfl
theorem YA:ek E 39=some (true,10):=jJ C (by kernel_rfl)
theorem aiW:fR E 39=some (.agg [.int .i64 0,.int .i64 0,.bool false,.str [],.str [],.str [],.str [],.str [],.str [],.str []]):=sw C (by kernel_rfl)
theorem ai1{vs:List (Nat×AV)}:fT E 39 vs=(nZ [(0,1),(1,1),(2,1),(3,3),(6,3),(9,1)] [.int .i64 0,.int .i64 0,.bool false,.str [],.str [],.str [],.str [],.str [],.str [],.str []] vs).map .agg:=zb (v8 C (by kernel_rfl))
theorem aj3:fE E 39 1=some (1,false,1):=lA C (by kernel_rfl)
theorem Pd:fE E 39 0=some (0,false,1):=lA C (by kernel_rfl)
theorem PH:fE E 39 2=some (2,false,1):=lA C (by kernel_rfl)
theorem fC:eu E 70=some (true,24,384,[.bool false,.aH,.bool false,.aH,.bool false,.aH,.bool false,.aH,.bool false,.aH,.bool false,.aH,.bool false,.aH,.bool false,.aH,.bool false,.aH,.bool false,.aH,.bool false,.aH,.bool false,.aH]):=zC C (by kernel_rfl)
theorem ay8:ek E 79=some (false,1):=jJ C (by kernel_rfl)
theorem aon:eu E 80=some (false,1,8,[.jk]):=zC C (by kernel_rfl)
noncomputable def c9:=fW Tryz.f9
theorem fn9:E0.fn 9=fI c9 98 [.cell 2 39,.tmp 3]:=by kernel_rfl
theorem apr:eu E 48=some (true,6,96,[.str [],.str [],.str [],.str [],.str [],.str []]):=zC C (by kernel_rfl)
theorem akD:bQ E 40=false:=bS C (by kernel_rfl)
theorem aoe:ku E 40=false:=zU C (by kernel_rfl)
theorem aq1{dr st:Bool}{bl:List AV}{H:Hp}{k:AV->cE->Prop}:jm E dr st 40 bl H k=tX (bW H bl) fun cl bs=>ck (aP E 40 cl) fun r=>k r (if bR r=true then cE.looks bs else cE.marks bs):=gn akD
noncomputable def c12:=fW Tryz.f12
theorem ago:E0.fn 12=fI c12 30 [.tmp 2,.tmp 3]:=by kernel_rfl
noncomputable def c13:=fW Tryz.f13
theorem Yj:E0.fn 13=fI c13 60 [.cell 4 39,.tmp 5]:=by kernel_rfl
theorem pI9:ek E 9=some (false,1):=jJ C (by kernel_rfl)
theorem alJ:ek E 111=some (true,5):=jJ C (by kernel_rfl)
theorem amF:fR E 111=some (.agg [.str [],.int .i64 0,.bool false,.bool false,.bool false]):=sw C (by kernel_rfl)
theorem adP:fE E 111 0=some (0,false,1):=lA C (by kernel_rfl)
noncomputable def c14:=fW Tryz.f14
theorem azz:E0.fn 14=fI c14 15 [.tmp 2,.tmp 3]:=by kernel_rfl
theorem Qk:fE E 39 5=some (9,false,1):=lA C (by kernel_rfl)
theorem QB:fE E 39 4=some (6,true,3):=lA C (by kernel_rfl)
theorem OP:fE E 39 3=some (3,true,3):=lA C (by kernel_rfl)
theorem abY:fE E 111 1=some (1,false,1):=lA C (by kernel_rfl)
theorem ac9:fE E 111 4=some (4,false,1):=lA C (by kernel_rfl)
theorem acT:fE E 111 2=some (2,false,1):=lA C (by kernel_rfl)
theorem abT:fE E 111 3=some (3,false,1):=lA C (by kernel_rfl)
theorem aht:E.pairs 1 10=[(0,7),(2,7),(3,7)]:=eR C rfl
theorem ada:E.pairs 11 13=[]:=eR C rfl
noncomputable def c15:=fW Tryz.f15
theorem akt:E0.fn 15=fI c15 119 [.tmp 2]:=by kernel_rfl
noncomputable def c24:=fW Tryz.f24
theorem axM:E0.fn 24=fI c24 42 [.cell 2 39]:=by kernel_rfl
theorem akc:E.pairs 2 10=[]:=eR C rfl
noncomputable def c25:=fW Tryz.f25
theorem ayy:E0.fn 25=fI c25 21 [.cell 2 39]:=by kernel_rfl
theorem aih:E.pairs 1 19=[]:=eR C rfl
noncomputable def c26:=fW Tryz.f26
theorem auI:E0.fn 26=fI c26 21 [.cell 2 39]:=by kernel_rfl
noncomputable def c27:=fW Tryz.f27
theorem azi:E0.fn 27=fI c27 10 [.cell 2 39]:=by kernel_rfl
noncomputable def c29:=fW Tryz.f29
theorem axz:E0.fn 29=fI c29 10 [.tmp 4]:=by kernel_rfl
theorem Ky:E.pairs 11 12=[]:=eR C rfl
theorem QY:E.pairs 13 9=[]:=eR C rfl
theorem KP:E.pairs 33 22=[]:=eR C rfl
noncomputable def JU:=fW Tryz.f40
theorem wc:E0.fn 40=fI JU 146 [.tmp 2]:=by kernel_rfl
theorem ac0:gv E 78=some (6,false,1):=Ak C (by kernel_rfl)
noncomputable def c44:=fW Tryz.f44
theorem auv:E0.fn 44=fI c44 29 [.tmp 2]:=by kernel_rfl
theorem ay0{vs:List (Nat×AV)}:fT E 37 vs=(ud 1 [.str [],.str [],.str []] vs).map .agg:=wY (Bg C (by kernel_rfl))
noncomputable def c46:=fW Tryz.f46
theorem avJ:E0.fn 46=fI c46 18 [.cell 4 72,.tmp 5]:=by kernel_rfl
noncomputable def c47:=fW Tryz.f47
theorem ay9:E0.fn 47=fI c47 17 [.cell 2 72]:=by kernel_rfl
theorem ajZ:E.pairs 1 13=[(0,10),(2,10),(4,10),(5,10),(6,10)]:=eR C rfl
theorem akv:E.pairs 2 16=[]:=eR C rfl
noncomputable def c58:=fW Tryz.f58
theorem auB:E0.fn 58=fI c58 30 [.cell 2 72,.cell 3 62]:=by kernel_rfl
theorem alF:fR E 103=some (.agg [.bool false,.aH,.bool false,.aH,.bool false,.aH,.bool false,.aH,.bool false,.aH,.bool false,.aH,.bool false,.aH,.bool false,.aH,.bool false,.aH,.bool false,.aH,.bool false,.aH,.bool false,.aH,.bool false,.aH,.bool false,.aH,.bool false,.aH,.bool false,.aH,.bool false,.aH,.bool false,.aH]):=sw C (by kernel_rfl)
theorem aol{vs:List (Nat×AV)}:fT E 103 vs=(ud 12 [.bool false,.aH,.bool false,.aH,.bool false,.aH,.bool false,.aH,.bool false,.aH,.bool false,.aH,.bool false,.aH,.bool false,.aH,.bool false,.aH,.bool false,.aH,.bool false,.aH,.bool false,.aH,.bool false,.aH,.bool false,.aH,.bool false,.aH,.bool false,.aH,.bool false,.aH,.bool false,.aH] vs).map .agg:=wY (Bg C (by kernel_rfl))
theorem anq{vs:List (Nat×AV)}:fT E 139 vs=(ud 1 [.int .i64 0,.int .i64 0,.int .i64 0] vs).map .agg:=wY (Bg C (by kernel_rfl))
noncomputable def c80:=fW Tryz.f80
theorem azW:E0.fn 80=fI c80 8 [.cell 0 103]:=by kernel_rfl
noncomputable def c3:=fW Tryz.f3
theorem fn3:E0.fn 3=fI c3 133 [.tmp 6]:=by kernel_rfl
theorem aiu:ll E 26=true:=MC C (by kernel_rfl)
theorem WK{H:Hp}{aL:Nat}{s:List UInt8}:aV E H aL .len [26] [.str s]=some (.int .i64 s.length,[]):=KA aiu
theorem Z4:E.pairs 5 20=[]:=eR C rfl
noncomputable def c4:=fW Tryz.f4
theorem fn4:E0.fn 4=fI c4 148 [.tmp 6]:=by kernel_rfl
noncomputable def c5:=fW Tryz.f5
theorem fn5:E0.fn 5=fI c5 114 [.tmp 0]:=by kernel_rfl
noncomputable def c6:=fW Tryz.f6
theorem ahO:E.pairs 3 28=[(19,20),(20,22)]:=eR C rfl
theorem ad6:E.pairs 11 23=[]:=eR C rfl
noncomputable def c11:=fW Tryz.f11
theorem aps:E0.fn 11=fI c11 161 [.tmp 2]:=by kernel_rfl
noncomputable def c31:=fW Tryz.f31
theorem au9:E0.fn 31=fI c31 21 [.cell 2 72]:=by kernel_rfl
noncomputable def c60:=fW Tryz.f60
theorem awQ:E0.fn 60=fI c60 32 [.tmp 6]:=by kernel_rfl
theorem apB:E.pairs 6 9=[]:=eR C rfl
noncomputable def c61:=fW Tryz.f61
theorem axP:E0.fn 61=fI c61 26 [.tmp 4]:=by kernel_rfl
noncomputable def ajs:=fW Tryz.f129
theorem agb:E0.fn 129=fI ajs 19 [.tmp 4]:=by kernel_rfl
noncomputable def aqJ:=fW Tryz.f115
theorem anN:E0.fn 115=fI aqJ 13 [.tmp 4,.tmp 5,.tmp 6]:=by kernel_rfl
noncomputable def alz:=fW Tryz.f147
theorem arD:E0.fn 147=fI alz 23 [.tmp 4,.tmp 5,.tmp 6]:=by kernel_rfl
noncomputable def aoc:=fW Tryz.f183
theorem anK:E0.fn 183=fI aoc 143 [.tmp 4]:=by kernel_rfl
theorem amC:bQ E 238=false:=bS C (by kernel_rfl)
noncomputable def al2:=fW Tryz.f212
theorem aq6:E0.fn 212=fI al2 8 [.tmp 4]:=by kernel_rfl
theorem aiS:E.pairs 3 16=[]:=eR C rfl
noncomputable def c93:=fW Tryz.f93
theorem ayR:E0.fn 93=some {code:=c93,ntmps:=28,results:=[],pure:=false,fL:=false}:=by kernel_rfl
noncomputable def ajl:=fW Tryz.f211
theorem afU:E0.fn 211=some {code:=ajl,ntmps:=8,results:=[.tmp 2],pure:=false,fL:=true}:=by kernel_rfl
noncomputable def c94:=fW Tryz.f94
theorem auQ:E0.fn 94=fI c94 75 [.tmp 4]:=by kernel_rfl
end
def aQ:=dZ (And.intro @gn (And.intro @apm @aqW)) (And.intro @aqL (And.intro @azl @arz)) (And.intro @aoX (And.intro @am8 @anv)) (dZ @amI @aAo @axo @ap3)
def aJ{E:Env} [C:Ctx E]:=dZ (dZ (dZ (dZ (@mX E _ _ _ _ _ DX) (@qI E _ _ _ _ _ DX) (@mY E _ _ _ _ _ DX) (And.intro (@jK E _ Yc) (@uu E _ _ _ Yc))) (dZ (@gw E _ _ _ Yc) (@ai9 E C) (@agt E C) (And.intro (@aj0 E C) (@akd E C))) (dZ (@aiN E C) (@jK E _ auO) (@gD E _ _ alR) (And.intro (@gw E _ _ _ alR) (@auK E C))) (dZ (@av9 E C) (And.intro (@fj E _ _ _ _ _ agZ) (@ary E C)) (@jK E _ pI4) (And.intro (@fj E _ _ _ _ _ aiU) (@ahB E C)))) (dZ (dZ (@arF E C) (@aqp E C) (@jK E _ pI9) (And.intro (@uu E _ _ _ pI9) (@gw E _ _ _ pI9))) (dZ (@mX E _ _ _ _ _ Mm) (And.intro (@qI E _ _ _ _ _ Mm) (@mY E _ _ _ _ _ Mm)) (@aiS E C) (And.intro (@apu E C) (@axY E C))) (dZ (@gD E _ _ UX) (@uu E _ _ _ UX) (@gw E _ _ _ UX) (And.intro (@ahf E C) (@ax9 E C))) (dZ (@aob E C) (And.intro (@aoJ E C) (@fj E _ _ _ _ _ ajv)) (@akj E C) (And.intro (@fj E _ _ _ _ _ akB) (@aqN E C)))) (dZ (dZ (@aio E C) (@ani E C) (@ait E C) (And.intro (@jK E _ pI3) (@acP E C))) (dZ (@gD E _ _ Vn) (@uu E _ _ _ Vn) (@gw E _ _ _ Vn) (And.intro (@akA E C) (@xW E _ _ _ _ aaf))) (dZ (@abD E _ _ _ _ aaf) (@zR E _ _ _ _ aaf) (@aiw E C) (And.intro (@agA E C) (@mX E _ _ _ _ _ vj))) (dZ (@qI E _ _ _ _ _ vj) (And.intro (@mY E _ _ _ _ _ vj) (@ahE E C)) (@arM E C) (And.intro (@ard E C) (@gw E _ _ _ Ys)))) (dZ (dZ (@gD E _ _ ady) (@gw E _ _ _ ady) (@awG E C) (And.intro (@xW E _ _ _ _ adU) (@zR E _ _ _ _ adU))) (dZ (@gD E _ _ ar7) (And.intro (@zR E _ _ _ _ alB) (@agy E C)) (@apA E C) (And.intro (@aie E C) (@aj1 E C))) (dZ (@ah5 E C) (@ahL E C) (@alL E C) (And.intro (@gD E _ _ Uv) (@uu E _ _ _ Uv))) (dZ (@gw E _ _ _ Uv) (And.intro (@aj7 E C) (@auY E C)) (@fj E _ _ _ _ _ Ku) (And.intro (@WG E _ _ _ _ _ Ku) (@fj E _ _ _ _ _ WV))))) (dZ (dZ (dZ (@WG E _ _ _ _ _ WV) (@gD E _ _ afs) (@xW E _ _ _ _ Sl) (And.intro (@zR E _ _ _ _ Sl) (@fj E _ _ _ _ _ acy))) (dZ (@gD E _ _ NR) (@fj E _ _ _ _ _ acB) (@ahh E C) (And.intro (@aiH E C) (@mX E _ _ _ _ _ aed))) (dZ (@qI E _ _ _ _ _ aed) (@mY E _ _ _ _ _ aed) (@gD E _ _ ajd) (And.intro (@uu E _ _ _ ajd) (@gw E _ _ _ ajd))) (dZ (@axk E C) (And.intro (@jK E _ Ys) (@uu E _ _ _ Ys)) (@ahc E C) (And.intro (@mX E _ _ _ _ _ vQ) (@qI E _ _ _ _ _ vQ)))) (dZ (dZ (@mY E _ _ _ _ _ vQ) (@mX E _ _ _ _ _ Uf) (@mY E _ _ _ _ _ Uf) (And.intro (@jK E _ Xy) (@uu E _ _ _ Xy))) (dZ (@gw E _ _ _ Xy) (And.intro (@adf E C) (@acC E C)) (@aeo E C) (And.intro (@acw E C) (@ajp E C))) (dZ (@mX E _ _ _ _ _ GG) (@qI E _ _ _ _ _ GG) (@mY E _ _ _ _ _ GG) (And.intro (@aiQ E C) (@ag0 E C))) (dZ (@ajZ E C) (And.intro (@akv E C) (@gw E _ _ _ afs)) (@alF E C) (And.intro (@aol E C) (@anq E C)))) (dZ (dZ (@ay0 E C) (@gw E _ _ _ alJ) (@amF E C) (And.intro (@fj E _ _ _ _ _ adP) (@fj E _ _ _ _ _ aj3))) (dZ (@fj E _ _ _ _ _ Qk) (And.intro (@fj E _ _ _ _ _ QB) (@fj E _ _ _ _ _ Pd)) (@fj E _ _ _ _ _ PH) (And.intro (@fj E _ _ _ _ _ OP) (@fj E _ _ _ _ _ abY))) (dZ (@fj E _ _ _ _ _ ac9) (@fj E _ _ _ _ _ acT) (@fj E _ _ _ _ _ abT) (And.intro (@aht E C) (@ada E C))) (dZ (@asc E C) (And.intro (@ajz E C) (@ane E C)) (@ac1 E C) (And.intro (@ajL E C) (@ahi E C)))) (dZ (dZ (@aa2 E C) (@agj E C) (@arI E C) (And.intro (@mX E _ _ _ _ _ fC) (@qI E _ _ _ _ _ fC))) (dZ (@mY E _ _ _ _ _ fC) (And.intro (@Ky E C) (@QY E C)) (@KP E C) (And.intro (@jK E _ aeD) (@gw E _ _ _ aeD))) (dZ (@xW E _ _ _ _ aqD) (@aix E C) (@jK E _ ar1) (And.intro (@gw E _ _ _ ar1) (@aqR E C))) (dZ (@jK E _ ae2) (And.intro (@gw E _ _ _ ae2) (@mX E _ _ _ _ _ Gp)) (@mY E _ _ _ _ _ Gp) (And.intro (@fj E _ _ _ _ _ ab2) (@fj E _ _ _ _ _ adz))))) (dZ (dZ (dZ (@gD E _ _ ae8) (@gw E _ _ _ ae8) (@ap9 E C) (And.intro (@aog E C) (@fj E _ _ _ _ _ acV))) (dZ (@fj E _ _ _ _ _ adn) (@asE E C) (@abP E C) (And.intro (@gw E _ _ _ pI3) (@fj E _ _ _ _ _ ado))) (dZ (@amJ E C) (@jK E _ apo) (@gw E _ _ _ apo) (And.intro (@mX E _ _ _ _ _ Rx) (@qI E _ _ _ _ _ Rx))) (dZ (@gD E _ _ asb) (And.intro (@gw E _ _ _ asb) (@awH E C)) (@aki E C) (And.intro (@fj E _ _ _ _ _ ag9) (@fj E _ _ _ _ _ ajh)))) (dZ (dZ (@uu E _ _ _ auu) (@akh E C) (@apB E C) (And.intro (@fj E _ _ _ _ _ ai0) (@ab8 E C))) (dZ (@gD E _ _ YA) (And.intro (@gw E _ _ _ YA) (@aiW E C)) (@ai1 E C) (And.intro (@akc E C) (@aih E C))) (dZ (@gw E _ _ _ pI4) (@jK E _ ay8) (@mX E _ _ _ _ _ aon) (And.intro (@mY E _ _ _ _ _ aon) (@gD E _ _ aw4))) (dZ (@awp E C) (And.intro (@xW E _ _ _ _ aoK) (@zR E _ _ _ _ aoK)) (@fj E _ _ _ _ _ PR) (And.intro (@fj E _ _ _ _ _ ajO) (@gD E _ _ aks)))) (dZ (dZ (@gw E _ _ _ NR) (@Xz E C) (@apT E C) (And.intro (@gD E _ _ af6) (@gw E _ _ _ af6))) (dZ (@ami E C) (And.intro (@anO E C) (@gD E _ _ afC)) (@gw E _ _ _ afC) (And.intro (@api E C) (@asQ E C))) (dZ (@zR E _ _ _ _ aqK) (@agN E C) (@akx E C) (And.intro (@ahO E C) (@ad6 E C))) (dZ (bS C (by kernel_rfl):bQ E 7=false) (And.intro (bS C (by kernel_rfl):bQ E 8=false) (bS C (by kernel_rfl):bQ E 9=false)) (bS C (by kernel_rfl):bQ E 14=false) (And.intro (bS C (by kernel_rfl):bQ E 15=false) (bS C (by kernel_rfl):bQ E 16=false)))) (dZ (dZ (bS C (by kernel_rfl):bQ E 17=false) (bS C (by kernel_rfl):bQ E 18=false) (bS C (by kernel_rfl):bQ E 19=false) (And.intro (bS C (by kernel_rfl):bQ E 20=false) (bS C (by kernel_rfl):bQ E 21=false))) (dZ (bS C (by kernel_rfl):bQ E 22=false) (And.intro (bS C (by kernel_rfl):bQ E 23=false) (bS C (by kernel_rfl):bQ E 28=false)) (bS C (by kernel_rfl):bQ E 29=false) (And.intro (bS C (by kernel_rfl):bQ E 31=false) (bS C (by kernel_rfl):bQ E 32=false))) (dZ (bS C (by kernel_rfl):bQ E 34=false) (bS C (by kernel_rfl):bQ E 35=false) (bS C (by kernel_rfl):bQ E 36=false) (And.intro (bS C (by kernel_rfl):bQ E 37=false) (bS C (by kernel_rfl):bQ E 38=false))) (dZ (bS C (by kernel_rfl):bQ E 39=false) (And.intro (bS C (by kernel_rfl):bQ E 40=false) (bS C (by kernel_rfl):bQ E 41=false)) (bS C (by kernel_rfl):bQ E 44=false) (And.intro (bS C (by kernel_rfl):bQ E 45=false) (bS C (by kernel_rfl):bQ E 46=false))))) (dZ (dZ (dZ (bS C (by kernel_rfl):bQ E 47=false) (bS C (by kernel_rfl):bQ E 48=false) (bS C (by kernel_rfl):bQ E 49=false) (And.intro (bS C (by kernel_rfl):bQ E 50=false) (bS C (by kernel_rfl):bQ E 51=false))) (dZ (bS C (by kernel_rfl):bQ E 52=false) (bS C (by kernel_rfl):bQ E 53=false) (bS C (by kernel_rfl):bQ E 54=false) (And.intro (bS C (by kernel_rfl):bQ E 55=false) (bS C (by kernel_rfl):bQ E 56=false))) (dZ (bS C (by kernel_rfl):bQ E 57=false) (bS C (by kernel_rfl):bQ E 58=false) (bS C (by kernel_rfl):bQ E 59=false) (And.intro (bS C (by kernel_rfl):bQ E 60=false) (bS C (by kernel_rfl):bQ E 61=false))) (dZ (bS C (by kernel_rfl):bQ E 63=false) (And.intro (bS C (by kernel_rfl):bQ E 64=false) (bS C (by kernel_rfl):bQ E 65=false)) (bS C (by kernel_rfl):bQ E 66=false) (And.intro (bS C (by kernel_rfl):bQ E 67=false) (bS C (by kernel_rfl):bQ E 68=false)))) (dZ (dZ (bS C (by kernel_rfl):bQ E 69=false) (bS C (by kernel_rfl):bQ E 72=false) (bS C (by kernel_rfl):bQ E 73=false) (And.intro (bS C (by kernel_rfl):bQ E 74=false) (bS C (by kernel_rfl):bQ E 75=false))) (dZ (bS C (by kernel_rfl):bQ E 76=false) (And.intro (bS C (by kernel_rfl):bQ E 77=false) (bS C (by kernel_rfl):bQ E 78=false)) (bS C (by kernel_rfl):bQ E 79=false) (And.intro (bS C (by kernel_rfl):bQ E 80=false) (bS C (by kernel_rfl):bQ E 81=false))) (dZ (bS C (by kernel_rfl):bQ E 82=false) (bS C (by kernel_rfl):bQ E 83=false) (bS C (by kernel_rfl):bQ E 84=false) (And.intro (bS C (by kernel_rfl):bQ E 85=false) (bS C (by kernel_rfl):bQ E 87=false))) (dZ (bS C (by kernel_rfl):bQ E 88=false) (And.intro (bS C (by kernel_rfl):bQ E 89=false) (bS C (by kernel_rfl):bQ E 90=false)) (bS C (by kernel_rfl):bQ E 91=false) (And.intro (bS C (by kernel_rfl):bQ E 92=false) (bS C (by kernel_rfl):bQ E 94=false)))) (dZ (dZ (bS C (by kernel_rfl):bQ E 95=false) (bS C (by kernel_rfl):bQ E 100=false) (bS C (by kernel_rfl):bQ E 102=false) (And.intro (bS C (by kernel_rfl):bQ E 103=false) (bS C (by kernel_rfl):bQ E 104=false))) (dZ (bS C (by kernel_rfl):bQ E 105=false) (And.intro (bS C (by kernel_rfl):bQ E 106=false) (bS C (by kernel_rfl):bQ E 107=false)) (bS C (by kernel_rfl):bQ E 108=false) (And.intro (bS C (by kernel_rfl):bQ E 109=false) (bS C (by kernel_rfl):bQ E 111=false))) (dZ (bS C (by kernel_rfl):bQ E 114=false) (bS C (by kernel_rfl):bQ E 115=false) (bS C (by kernel_rfl):bQ E 116=false) (And.intro (bS C (by kernel_rfl):bQ E 117=false) (bS C (by kernel_rfl):bQ E 118=false))) (dZ (bS C (by kernel_rfl):bQ E 119=false) (And.intro (bS C (by kernel_rfl):bQ E 120=false) (bS C (by kernel_rfl):bQ E 121=false)) (bS C (by kernel_rfl):bQ E 129=false) (And.intro (bS C (by kernel_rfl):bQ E 131=false) (bS C (by kernel_rfl):bQ E 135=false)))) (dZ (dZ (bS C (by kernel_rfl):bQ E 136=false) (bS C (by kernel_rfl):bQ E 137=false) (bS C (by kernel_rfl):bQ E 139=false) (And.intro (bS C (by kernel_rfl):bQ E 143=false) (bS C (by kernel_rfl):bQ E 145=false))) (dZ (bS C (by kernel_rfl):bQ E 146=false) (And.intro (bS C (by kernel_rfl):bQ E 147=false) (bS C (by kernel_rfl):bQ E 156=false)) (bS C (by kernel_rfl):bQ E 157=false) (And.intro (bS C (by kernel_rfl):bQ E 159=false) (bS C (by kernel_rfl):bQ E 160=false))) (dZ (bS C (by kernel_rfl):bQ E 169=false) (bS C (by kernel_rfl):bQ E 170=false) (bS C (by kernel_rfl):bQ E 171=false) (And.intro (bS C (by kernel_rfl):bQ E 177=false) (bS C (by kernel_rfl):bQ E 180=false))) (dZ (bS C (by kernel_rfl):bQ E 183=false) (And.intro (bS C (by kernel_rfl):bQ E 199=false) (bS C (by kernel_rfl):bQ E 200=false)) (bS C (by kernel_rfl):bQ E 212=false) (And.intro (bS C (by kernel_rfl):bQ E 230=false) (bS C (by kernel_rfl):bQ E 238=false)))))
section
variable{E:Env} [C:Ctx E]{f nt:Nat}{code:Code}{results:List ResultVar}{a b c e:AV}{G:AV->Prop}
theorem gw0(jE:E0.fn f=some {code:=code,ntmps:=nt,results:=results,pure:=true,fL:=false})(h:∀ts:List AV,ts.length=nt->V E code (S ts []) [] (oS E results G))(he:f∉Gt:=by decide):∃r,aP E f []=some r/\G r:=gv0 (C.ov _ _ he) (by rw[C.fn];exact jE) rfl h
theorem nY(jE:E0.fn f=some {code:=code,ntmps:=nt,results:=results,pure:=true,fL:=false})(h:∀ts:List AV,ts.length=nt->gt ts 0=a->V E code (S ts []) [] (oS E results G))(he:f∉Gt:=by decide)(hn:1<=nt:=by decide):∃r,aP E f [a]=some r/\G r:=gv1 (C.ov _ _ he) (by rw[C.fn];exact jE) rfl hn h
theorem tp(jE:E0.fn f=some {code:=code,ntmps:=nt,results:=results,pure:=true,fL:=false})(h:∀ts:List AV,ts.length=nt->gt ts 0=a->gt ts 1=b->V E code (S ts []) [] (oS E results G))(he:f∉Gt:=by decide)(hn:2<=nt:=by decide):∃r,aP E f [a,b]=some r/\G r:=gv2 (C.ov _ _ he) (by rw[C.fn];exact jE) rfl hn h
theorem Vy(jE:E0.fn f=some {code:=code,ntmps:=nt,results:=results,pure:=true,fL:=false})(h:∀ts:List AV,ts.length=nt->gt ts 0=a->gt ts 1=b->gt ts 2=c->V E code (S ts []) [] (oS E results G))(he:f∉Gt:=by decide)(hn:3<=nt:=by decide):∃r,aP E f [a,b,c]=some r/\G r:=gv3 (C.ov _ _ he) (by rw[C.fn];exact jE) rfl hn h
theorem gw4(jE:E0.fn f=some {code:=code,ntmps:=nt,results:=results,pure:=true,fL:=false})(h:∀ts:List AV,ts.length=nt->gt ts 0=a->gt ts 1=b->gt ts 2=c->gt ts 3=e->V E code (S ts []) [] (oS E results G))(he:f∉Gt:=by decide)(hn:4<=nt:=by decide):∃r,aP E f [a,b,c,e]=some r/\G r:=gv4 (C.ov _ _ he) (by rw[C.fn];exact jE) rfl hn h
end
end Go.Proofs.YtblnjkjjedanaaaGreatDoor
