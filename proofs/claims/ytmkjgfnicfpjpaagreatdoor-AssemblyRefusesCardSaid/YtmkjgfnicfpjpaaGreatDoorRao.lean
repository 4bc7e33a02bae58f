/- Lemmas for AssemblyRefuses; no condition. -/
import Derived.Test.YtmkjgfnicfpjpaaGreatDoorRan
set_option linter.all false
set_option maxHeartbeats 100000000
set_option maxRecDepth 100000
noncomputable section
open Option renaming some->aLS,map_some->aMi,bind_some->aP4
namespace Go.Proofs.YtmkjgfnicfpjpaaGreatDoor
open Go Dv
section
variable{E:Env}
def dM(E:Env)(t:Nat):Option (Bool×Nat):=match E.ty t with
 |some i=>some (i.isAgg,i.size)
 |none=>none
def eW(ag:Bool)(n:Nat)(cs:List AV)(o:Nat):Option AV:=if ag=true then(if o+n<=cs.length then some (.agg ((cs.drop o).take n))else none)else cs[o]?
def ael{n:Nat}{cs:List AV}{o:Nat}:eW true n cs o=if o+n<=cs.length then some (.agg ((cs.drop o).take n))else none:=rfl
def gI{n:Nat}{cs:List AV}{o:Nat}:eW false n cs o=cs[o]?:=rfl
def Zw{t:Nat}{ag:Bool}{n:Nat}(h:dM E t=some (ag,n)){cs:List AV}{o:Nat}:eS E t cs o=eW ag n cs o:=by
 unfold dM at h;unfold eS eW;cases hi:E.ty t with
 |none=>rw[hi]at h;cases h
 |some i=>
  rw[hi]at h;simp only[aLS.injEq,Prod.mk.injEq]at h;obtain⟨h1,h2⟩:=h;subst h1;subst h2
  rfl
def jl{t:Nat}{ag:Bool}{n:Nat}(h:dM E t=some (ag,n)){H:Hp}{cs:List AV}{o:Nat}:dU E H t (.cS cs o)=eW ag n cs o:=by
 show eS E t cs o=_
 exact Zw h
def ga{t:Nat}(h:dM E t=some (false,1)){H:Hp}{b o:Nat}:dU E H t (.bK b o)=cellAt H b o:=by
 refine gC ?_;unfold dM at h;cases hi:E.ty t with
 |none=>rw[hi]at h;cases h
 |some i=>rw[hi]at h;simp at h;exact⟨i,hi,h.1,h.2⟩
def iN{t n:Nat}(h:dM E t=some (true,n)){H:Hp}{b o:Nat}:dU E H t (.bK b o)=fE n H b o:=by
 refine nB ?_;unfold dM at h;unfold Nj;cases hi:E.ty t with
 |none=>rw[hi]at h;cases h
 |some i=>rw[hi]at h;simp at h;simp[h.1,h.2]
def fe{t n:Nat}{ag:Bool}(h:dM E t=some (ag,n)){H:Hp}{b o:Nat}{v:AV}:fh E H t (.bK b o) v=(iZ n v.cells H b o).map fun x=>[(b,x)]:=by
 refine jD ?_;unfold dM at h;unfold JB;cases hi:E.ty t with
 |none=>rw[hi]at h;cases h
 |some i=>rw[hi]at h;simp at h;simp[h.2]
def fO(E:Env)(t f:Nat):Option (Nat×Bool×Nat):=match E.ty t with
 |some {cD:=.struct fields,..}=>(match fields[f]? with
  |some fd=>(match E.ty fd.type with
   |some fi=>if fi.size=0 then none else some (fd.offset,fi.isAgg,fi.size)
   |none=>none)
  |none=>none)
 |_=>none
def agb{t f off n:Nat}{ag:Bool}(h:fO E t f=some (off,ag,n)):(∀b o,cQ E t (.bK b o) f=some (.bK b (o+off)))/\(∀cs o,cQ E t (.cS cs o) f=some (.cS cs (o+off)))/\
  ∀cs,CF E t (.agg cs) f=eW ag n cs off:=by
 unfold fO at h;cases hi:E.ty t with
 |none=>rw[hi]at h;cases h
 |some i=>
  rw[hi]at h;obtain⟨cD,jA,jS,jB,jZ,dK⟩:=i;cases cD<;>first|(cases h;done)|skip
  rename_i fs;simp only at h;cases hf:fs[f]? with
  |none=>rw[hf]at h;cases h
  |some fd=>
   rw[hf]at h;simp only at h;cases hj:E.ty fd.type with
   |none=>rw[hj]at h;cases h
   |some fi=>
    rw[hj]at h;simp only at h;by_cases hz:fi.size=0
    ·rw[if_pos hz]at h;cases h
    ·rw[if_neg hz]at h;simp only[aLS.injEq,Prod.mk.injEq]at h;obtain⟨h1,h2,h3⟩:=h;subst h1;subst h2;subst h3
     refine⟨fun b o=>?_,fun cs o=>?_,fun cs=>?_⟩
     ·simp only[cQ,hi,hf,hj,hz,if_false]
     ·simp only[cQ,hi,hf,hj,hz,if_false]
     ·simp only[CF,hi,hf,eS,hj,eW]
def fm{t f off n:Nat}{ag:Bool}(h:fO E t f=some (off,ag,n)){b o:Nat}:cQ E t (.bK b o) f=some (.bK b (o+off)):=(agb h).1 b o
def wL{t f off n:Nat}{ag:Bool}(h:fO E t f=some (off,ag,n)){cs:List AV}{o:Nat}:cQ E t (.cS cs o) f=some (.cS cs (o+off)):=(agb h).2.1 cs o
def gO(E:Env)(t:Nat):Option (Nat×Bool×Nat):=match E.ty t with
 |some {cD:=.array len e,..}=>(match E.ty e with
  |some ei=>some (len,ei.isAgg,ei.size)
  |none=>none)
 |_=>none
def afX{t len n:Nat}{ag:Bool}(h:gO E t=some (len,ag,n)):(∀b o k z,cd E t (.bK b o) (.int k z)=if 0<=z/\z<(len:Int)then some (.bK b (o+z.toNat*n))else none)/\
  (∀cs o k z,cd E t (.cS cs o) (.int k z)=if 0<=z/\z<(len:Int)then some (.cS cs (o+z.toNat*n))else none)/\
  (∀cs k z,lF E t (.agg cs) (.int k z)=if 0<=z/\z<(len:Int)then eW ag n cs (z.toNat*n)else none)/\
  (∀H aR v,bM E H aR .len [t] [v]=some (.int .i64 len,[])):=by
 unfold gO at h;cases hi:E.ty t with
 |none=>rw[hi]at h;cases h
 |some i=>
  rw[hi]at h;obtain⟨cD,jA,jS,jB,jZ,dK⟩:=i;cases cD<;>first|(cases h;done)|skip
  rename_i ln e;simp only at h;cases he:E.ty e with
  |none=>rw[he]at h;cases h
  |some ei=>
   rw[he]at h;simp only[aLS.injEq,Prod.mk.injEq]at h;obtain⟨h1,h2,h3⟩:=h;subst h1;subst h2;subst h3
   refine⟨fun b o k z=>?_,fun cs o k z=>?_,fun cs k z=>?_,fun H aR v=>?_⟩
   ·simp only[cd,hi,he]
   ·simp only[cd,hi,he]
   ·simp only[lF,hi,he,eS,eW]
   ·simp[bM,nC,hi]
def Bz{t len n:Nat}{ag:Bool}(h:gO E t=some (len,ag,n)){b o:Nat}{k:IntKind}{z:Int}:cd E t (.bK b o) (.int k z)=if 0<=z/\z<(len:Int)then some (.bK b (o+z.toNat*n))else none:=(afX h).1 b o k z
def B7{t len n:Nat}{ag:Bool}(h:gO E t=some (len,ag,n)){cs:List AV}{k:IntKind}{z:Int}:lF E t (.agg cs) (.int k z)=if 0<=z/\z<(len:Int)then eW ag n cs (z.toNat*n)else none:=(afX h).2.2.1 cs k z
def ew(E:Env)(t:Nat):Option (Bool×Nat×Nat×List AV):=match E.ty t with
 |some {cD:=.slice e,..}=>(match E.ty e with
  |some ei=>(match ei.zero with
   |some z=>some (ei.isAgg,ei.size,ei.bytes,z)
   |none=>none)
  |none=>none)
 |_=>none
def lH:AV->Option Int
 |.aH=>some 0
 |.dw=>some 0
 |.aK _ n=>some (n:Int)
 |.aI _ _ n _ _=>some (n:Int)
 |_=>none
def Kr:lH .aH=some 0:=rfl
def alm:lH .dw=some 0:=rfl
def YT{cs:List AV}{n:Nat}:lH (.aK cs n)=some (n:Int):=rfl
def Hn{b o n e k:Nat}:lH (.aI b o n e k)=some (n:Int):=rfl
def alj(x:Option Int):Option (AV×List (Nat×cE)):=match x with
 |some n=>some (.int .i64 n,[])
 |none=>none
def gX{n:Int}:alj (some n)=some (.int .i64 n,[]):=rfl
def kn{t n wE:Nat}{ag:Bool}{z:List AV}(h:ew E t=some (ag,n,wE,z)):∃i e ei,E.ty t=some i/\i.cD=.slice e/\E.ty e=some ei/\ei.isAgg=ag/\ei.size=n/\ei.bytes=wE/\ei.zero=some z:=by
 unfold ew at h;cases hi:E.ty t with
 |none=>rw[hi]at h;cases h
 |some i=>
  rw[hi]at h;obtain⟨cD,jA,jS,jB,jZ,dK⟩:=i;cases cD<;>first|(cases h;done)|skip
  rename_i e;simp only at h;cases he:E.ty e with
  |none=>rw[he]at h;cases h
  |some ei=>
   rw[he]at h;simp only at h;cases hz:ei.zero with
   |none=>rw[hz]at h;cases h
   |some z'=>
    rw[hz]at h;simp only[aLS.injEq,Prod.mk.injEq]at h;exact⟨_,e,ei,rfl,rfl,he,h.1,h.2.1,h.2.2.1,by rw[hz,h.2.2.2]⟩
def iQ{t n wE:Nat}{ag:Bool}{z:List AV}(h:ew E t=some (ag,n,wE,z)){H:Hp}{aR:Nat}{v:AV}:bM E H aR .len [t] [v]=alj (lH v):=by
 obtain⟨i,e,ei,h1,h2,_⟩:=kn h;obtain⟨cD,jA,jS,jB,jZ,dK⟩:=i;simp only at h2;subst h2;cases v<;>simp[bM,nC,h1,lH,alj]
def j6{t n wE:Nat}{ag:Bool}{z:List AV}(h:ew E t=some (ag,n,wE,z)){cs:List AV}{m:Nat}{k:IntKind}{x:Int}:cd E t (.aK cs m) (.int k x)=if 0<=x/\x<(m:Int)then some (.cS cs (x.toNat*n))else none:=by obtain⟨i,e,ei,h1,h2,h3,h4,h5,_⟩:=kn h;simp only[cd,h1,h2,h3,h5]
def rP{t n wE:Nat}{ag:Bool}{z:List AV}(h:ew E t=some (ag,n,wE,z)){b o m kc:Nat}{k:IntKind}{x:Int}:cd E t (.aI b o m n kc) (.int k x)=if 0<=x/\x<(m:Int)then some (.bK b (o+x.toNat*n))else none:=by obtain⟨i,e,ei,h1,h2,h3,h4,h5,_⟩:=kn h;simp only[cd,h1,h2,h3,h5,true_and]
def amc{t n wE:Nat}{ag:Bool}{z:List AV}(h:ew E t=some (ag,n,wE,z))(hz:z.length=n)(hn:0<n){aR m:Nat}{k k':IntKind}(hm:m*wE<=fH)(Eb:m<=4611686018427387904):
  fp E aR t (.int k (m:Int)) (.int k' (m:Int))=some (.aI aR 0 m n m,[(aR,.cells .live (gJ z m))]):=by
 obtain⟨i,e,ei,h1,h2,h3,h4,h5,h6,h7⟩:=kn h;obtain⟨cD,jA,jS,jB,jZ,dK⟩:=i;simp only at h2;subst h2;simp only[fp,h1,h3,h7,h5,h6];rw[if_pos ⟨by omega,Int.le_refl _,by simpa using hm,by omega,hz,hn⟩]
 simp
def DJ(E:Env)(t:Nat):Option (List AV×List (Nat×Nat)):=match E.ty t with
 |some {cD:=.struct fields,zero:=some z,..}=>(e9 (fun(f:Field)=>(E.ty f.type).map fun fi=>(f.offset,fi.size)) fields.toList).map fun l=>(z,l)
 |_=>none
def lB(pl:List (Nat×Nat))(cells:List AV):List (Nat×AV)->Option (List AV)
 |[]=>some cells
 |(i,v)::rest=>
  match pl[i]? with
  |none=>none
  |some (off,size)=>if(v.cells.length==size&&decide (off+size<=cells.length))=true then lB pl (cells.take off++v.cells++cells.drop (off+size)) rest else none
def Sf{pl:List (Nat×Nat)}{cells:List AV}:lB pl cells []=some cells:=rfl
def agc(pl:List (Nat×Nat))(cells:List AV)(rest:List (Nat×AV))(v:AV)(x:Option (Nat×Nat)):Option (List AV):=match x with
 |none=>none
 |some (off,size)=>if(v.cells.length==size&&decide (off+size<=cells.length))=true then lB pl (cells.take off++v.cells++cells.drop (off+size)) rest else none
def ML{pl:List (Nat×Nat)}{cells:List AV}{i:Nat}{v:AV}{rest:List (Nat×AV)}:lB pl cells ((i,v)::rest)=agc pl cells rest v pl[i]?:=by rw[lB];rfl
def MK{pl:List (Nat×Nat)}{cells:List AV}{v:AV}{rest:List (Nat×AV)}{off size:Nat}:agc pl cells rest v (some (off,size))=if(v.cells.length==size&&decide (off+size<=cells.length))=true then lB pl (cells.take off++v.cells++cells.drop (off+size)) rest else none:=rfl
def P9{place:Nat->Option (Nat×Nat)}{pl:List (Nat×Nat)}(h:∀i,place i=pl[i]?):∀(vs:List (Nat×AV)) (cells:List AV),fP place cells vs=lB pl cells vs
 |[],_=>rfl
 |(i,v)::rest,cells=>by
  rw[fP,lB,h i];cases pl[i]? with
  |none=>rfl
  |some p=>
   obtain⟨off,size⟩:=p;simp only;by_cases h1:v.cells.length=size<;>by_cases h2:off+size<=cells.length
   ·have h3:¬off+size>cells.length:=by omega
    simp[h1,h2,h3,P9 h rest]
   ·have h3:off+size>cells.length:=by omega
    simp[h1,h2,h3]
   ·simp[h1]
   ·simp[h1]
def Kx{α β:Type}{f:α->Option β}:∀{l:List α} {r:List β},e9 f l=some r->(∀i:Nat,(l[i]?).bind f=r[i]?)/\∀x∈l,(f x).isSome=true
 |[],r,h=>by cases h;exact⟨fun i=>by simp,fun x hx=>by cases hx⟩
 |x::xs,r,h=>by
  unfold e9 at h;cases hx:f x with
  |none=>rw[hx]at h;cases h
  |some y=>
   rw[hx]at h;simp only at h;cases XP:e9 f xs with
   |none=>rw[XP]at h;cases h
   |some ys=>
    rw[XP]at h;cases h;have ih:=Kx XP;refine⟨fun i=>?_,fun z hz=>?_⟩
    ·cases i with
     |zero=>simp[hx]
     |succ i=>simpa using ih.1 i
    ·rcases List.mem_cons.1 hz with rfl|hz
     ·rw[hx];rfl
     ·exact ih.2 z hz
def vX{t:Nat}{z:List AV}{pl:List (Nat×Nat)}(h:DJ E t=some (z,pl)){vs:List (Nat×AV)}:eN E t vs=(lB pl z vs).map .agg:=by
 unfold DJ at h;cases hi:E.ty t with
 |none=>rw[hi]at h;cases h
 |some i=>
  rw[hi]at h;obtain⟨cD,jA,jS,jB,jZ,dK⟩:=i;cases cD<;>first|(cases h;done)|skip
  rename_i fs;cases jZ with
  |none=>cases h
  |some z'=>
   simp only at h;cases hm:e9 (fun(f:Field)=>(E.ty f.type).map fun fi=>(f.offset,fi.size)) fs.toList with
   |none=>rw[hm]at h;cases h
   |some l=>
    rw[hm]at h;simp only[aMi,aLS.injEq,Prod.mk.injEq]at h;obtain⟨h1,h2⟩:=h;subst h1;subst h2
    have hg:=Kx hm;have qd:fs.toList.all (fun f=>(E.ty f.type).isSome)=true:=by
     rw[List.all_eq_true];intro f hf
     have:=hg.2 f hf
     simpa using this
    unfold eN fB;simp only[hi,qd,if_true,aP4];rw[P9 (pl:=l)];intro i
    have:=hg.1 i
    rw[<-this];cases hf:fs[i]? with
    |none=>simp[hf]
    |some f=>simp[hf]
def xQ(E:Env)(t:Nat):Option (List AV×Nat):=match E.ty t with
 |some {cD:=.array _ e,zero:=some z,..}=>(E.ty e).map fun ei=>(z,ei.size)
 |_=>none
def tx(s:Nat)(cells:List AV)(vs:List (Nat×AV)):Option (List AV):=fP (fun i=>some (i*s,s)) cells vs
def Se{s:Nat}{cells:List AV}:tx s cells []=some cells:=rfl
def MJ{s:Nat}{cells:List AV}{i:Nat}{v:AV}{rest:List (Nat×AV)}:tx s cells ((i,v)::rest)=if(v.cells.length==s&&decide (i*s+s<=cells.length))=true then tx s (cells.take (i*s)++v.cells++cells.drop (i*s+s)) rest else none:=by
 unfold tx;rw[fP];simp only;by_cases h1:v.cells.length=s<;>by_cases h2:i*s+s<=cells.length
 ·have h3:¬i*s+s>cells.length:=by omega
  simp[h1,h2,h3]
 ·have h3:i*s+s>cells.length:=by omega
  simp[h1,h2,h3]
 ·simp[h1]
 ·simp[h1]
def zy{t s:Nat}{z:List AV}(h:xQ E t=some (z,s)){vs:List (Nat×AV)}:eN E t vs=(tx s z vs).map .agg:=by
 unfold xQ at h;cases hi:E.ty t with
 |none=>rw[hi]at h;cases h
 |some i=>
  rw[hi]at h;obtain⟨cD,jA,jS,jB,jZ,dK⟩:=i;cases cD<;>first|(cases h;done)|skip
  cases jZ with
  |none=>cases h
  |some z'=>
   simp only at h;rename_i len e;cases he:E.ty e with
   |none=>rw[he]at h;cases h
   |some ei=>
    rw[he]at h;simp only[aMi,aLS.injEq,Prod.mk.injEq]at h;obtain⟨h1,h2⟩:=h;subst h1;subst h2
    unfold eN fB;simp only[hi,he,aMi,aP4];rfl
def E8(C:Ctx E){t:Nat}{x}(h:xQ E0 t=some x:=by kernel_rfl):xQ E t=some x:=by unfold xQ at h⊢;rw[C.ty];exact h
def pA(C:Ctx E){t:Nat}{v:AV}(h:ek E0 t=some v:=by kernel_rfl):ek E t=some v:=by unfold ek at h⊢;rw[C.ty];exact h
def iY(C:Ctx E){t:Nat}{x}(h:dM E0 t=some x:=by kernel_rfl):dM E t=some x:=by unfold dM at h⊢;rw[C.ty];exact h
def mf(C:Ctx E){t f:Nat}{x}(h:fO E0 t f=some x:=by kernel_rfl):fO E t f=some x:=by unfold fO at h⊢;rw[C.ty];exact h
def Ba(C:Ctx E){t:Nat}{x}(h:gO E0 t=some x:=by kernel_rfl):gO E t=some x:=by unfold gO at h⊢;rw[C.ty];exact h
def vU(C:Ctx E){t:Nat}{x}(h:ew E0 t=some x:=by kernel_rfl):ew E t=some x:=by unfold ew at h⊢;rw[C.ty];exact h
def we(C:Ctx E){t:Nat}{x}(h:DJ E0 t=some x:=by kernel_rfl):DJ E t=some x:=by unfold DJ at h⊢;rw[C.ty];exact h
def Ls(C:Ctx E){t:Nat}(h:kN E0 t=true:=by kernel_rfl):kN E t=true:=by unfold kN at h⊢;rw[C.ty];exact h
def bO(C:Ctx E){f:Nat}{b:Bool}(h:bF E0 f=b:=by kernel_rfl):bF E f=b:=by unfold bF at h⊢;rw[C.fn];exact h
def dN(C:Ctx E){i n:Nat}{l:List (Nat×Nat)}(h:Zv i n=l):E.pairs i n=l:=by rw[C.pairs];exact h
def Q0{t:Nat}(h:kN E t=true){H:Hp}{aR:Nat}{s:List UInt8}:bM E H aR .len [t] [.str s]=some (.int .i64 s.length,[]):=by
 unfold kN at h;cases hi:E.ty t with
 |none=>rw[hi]at h;cases h
 |some i=>
  rw[hi]at h;obtain⟨cD,jA,jS,jB,jZ,dK⟩:=i;cases cD<;>first|(cases h;done)|simp[bM,nC,hi]
def G7{t:Nat}(h:kN E t=true){s:List UInt8}{i:Nat}{c:UInt8}(hc:s[i]?=some c){k:IntKind}:lF E t (.str s) (.int k (i:Int))=some (.int .u8 c.toNat):=by
 unfold kN at h;cases hi:E.ty t with
 |none=>rw[hi]at h;cases h
 |some ti=>
  rw[hi]at h;obtain⟨cD,jA,jS,jB,jZ,dK⟩:=ti;cases cD<;>first|(cases h;done)|simp[lF,hi,hc]
def al9{t:Nat}(h:kN E t=true){H:Hp}{s:List UInt8}{lo hi:Option AV}:HT E H t (.str s) lo hi=(fN s.length s.length lo hi).map fun x=>.str ((s.drop x.1).take (x.2-x.1)):=by
 unfold kN at h;cases sB:E.ty t with
 |none=>rw[sB]at h;cases h
 |some ti=>
  rw[sB]at h;obtain⟨cD,jA,jS,jB,jZ,dK⟩:=ti;cases cD<;>first|(cases h;done)|simp[HT,gg,sB]
end
def acx{ts:List AV}{s:ByteArray}:bU ts (.const (.string s))=some (.str s.data.toList):=rfl
def IS{H:Hp}{cs:List AV}{o:Nat}:cellAt (H++[.cells .live cs]) H.length o=cs[o]?:=by
 rw[bY];simp
def TT{H:Hp}{n:Nat}{xs cs:List AV}{o:Nat}:iZ n xs (H++[.cells .live cs]) H.length o=if(xs.length==n&&(decide (o+n<=cs.length)&&xs.all cN))=true then some (.cells .live (dA cs o xs))else none:=by
 rw[eT];simp
def Tu{H:Hp}{x y:cE}:cO (H++[x]) H.length y=H++[y]:=by
 unfold cO
 simp
def eK{H:Hp}{y:cE}:cO H H.length y=H++[y]:=by
 unfold cO
 simp
def Rv{out:List Nat}{H:Hp}{j z:Nat}(hj:j<out.length):iZ 1 [.int .u32 (z:Int)] (H++[.cells .live (cB out)]) H.length j=some (.cells .live (cB (out.set j z))):=by rw[TT,uq hj,nf,if_pos];simp[cN];omega
def fK{out:List Nat}{j:Nat}(hj:j<out.length:=by omega):(cB out)[j]?=some (.int .u32 ((out.getD j 0:Nat):Int)):=by simp[cB,List.getD,hj]
def K5{n:Nat}:gJ [.int .u32 0] n=cB (List.replicate n 0):=Rj
def Cg:=dJ (dJ (And.intro @fk @dZ) (And.intro @iV @V4) (And.intro @kJ @abk) (And.intro @nN @kq)) (dJ (And.intro @nF @cu) (And.intro @jM @eJ) (And.intro @avD @ahe) (And.intro @avC @avB)) (dJ (And.intro @fW @Dw) (And.intro @oq @kH) (And.intro @acx @ael) (And.intro @gI @Sf)) (dJ (And.intro @ML @Se) (And.intro @MJ @MK) (And.intro @gX @YT) (And.intro @Hn (And.intro @Kr @alm)))
section
variable{E:Env} [C:Ctx E]
def bo4:isBool E 4=true:=Vg C
def st9:kN E 9=true:=Ls C
def auA{H:Hp}{aR:Nat}{s:List UInt8}:bM E H aR .len [9] [.str s]=some (.int .i64 s.length,[]):=Q0 st9
def aBD{H:Hp}{s:List UInt8}{lo hi:Option AV}:HT E H 9 (.str s) lo hi=(fN s.length s.length lo hi).map fun x=>.str ((s.drop x.1).take (x.2-x.1)):=al9 st9
def aAT:dM E 22=some (false,1):=iY C
def al3:ew E 22=some (true,3,48,[.str [],.int .i64 0,.aH]):=vU C
def au5:dM E 25=some (true,2):=iY C
def ajB:fO E 25 0=some (0,false,1):=mf C
def alL:dM E 30=some (true,3):=iY C
def c3:=dQ Tryz.f3
def fn3:E0.fn 3=fI c3 94 [.tmp 4]:=by kernel_rfl
def axx{vs:List (Nat×AV)}:eN E 25 vs=(lB [(0,1),(1,1)] [.aH,.aH] vs).map .agg:=vX (we C)
def alM:dM E 43=some (true,3):=iY C
def au7:dM E 45=some (true,7):=iY C
def axB{vs:List (Nat×AV)}:eN E 45 vs=(lB [(0,4),(4,3)] [.int .i64 0,.int .i64 0,.int .i64 0,.int .i64 0,.str [],.str [],.str []] vs).map .agg:=vX (we C)
def aBx:ew E 46=some (true,2,32,[.int .i64 0,.aH]):=vU C
def aBy:ew E 49=some (true,3,24,[.int .i64 0,.int .i64 0,.int .i64 0]):=vU C
def alO:dM E 62=some (true,12):=iY C
def c4:=dQ Tryz.f4
def fn4:E0.fn 4=fI c4 180 [.tmp 4]:=by kernel_rfl
def axA{vs:List (Nat×AV)}:eN E 43 vs=(tx 1 [.str [],.str [],.str []] vs).map .agg:=zy (E8 C)
def c5:=dQ Tryz.f5
def aAU:dM E 23=some (false,1):=iY C
def al4:ew E 23=some (true,9,112,[.str [],.str [],.int .i64 0,.int .i64 0,.int .i64 0,.int .i64 0,.str [],.str [],.str []]):=vU C
def ajC:fO E 25 1=some (1,false,1):=mf C
def alK:dM E 28=some (false,1):=iY C
def al5:ew E 28=some (true,1,24,[.aH]):=vU C
def WJ:fO E 30 2=some (2,false,1):=mf C
def aAX:dM E 41=some (false,1):=iY C
def aBF:kN E 41=true:=Ls C
def alk{H:Hp}{aR:Nat}{s:List UInt8}:bM E H aR .len [41] [.str s]=some (.int .i64 s.length,[]):=Q0 aBF
def an4:gO E 43=some (3,false,1):=Ba C
def WK:fO E 45 1=some (4,true,3):=mf C
def alP:dM E 74=some (false,1):=iY C
def avA:ew E 74=some (true,3,24,[.int .i64 0,.int .i64 0,.int .i64 0]):=vU C
def WL:fO E 76 0=some (0,false,1):=mf C
def WN:fO E 78 2=some (2,true,7):=mf C
def c6:=dQ Tryz.f6
def fn6:E0.fn 6=fI c6 85 [.tmp 2]:=by kernel_rfl
def c7:=dQ Tryz.f7
def axy{vs:List (Nat×AV)}:eN E 30 vs=(lB [(0,1),(1,1),(2,1)] [.str [],.int .i64 0,.aH] vs).map .agg:=vX (we C)
def c8:=dQ Tryz.f8
def pI9:dM E 9=some (false,1):=iY C
def WH:fO E 30 0=some (0,false,1):=mf C
def c9:=dQ Tryz.f9
def fn9:E0.fn 9=fI c9 28 [.cell 4 30,.tmp 5]:=by kernel_rfl
def WM:fO E 78 0=some (0,false,1):=mf C
def c11:=dQ Tryz.f11
def aye:E0.fn 11=fI c11 23 [.tmp 4,.tmp 5]:=by kernel_rfl
def ava:dM E 78=some (true,9):=iY C
def ajI:fO E 78 1=some (1,false,1):=mf C
def c12:=dQ Tryz.f12
def ayf:E0.fn 12=fI c12 69 [.tmp 2]:=by kernel_rfl
def c13:=dQ Tryz.f13
def ayg:E0.fn 13=fI c13 104 [.tmp 2]:=by kernel_rfl
def pI3:dM E 3=some (false,1):=iY C
def WI:fO E 30 1=some (1,false,1):=mf C
def alR:dM E 89=some (true,3):=iY C
def c14:=dQ Tryz.f14
def ayh:E0.fn 14=fI c14 108 [.tmp 4]:=by kernel_rfl
def c15:=dQ Tryz.f15
def ayi:E0.fn 15=fI c15 17 [.tmp 4]:=by kernel_rfl
def c16:=dQ Tryz.f16
def ayj:E0.fn 16=fI c16 39 [.tmp 4]:=by kernel_rfl
def c17:=dQ Tryz.f17
def ayk:E0.fn 17=fI c17 12 [.tmp 2,.tmp 3]:=by kernel_rfl
def c18:=dQ Tryz.f18
def ayl:E0.fn 18=fI c18 15 [.tmp 2,.tmp 3]:=by kernel_rfl
def au6:dM E 35=some (false,1):=iY C
def c19:=dQ Tryz.f19
def aym:E0.fn 19=fI c19 23 [.cell 2 3,.cell 3 3,.cell 4 35]:=by kernel_rfl
def alN:dM E 60=some (true,4):=iY C
def c20:=dQ Tryz.f20
def ayn:E0.fn 20=fI c20 52 [.tmp 2,.cell 3 43,.tmp 4]:=by kernel_rfl
def axF{vs:List (Nat×AV)}:eN E 62 vs=(tx 4 [.bool false,.aH,.bool false,.aH,.bool false,.aH,.bool false,.aH,.bool false,.aH,.bool false,.aH] vs).map .agg:=zy (E8 C)
def ahQ:gO E 62=some (3,true,4):=Ba C
def c21:=dQ Tryz.f21
def ayo:E0.fn 21=fI c21 65 [.cell 2 62,.cell 3 62,.tmp 4]:=by kernel_rfl
def HL:ew E 67=some (false,1,8,[.int .i64 0]):=vU C
def R0:=dQ Tryz.f22
def ayp:E0.fn 22=fI R0 54 [.cell 4 25,.tmp 5]:=by kernel_rfl
def c23:=dQ Tryz.f23
def ayq:E0.fn 23=fI c23 55 [.cell 4 25,.tmp 5]:=by kernel_rfl
def c24:=dQ Tryz.f24
def ayr:E0.fn 24=fI c24 42 [.cell 6 25,.tmp 7]:=by kernel_rfl
def aAW:dM E 40=some (true,4):=iY C
def axz{vs:List (Nat×AV)}:eN E 40 vs=(tx 1 [.int .i64 0,.int .i64 0,.int .i64 0,.int .i64 0] vs).map .agg:=zy (E8 C)
def axG{vs:List (Nat×AV)}:eN E 89 vs=(tx 1 [.int .i64 0,.int .i64 0,.int .i64 0] vs).map .agg:=zy (E8 C)
def c26:=dQ Tryz.f26
def ays:E0.fn 26=fI c26 51 [.tmp 2]:=by kernel_rfl
def c27:=dQ Tryz.f27
def ayt:E0.fn 27=fI c27 19 [.tmp 4]:=by kernel_rfl
def alQ:dM E 76=some (true,1):=iY C
def c30:=dQ Tryz.f30
def ayu:E0.fn 30=fI c30 19 [.tmp 4]:=by kernel_rfl
def c32:=dQ Tryz.f32
def ayv:E0.fn 32=fJ c32 13 [.tmp 4] false:=by kernel_rfl
def c33:=dQ Tryz.f33
def ayw:E0.fn 33=fI c33 11 [.tmp 2]:=by kernel_rfl
def axs:gO E 40=some (4,false,1):=Ba C
def ajD:fO E 45 0=some (0,true,4):=mf C
def c34:=dQ Tryz.f34
def ayx:E0.fn 34=fI c34 60 [.tmp 2]:=by kernel_rfl
def c35:=dQ Tryz.f35
def ayy:E0.fn 35=fI c35 51 [.tmp 2]:=by kernel_rfl
def c36:=dQ Tryz.f36
def ayz:E0.fn 36=fI c36 26 [.tmp 4]:=by kernel_rfl
def c37:=dQ Tryz.f37
def ayA:E0.fn 37=fI c37 32 [.tmp 6]:=by kernel_rfl
def c38:=dQ Tryz.f38
def ayB:E0.fn 38=fI c38 24 [.tmp 4]:=by kernel_rfl
def c39:=dQ Tryz.f39
def ayC:E0.fn 39=fI c39 32 [.tmp 6]:=by kernel_rfl
def c40:=dQ Tryz.f40
def ayD:E0.fn 40=fI c40 10 [.tmp 4]:=by kernel_rfl
def c41:=dQ Tryz.f41
def ayE:E0.fn 41=fI c41 26 [.tmp 4]:=by kernel_rfl
def c43:=dQ Tryz.f43
def ayF:E0.fn 43=fI c43 5 [.tmp 2]:=by kernel_rfl
def c44:=dQ Tryz.f44
def ayG:E0.fn 44=fI c44 4 [.tmp 2]:=by kernel_rfl
def c45:=dQ Tryz.f45
def ayH:E0.fn 45=fI c45 20 [.tmp 2,.tmp 3]:=by kernel_rfl
def au8:dM E 58=some (true,2):=iY C
def axE{vs:List (Nat×AV)}:eN E 60 vs=(lB [(0,2),(2,2)] [.bool false,.aH,.bool false,.aH] vs).map .agg:=vX (we C)
def ajG:fO E 60 0=some (0,true,2):=mf C
def c47:=dQ Tryz.f47
def ayI:E0.fn 47=fI c47 34 [.cell 4 60]:=by kernel_rfl
def c49:=dQ Tryz.f49
def ayJ:E0.fn 49=fI c49 9 [.cell 4 62]:=by kernel_rfl
def c52:=dQ Tryz.f52
def ayK:E0.fn 52=fI c52 6 [.cell 2 60]:=by kernel_rfl
def ajH:fO E 60 1=some (2,true,2):=mf C
def U6:gO E 89=some (3,false,1):=Ba C
def Gm:ew E 101=some (true,3,72,[.aH,.aH,.aH]):=vU C
def Zr:dM E 139=some (true,3):=iY C
def c63:=dQ Tryz.f63
def ayL:E0.fn 63=fI c63 64 [.tmp 2,.tmp 3]:=by kernel_rfl
def c64:=dQ Tryz.f64
def ayM:E0.fn 64=fI c64 8 [.cell 2 62,.tmp 3]:=by kernel_rfl
def aAZ:dM E 49=some (false,1):=iY C
def c66:=dQ Tryz.f66
def ayN:E0.fn 66=fJ c66 13 [.tmp 4] false:=by kernel_rfl
def aAY:dM E 46=some (false,1):=iY C
def c67:=dQ Tryz.f67
def ase:E0.fn 67=fJ c67 40 [] false:=by kernel_rfl
def c69:=dQ Tryz.f69
def ayO:E0.fn 69=fI c69 28 [.cell 4 60]:=by kernel_rfl
def c71:=dQ Tryz.f71
def ayP:E0.fn 71=fI c71 14 [.tmp 2]:=by kernel_rfl
def pI4:dM E 4=some (false,1):=iY C
def aA0:dM E 56=some (false,1):=iY C
def ajF:fO E 58 1=some (1,false,1):=mf C
def ajE:fO E 58 0=some (0,false,1):=mf C
def c73:=dQ Tryz.f73
def asf:E0.fn 73=fI c73 37 [.cell 4 60]:=by kernel_rfl
def Br:ew E 56=some (false,1,4,[.int .u32 0]):=vU C
def ahh{aR m:Nat}{k k':IntKind}(h:m<=100000000000):fp E aR 56 (.int k (m:Int)) (.int k' (m:Int))=some (.aI aR 0 m 1 m,[(aR,.cells .live (gJ [.int .u32 0] m))]):=amc Br rfl (by decide) (by unfold fH;omega) (by omega)
def Zs:dM E 177=some (false,1):=iY C
def fX:gk E 177=some .u32:=zW C
def gT:gk E 178=some .u64:=zW C
def c75:=dQ Tryz.f75
def ayQ:E0.fn 75=fI c75 10 [.cell 2 58]:=by kernel_rfl
def c76:=dQ Tryz.f76
def ayR:E0.fn 76=fI c76 24 [.cell 6 62]:=by kernel_rfl
def aAz:bF E 69=false:=bO C
def c77:=dQ Tryz.f77
def ayS:E0.fn 77=fI c77 9 [.cell 5 60]:=by kernel_rfl
def Uw:gk E 3=some .i64:=zW C
def c84:=dQ Tryz.f84
def ayT:E0.fn 84=fI c84 17 [.cell 2 62]:=by kernel_rfl
def c85:=dQ Tryz.f85
def ayU:E0.fn 85=fI c85 27 [.tmp 4]:=by kernel_rfl
def au9:dM E 67=some (false,1):=iY C
def agZ:dM E 135=some (false,1):=iY C
def AX:ew E 135=some (true,12,192,[.bool false,.aH,.bool false,.aH,.bool false,.aH,.bool false,.aH,.bool false,.aH,.bool false,.aH]):=vU C
def ag0:dM E 136=some (false,1):=iY C
def Le:ew E 136=some (true,17,280,[.bool false,.aH,.bool false,.aH,.bool false,.aH,.bool false,.aH,.bool false,.aH,.bool false,.aH,.bool false,.aH,.bool false,.aH,.aH]):=vU C
def ag1:dM E 137=some (false,1):=iY C
def aog{vs:List (Nat×AV)}:eN E 139 vs=(lB [(0,1),(1,1),(2,1)] [.aH,.aH,.aH] vs).map .agg:=vX (we C)
def acD:fO E 139 2=some (2,false,1):=mf C
def acC:fO E 139 1=some (1,false,1):=mf C
def acB:fO E 139 0=some (0,false,1):=mf C
def DQ:ew E 200=some (true,4,32,[.int .i64 0,.int .i64 0,.int .i64 0,.int .u64 0]):=vU C
def Ro:ew E 201=some (false,1,24,[.aH]):=vU C
def Zt:dM E 205=some (true,4):=iY C
def acE:fO E 205 0=some (0,true,3):=mf C
def aoi{vs:List (Nat×AV)}:eN E 208 vs=(lB [(0,12),(12,4),(16,1)] [.bool false,.aH,.bool false,.aH,.bool false,.aH,.bool false,.aH,.bool false,.aH,.bool false,.aH,.bool false,.aH,.bool false,.aH,.aH] vs).map .agg:=vX (we C)
def c91:=dQ Tryz.f91
def asg:E0.fn 91=fI c91 86 [.cell 2 139,.tmp 3]:=by kernel_rfl
def c92:=dQ Tryz.f92
def ayV:E0.fn 92=fI c92 9 [.tmp 4]:=by kernel_rfl
def c93:=dQ Tryz.f93
def ayW:E0.fn 93=fI c93 7 [.tmp 3]:=by kernel_rfl
def c94:=dQ Tryz.f94
def ayX:E0.fn 94=fI c94 36 [.cell 4 4]:=by kernel_rfl
def c95:=dQ Tryz.f95
def ayY:E0.fn 95=fI c95 31 [.cell 4 62,.tmp 5]:=by kernel_rfl
def c96:=dQ Tryz.f96
def ayZ:E0.fn 96=fI c96 8 [.cell 2 60,.tmp 3]:=by kernel_rfl
def ahd:ew E 168=some (true,4,64,[.bool false,.aH,.bool false,.aH]):=vU C
def c99:=dQ Tryz.f99
def ay0:E0.fn 99=fI c99 17 [.cell 2 60]:=by kernel_rfl
def aop:=dQ Tryz.f103
def aqS:E0.fn 103=fI aop 2 [.cell 0 58]:=by kernel_rfl
def axD{vs:List (Nat×AV)}:eN E 58 vs=(lB [(0,1),(1,1)] [.bool false,.aH] vs).map .agg:=vX (we C)
def kd2:gk E 2=some .i64:=zW C
def aoq:=dQ Tryz.f109
def aqT:E0.fn 109=fI aoq 26 [.cell 4 58]:=by kernel_rfl
def aor:=dQ Tryz.f110
def aqU:E0.fn 110=fI aor 51 [.cell 4 58,.cell 5 58,.tmp 6]:=by kernel_rfl
def aos:=dQ Tryz.f117
def aqV:E0.fn 117=fI aos 41 [.cell 4 60,.cell 5 60]:=by kernel_rfl
def agQ:bF E 152=false:=bO C
def aot:=dQ Tryz.f123
def aqW:E0.fn 123=fI aot 11 [.cell 4 60]:=by kernel_rfl
def aif:=dQ Tryz.f124
def age:E0.fn 124=fI aif 54 [.tmp 2]:=by kernel_rfl
def Rp:ew E 250=some (true,5,56,[.int .i64 0,.int .i64 0,.int .i64 0,.int .u64 0,.aH]):=vU C
def ag4:dM E 254=some (true,5):=iY C
def aoj{vs:List (Nat×AV)}:eN E 254 vs=(lB [(0,4),(4,1)] [.int .i64 0,.int .i64 0,.int .i64 0,.int .u64 0,.aH] vs).map .agg:=vX (we C)
def acJ:fO E 254 1=some (4,false,1):=mf C
def acI:fO E 254 0=some (0,true,4):=mf C
def aou:=dQ Tryz.f125
def aqX:E0.fn 125=fI aou 66 [.tmp 2,.tmp 3,.tmp 4]:=by kernel_rfl
def aih:=dQ Tryz.f126
def agf:E0.fn 126=fI aih 67 [.cell 2 62,.tmp 3]:=by kernel_rfl
def Lf:ew E 137=some (true,4,32,[.int .i64 0,.int .i64 0,.int .i64 0,.int .i64 0]):=vU C
def ag3:dM E 208=some (true,17):=iY C
def acH:fO E 208 2=some (16,false,1):=mf C
def ag5:dM E 260=some (false,1):=iY C
def ag6:dM E 264=some (true,2):=iY C
def aok{vs:List (Nat×AV)}:eN E 264 vs=(tx 1 [.int .i64 0,.int .i64 0] vs).map .agg:=zy (E8 C)
def an2:gO E 264=some (2,false,1):=Ba C
def aol{vs:List (Nat×AV)}:eN E 266 vs=(lB [(0,1),(1,1),(2,2)] [.int .i64 0,.int .i64 0,.int .i64 0,.int .i64 0] vs).map .agg:=vX (we C)
def acM:fO E 266 2=some (2,true,2):=mf C
def aov:=dQ Tryz.f127
def aqY:E0.fn 127=fI aov 64 [.tmp 2]:=by kernel_rfl
def RQ:=dQ Tryz.f128
def aqZ:E0.fn 128=fI RQ 19 [.tmp 4]:=by kernel_rfl
def aox:=dQ Tryz.f129
def aq0:E0.fn 129=fI aox 6 [.tmp 4]:=by kernel_rfl
def at1:bF E 177=false:=bO C
def at5:bF E 178=false:=bO C
def aoy:=dQ Tryz.f130
def aq1:E0.fn 130=fI aoy 85 [.cell 4 60,.tmp 5]:=by kernel_rfl
def at6:bF E 188=false:=bO C
def aoz:=dQ Tryz.f137
def aq2:E0.fn 137=fI aoz 79 [.tmp 4,.tmp 5]:=by kernel_rfl
def aoA:=dQ Tryz.f141
def aq3:E0.fn 141=fI aoA 8 [.cell 4 62]:=by kernel_rfl
def yx:gk E 179=some .u64:=zW C
def aoB:=dQ Tryz.f152
def aq4:E0.fn 152=fI aoB 9 [.cell 4 60]:=by kernel_rfl
def aoC:=dQ Tryz.f155
def aq5:E0.fn 155=fI aoC 5 [.tmp 2]:=by kernel_rfl
def aoD:=dQ Tryz.f156
def aq6:E0.fn 156=fI aoD 8 [.tmp 4]:=by kernel_rfl
def aoE:=dQ Tryz.f157
def aq7:E0.fn 157=fI aoE 49 [.tmp 2]:=by kernel_rfl
def aoF:=dQ Tryz.f158
def aq8:E0.fn 158=fI aoF 35 [.tmp 2]:=by kernel_rfl
def ag2:dM E 178=some (false,1):=iY C
def acF:fO E 205 1=some (3,false,1):=mf C
def aoG:=dQ Tryz.f159
def aq9:E0.fn 159=fI aoG 51 [.tmp 2]:=by kernel_rfl
def aoH:=dQ Tryz.f160
def ara:E0.fn 160=fI aoH 101 [.tmp 4]:=by kernel_rfl
def aim:=dQ Tryz.f161
def agh:E0.fn 161=fJ aim 14 [] false:=by kernel_rfl
def aoI:=dQ Tryz.f162
def arb:E0.fn 162=fI aoI 10 [.tmp 4]:=by kernel_rfl
def aoJ:=dQ Tryz.f163
def arc:E0.fn 163=fI aoJ 36 [.tmp 4]:=by kernel_rfl
def aoK:=dQ Tryz.f164
def ard:E0.fn 164=fI aoK 7 [.tmp 2]:=by kernel_rfl
def aoL:=dQ Tryz.f165
def are:E0.fn 165=fI aoL 13 [.cell 4 60,.tmp 5]:=by kernel_rfl
def aoM:=dQ Tryz.f166
def arf:E0.fn 166=fI aoM 5 [.cell 2 58]:=by kernel_rfl
def aoN:=dQ Tryz.f167
def arh:E0.fn 167=fI aoN 4 [.tmp 2]:=by kernel_rfl
def aio:=dQ Tryz.f168
def agi:E0.fn 168=fJ aio 14 [] false:=by kernel_rfl
def acL:fO E 266 1=some (1,false,1):=mf C
def acK:fO E 266 0=some (0,false,1):=mf C
def aoO:=dQ Tryz.f169
def ari:E0.fn 169=fI aoO 17 [.tmp 4]:=by kernel_rfl
def aoP:=dQ Tryz.f170
def arj:E0.fn 170=fI aoP 18 [.tmp 2]:=by kernel_rfl
def aoQ:=dQ Tryz.f171
def ark:E0.fn 171=fI aoQ 20 [.tmp 4]:=by kernel_rfl
def acG:fO E 208 0=some (0,true,12):=mf C
def aom{vs:List (Nat×AV)}:eN E 271 vs=(tx 3 [.aH,.aH,.aH,.aH,.aH,.aH] vs).map .agg:=zy (E8 C)
def an3:gO E 271=some (2,true,3):=Ba C
def aip:=dQ Tryz.f172
def arl:E0.fn 172=fJ aip 63 [] false:=by kernel_rfl
def Zu:dM E 266=some (true,4):=iY C
def aoR:=dQ Tryz.f173
def arn:E0.fn 173=fI aoR 55 [.tmp 2]:=by kernel_rfl
def aoS:=dQ Tryz.f174
def aro:E0.fn 174=fI aoS 37 [.cell 4 62]:=by kernel_rfl
def aoT:=dQ Tryz.f175
def arp:E0.fn 175=fI aoT 13 [.tmp 4,.tmp 5,.tmp 6]:=by kernel_rfl
def aoU:=dQ Tryz.f176
def arq:E0.fn 176=fI aoU 10 [.tmp 2]:=by kernel_rfl
def at7:bF E 225=false:=bO C
def aua:bF E 226=false:=bO C
def aub:bF E 228=false:=bO C
def Er:=dQ Tryz.f179
def ars:E0.fn 179=fI Er 71 [.cell 2 58,.tmp 3]:=by kernel_rfl
def aoV:=dQ Tryz.f183
def art:E0.fn 183=fI aoV 6 [.cell 2 62]:=by kernel_rfl
def aoW:=dQ Tryz.f187
def aru:E0.fn 187=fI aoW 21 [.tmp 4]:=by kernel_rfl
def aoX:=dQ Tryz.f189
def arv:E0.fn 189=fJ aoX 40 [.tmp 4] false:=by kernel_rfl
def s8:=dQ Tryz.f190
def arw:E0.fn 190=fJ s8 173 [.tmp 4] false:=by kernel_rfl
def aoY:=dQ Tryz.f191
def arx:E0.fn 191=fI aoY 45 [.tmp 4]:=by kernel_rfl
def aoZ:=dQ Tryz.f199
def ary:E0.fn 199=fI aoZ 9 [.cell 2 60]:=by kernel_rfl
def ao9:=dQ Tryz.f200
def arz:E0.fn 200=fI ao9 9 [.tmp 4]:=by kernel_rfl
def apa:=dQ Tryz.f201
def arA:E0.fn 201=fI apa 9 [.tmp 2]:=by kernel_rfl
def apb:=dQ Tryz.f202
def arB:E0.fn 202=fI apb 39 [.cell 4 89]:=by kernel_rfl
def apc:=dQ Tryz.f203
def arC:E0.fn 203=fI apc 21 [.cell 4 89]:=by kernel_rfl
def apd:=dQ Tryz.f204
def arD:E0.fn 204=fI apd 9 [.tmp 4]:=by kernel_rfl
def ape:=dQ Tryz.f205
def arE:E0.fn 205=fI ape 15 [.tmp 5]:=by kernel_rfl
def apf:=dQ Tryz.f206
def arF:E0.fn 206=fI apf 22 [.tmp 4]:=by kernel_rfl
def aoh{vs:List (Nat×AV)}:eN E 205 vs=(lB [(0,3),(3,1)] [.int .i64 0,.int .i64 0,.int .i64 0,.int .u64 0] vs).map .agg:=vX (we C)
def apg:=dQ Tryz.f207
def arG:E0.fn 207=fI apg 79 [.cell 8 205,.tmp 9]:=by kernel_rfl
def kd5:gk E 5=some .u8:=zW C
def aph:=dQ Tryz.f208
def arH:E0.fn 208=fI aph 14 [.tmp 2]:=by kernel_rfl
def aiI:=dQ Tryz.f209
def agj:E0.fn 209=fJ aiI 148 [] false:=by kernel_rfl
def api:=dQ Tryz.f211
def arI:E0.fn 211=fJ api 25 [] false:=by kernel_rfl
def aiK:=dQ Tryz.f212
def agk:E0.fn 212=fJ aiK 148 [] false:=by kernel_rfl
def apj:=dQ Tryz.f213
def arJ:E0.fn 213=fI apj 6 [.tmp 2]:=by kernel_rfl
def apk:=dQ Tryz.f214
def arK:E0.fn 214=fI apk 49 [.tmp 6,.tmp 7]:=by kernel_rfl
def apl:=dQ Tryz.f216
def arL:E0.fn 216=fI apl 23 [.tmp 4,.tmp 5,.tmp 6]:=by kernel_rfl
def aiL:=dQ Tryz.f233
def agl:E0.fn 233=fJ aiL 8 [.tmp 2] true:=by kernel_rfl
def apm:=dQ Tryz.f240
def arM:E0.fn 240=fI apm 19 [.tmp 4]:=by kernel_rfl
def apn:=dQ Tryz.f241
def arN:E0.fn 241=fI apn 19 [.tmp 4]:=by kernel_rfl
def aiM:=dQ Tryz.f242
def agm:E0.fn 242=fJ aiM 53 [] false:=by kernel_rfl
def apo:=dQ Tryz.f243
def arO:E0.fn 243=fJ apo 60 [] false:=by kernel_rfl
def ag7:dM E 369=some (false,1):=iY C
def auk:gk E 369=some .u64:=zW C
def apq:=dQ Tryz.f244
def arP:E0.fn 244=fJ apq 67 [] false:=by kernel_rfl
def apr:=dQ Tryz.f245
def arQ:E0.fn 245=fJ apr 63 [.tmp 8,.tmp 9] false:=by kernel_rfl
def aps:=dQ Tryz.f246
def arR:E0.fn 246=fJ aps 34 [] false:=by kernel_rfl
def apt:=dQ Tryz.f247
def arS:E0.fn 247=fJ apt 141 [.tmp 8] false:=by kernel_rfl
def apu:=dQ Tryz.f248
def arT:E0.fn 248=fJ apu 90 [.tmp 10] false:=by kernel_rfl
def apv:=dQ Tryz.f249
def arU:E0.fn 249=fJ apv 178 [.tmp 10,.tmp 11] false:=by kernel_rfl
def aiN:=dQ Tryz.f251
def agn:E0.fn 251=fJ aiN 53 [] false:=by kernel_rfl
def apw:=dQ Tryz.f252
def arV:E0.fn 252=fJ apw 60 [] false:=by kernel_rfl
def apx:=dQ Tryz.f253
def arW:E0.fn 253=fJ apx 67 [] false:=by kernel_rfl
def apy:=dQ Tryz.f254
def arX:E0.fn 254=fJ apy 63 [.tmp 8,.tmp 9] false:=by kernel_rfl
def apz:=dQ Tryz.f255
def arY:E0.fn 255=fJ apz 34 [] false:=by kernel_rfl
def apA:=dQ Tryz.f256
def arZ:E0.fn 256=fJ apA 141 [.tmp 8] false:=by kernel_rfl
def apB:=dQ Tryz.f257
def ar0:E0.fn 257=fJ apB 90 [.tmp 10] false:=by kernel_rfl
def apC:=dQ Tryz.f258
def ar1:E0.fn 258=fJ apC 178 [.tmp 10,.tmp 11] false:=by kernel_rfl
def apD:=dQ Tryz.f261
def ar2:E0.fn 261=fI apD 143 [.tmp 4]:=by kernel_rfl
def apE:=dQ Tryz.f282
def ar3:E0.fn 282=fJ apE 82 [] false:=by kernel_rfl
def apF:=dQ Tryz.f283
def ar4:E0.fn 283=fI apF 7 [.tmp 2]:=by kernel_rfl
def apG:=dQ Tryz.f284
def ar5:E0.fn 284=fJ apG 33 [.tmp 2] false:=by kernel_rfl
def apH:=dQ Tryz.f285
def ar6:E0.fn 285=fJ apH 18 [.tmp 8] false:=by kernel_rfl
def apI:=dQ Tryz.f286
def ar7:E0.fn 286=fJ apI 41 [.tmp 12] false:=by kernel_rfl
def apJ:=dQ Tryz.f287
def ar8:E0.fn 287=fJ apJ 82 [] false:=by kernel_rfl
def apK:=dQ Tryz.f288
def ar9:E0.fn 288=fJ apK 18 [.tmp 8] false:=by kernel_rfl
def apL:=dQ Tryz.f289
def asa:E0.fn 289=fJ apL 41 [.tmp 12] false:=by kernel_rfl
def auc:bF E 312=false:=bO C
def apM:=dQ Tryz.f291
def asb:E0.fn 291=fI apM 8 [.tmp 4]:=by kernel_rfl
def apT:=dQ Tryz.f309
def asc:E0.fn 309=fJ apT 32 [.tmp 10,.tmp 11] false:=by kernel_rfl
def apU:=dQ Tryz.f310
def asd:E0.fn 310=fJ apU 32 [.tmp 10,.tmp 11] false:=by kernel_rfl
end
def aS:=And.intro @jy (And.intro @aa5 @aa6)
def aJ{E:Env} [C:Ctx E]:=dJ (dJ (dJ (dJ (@iQ E _ _ _ _ _ Br) (And.intro (@j6 E _ _ _ _ _ Br) (@rP E _ _ _ _ _ Br)) (@ga E _ Zs) (And.intro (@jl E _ _ _ Zs) (@fe E _ _ _ Zs))) (dJ (dN C rfl:E.pairs 5 10=[]) (And.intro (dN C rfl:E.pairs 7 17=[]) (dN C rfl:E.pairs 2 14=[])) (And.intro (dN C rfl:E.pairs 3 18=[]) (dN C rfl:E.pairs 4 26=[])) (And.intro (@ga E _ aA0) (@iN E _ _ au8))) (dJ (@fe E _ _ _ au8) (And.intro (pA C:ek E 58=some (.agg [.bool false,.aH])) (@axD E C)) (And.intro (@fm E _ _ _ _ _ ajF) (dN C rfl:E.pairs 1 6=[])) (And.intro (@ga E _ pI4) (@fm E _ _ _ _ _ ajE))) (dJ (dN C rfl:E.pairs 4 13=[]) (And.intro (dN C rfl:E.pairs 7 5=[(1,2)]) (@ga E _ pI9)) (And.intro (@jl E _ _ _ pI9) (dN C rfl:E.pairs 3 16=[])) (And.intro (@ga E _ pI3) (@jl E _ _ _ pI3)))) (dJ (dJ (@iN E _ _ alR) (And.intro (@jl E _ _ _ alR) (@fe E _ _ _ alR)) (pA C:ek E 89=some (.agg [.int .i64 0,.int .i64 0,.int .i64 0])) (And.intro (@axG E C) (@Bz E _ _ _ _ U6))) (dJ (@B7 E _ _ _ _ U6) (And.intro (@iQ E _ _ _ _ _ avA) (@j6 E _ _ _ _ _ avA)) (And.intro (@ga E _ ag2) (@fe E _ _ _ ag2)) (And.intro (@iN E _ _ Zt) (@jl E _ _ _ Zt))) (dJ (@fe E _ _ _ Zt) (And.intro (pA C:ek E 205=some (.agg [.int .i64 0,.int .i64 0,.int .i64 0,.int .u64 0])) (@aoh E C)) (And.intro (@fm E _ _ _ _ _ acF) (@fm E _ _ _ _ _ acE)) (And.intro (dN C rfl:E.pairs 1 21=[(3,19),(7,19),(8,19),(12,19),(16,19),(17,19),(18,19)]) (dN C rfl:E.pairs 9 9=[]))) (dJ (dN C rfl:E.pairs 10 7=[]) (And.intro (@iQ E _ _ _ _ _ HL) (@j6 E _ _ _ _ _ HL)) (And.intro (@rP E _ _ _ _ _ HL) (@ga E _ au9)) (And.intro (@jl E _ _ _ au9) (@fm E _ _ _ _ _ acJ)))) (dJ (dJ (@fm E _ _ _ _ _ acL) (And.intro (@fm E _ _ _ _ _ acK) (dN C rfl:E.pairs 1 13=[])) (@iQ E _ _ _ _ _ Gm) (And.intro (@j6 E _ _ _ _ _ Gm) (@rP E _ _ _ _ _ Gm))) (dJ (@iN E _ _ Zr) (And.intro (@jl E _ _ _ Zr) (@iQ E _ _ _ _ _ al3)) (And.intro (@j6 E _ _ _ _ _ al3) (@iN E _ _ alL)) (And.intro (@jl E _ _ _ alL) (@iQ E _ _ _ _ _ al4))) (dJ (@j6 E _ _ _ _ _ al4) (And.intro (@jl E _ _ _ ava) (@iQ E _ _ _ _ _ DQ)) (And.intro (@j6 E _ _ _ _ _ DQ) (@auA E C)) (And.intro (@aBD E C) (@iN E _ _ alN))) (dJ (@jl E _ _ _ alN) (And.intro (@fe E _ _ _ alN) (pA C:ek E 60=some (.agg [.bool false,.aH,.bool false,.aH]))) (And.intro (@axE E C) (dN C rfl:E.pairs 2 6=[])) (And.intro (dN C rfl:E.pairs 4 4=[]) (@fm E _ _ _ _ _ ajH)))) (dJ (dJ (dN C rfl:E.pairs 1 12=[(4,8),(4,9)]) (And.intro (@fm E _ _ _ _ _ ajG) (dN C rfl:E.pairs 1 7=[])) (dN C rfl:E.pairs 3 12=[]) (And.intro (dN C rfl:E.pairs 1 5=[]) (dN C rfl:E.pairs 3 13=[]))) (dJ (dN C rfl:E.pairs 15 16=[]) (And.intro (@iN E _ _ alO) (@jl E _ _ _ alO)) (And.intro (@fe E _ _ _ alO) (pA C:ek E 62=some (.agg [.bool false,.aH,.bool false,.aH,.bool false,.aH,.bool false,.aH,.bool false,.aH,.bool false,.aH]))) (And.intro (@Bz E _ _ _ _ ahQ) (@B7 E _ _ _ _ ahQ))) (dJ (dN C rfl:E.pairs 5 11=[]) (And.intro (@axF E C) (@iQ E _ _ _ _ _ ahd)) (And.intro (@j6 E _ _ _ _ _ ahd) (dN C rfl:E.pairs 1 4=[])) (And.intro (@ga E _ alP) (@jl E _ _ _ alP))) (dJ (dN C rfl:E.pairs 1 10=[]) (And.intro (@fe E _ _ _ pI3) (pA C:ek E 3=some (.int .i64 0))) (And.intro (dN C rfl:E.pairs 10 21=[(0,19),(3,19),(4,19),(5,19),(7,19),(8,19),(9,19),(12,19),(13,19),(14,19),(16,19),(17,19),(18,19)]) (dN C rfl:E.pairs 15 22=[(3,18),(7,18),(8,18),(12,18),(16,18),(17,18),(3,19),(7,19),(8,19),(12,19),(16,19),(17,19),(18,19)])) (And.intro (dN C rfl:E.pairs 16 7=[]) (dN C rfl:E.pairs 17 15=[]))))) (dJ (dJ (dJ (@iQ E _ _ _ _ _ Lf) (And.intro (@j6 E _ _ _ _ _ Lf) (@rP E _ _ _ _ _ Lf)) (@iN E _ _ Zu) (And.intro (@jl E _ _ _ Zu) (@fe E _ _ _ Zu))) (dJ (dN C rfl:E.pairs 4 17=[]) (And.intro (dN C rfl:E.pairs 6 18=[]) (@iQ E _ _ _ _ _ Rp)) (And.intro (@rP E _ _ _ _ _ Rp) (@iN E _ _ ag4)) (And.intro (@fe E _ _ _ ag4) (dN C rfl:E.pairs 3 22=[]))) (dJ (dN C rfl:E.pairs 5 16=[]) (And.intro (dN C rfl:E.pairs 6 24=[]) (dN C rfl:E.pairs 10 20=[])) (And.intro (dN C rfl:E.pairs 5 18=[]) (dN C rfl:E.pairs 11 18=[])) (And.intro (dN C rfl:E.pairs 16 13=[]) (dN C rfl:E.pairs 17 18=[]))) (dJ (dN C rfl:E.pairs 22 13=[]) (And.intro (dN C rfl:E.pairs 23 18=[]) (dN C rfl:E.pairs 1 16=[])) (And.intro (dN C rfl:E.pairs 3 17=[]) (dN C rfl:E.pairs 8 16=[])) (And.intro (dN C rfl:E.pairs 5 17=[]) (dN C rfl:E.pairs 10 16=[])))) (dJ (dJ (dN C rfl:E.pairs 13 16=[]) (And.intro (dN C rfl:E.pairs 15 17=[]) (dN C rfl:E.pairs 18 16=[])) (dN C rfl:E.pairs 21 16=[]) (And.intro (@ga E _ ag7) (@fe E _ _ _ ag7))) (dJ (dN C rfl:E.pairs 2 10=[]) (And.intro (dN C rfl:E.pairs 3 10=[]) (dN C rfl:E.pairs 1 11=[])) (And.intro (pA C:ek E 369=some (.int .u64 0)) (dN C rfl:E.pairs 17 17=[])) (And.intro (@j6 E _ _ _ _ _ Ro) (pA C:ek E 254=some (.agg [.int .i64 0,.int .i64 0,.int .i64 0,.int .u64 0,.aH])))) (dJ (@aoj E C) (And.intro (@fm E _ _ _ _ _ acI) (dN C rfl:E.pairs 20 12=[(3,7),(4,7),(2,8),(3,8),(4,8)])) (And.intro (@fm E _ _ _ _ _ WL) (@wL E _ _ _ _ _ WL)) (And.intro (dN C rfl:E.pairs 9 12=[(0,10),(1,10),(2,10),(3,10),(4,10),(5,10),(6,10),(7,10),(8,10),(9,10)]) (@iQ E _ _ _ _ _ Le))) (dJ (@j6 E _ _ _ _ _ Le) (And.intro (@ga E _ ag1) (@fe E _ _ _ ag1)) (And.intro (pA C:ek E 137=some (.aH)) (@jl E _ _ _ ag3)) (And.intro (@fe E _ _ _ ag3) (pA C:ek E 208=some (.agg [.bool false,.aH,.bool false,.aH,.bool false,.aH,.bool false,.aH,.bool false,.aH,.bool false,.aH,.bool false,.aH,.bool false,.aH,.aH]))))) (dJ (dJ (@fm E _ _ _ _ _ acH) (And.intro (@ga E _ ag5) (@fe E _ _ _ ag5)) (pA C:ek E 260=some (.gb)) (And.intro (@iN E _ _ ag6) (@fe E _ _ _ ag6))) (dJ (pA C:ek E 264=some (.agg [.int .i64 0,.int .i64 0])) (And.intro (@aok E C) (@Bz E _ _ _ _ an2)) (And.intro (@aol E C) (@fm E _ _ _ _ _ acM)) (And.intro (dN C rfl:E.pairs 12 7=[]) (dN C rfl:E.pairs 4 8=[]))) (dJ (@iN E _ _ alM) (And.intro (@jl E _ _ _ alM) (@fe E _ _ _ alM)) (And.intro (pA C:ek E 43=some (.agg [.str [],.str [],.str []])) (@Bz E _ _ _ _ an4)) (And.intro (@B7 E _ _ _ _ an4) (dN C rfl:E.pairs 7 15=[(0,10),(1,10),(2,10),(3,10),(4,10),(5,10),(0,11),(1,11),(2,11),(3,11),(4,11),(5,11),(10,11)]))) (dJ (dN C rfl:E.pairs 8 5=[]) (And.intro (dN C rfl:E.pairs 10 9=[(0,6),(1,6),(2,6)]) (dN C rfl:E.pairs 16 5=[])) (And.intro (dN C rfl:E.pairs 18 9=[(0,6),(1,6),(2,6)]) (@iN E _ _ alQ)) (And.intro (@jl E _ _ _ alQ) (@ga E _ agZ)))) (dJ (dJ (@fe E _ _ _ agZ) (And.intro (@iQ E _ _ _ _ _ AX) (@j6 E _ _ _ _ _ AX)) (And.intro (@rP E _ _ _ _ _ AX) (@ga E _ ag0)) (And.intro (@fe E _ _ _ ag0) (@fe E _ _ _ Zr))) (dJ (pA C:ek E 139=some (.agg [.aH,.aH,.aH])) (And.intro (@aog E C) (@fm E _ _ _ _ _ acD)) (And.intro (@fm E _ _ _ _ _ acC) (@fm E _ _ _ _ _ acB)) (And.intro (@aoi E C) (dN C rfl:E.pairs 8 8=[(1,4)]))) (dJ (dN C rfl:E.pairs 15 24=[(1,20)]) (And.intro (dN C rfl:E.pairs 10 4=[(1,2)]) (dN C rfl:E.pairs 5 8=[(1,4)])) (And.intro (pA C:ek E 266=some (.agg [.int .i64 0,.int .i64 0,.int .i64 0,.int .i64 0])) (dN C rfl:E.pairs 5 20=[(1,17),(3,17),(5,17),(7,17),(9,17),(11,17),(12,17),(13,17)])) (And.intro (@fe E _ _ _ pI4) (pA C:ek E 4=some (.bool false)))) (dJ (@fm E _ _ _ _ _ acG) (And.intro (@aom E C) (@B7 E _ _ _ _ an3)) (And.intro (@ga E _ alK) (@jl E _ _ _ alK)) (And.intro (@iQ E _ _ _ _ _ al5) (@j6 E _ _ _ _ _ al5))))) (dJ (dJ (dJ (@rP E _ _ _ _ _ al5) (And.intro (@fm E _ _ _ _ _ WI) (@wL E _ _ _ _ _ WI)) (@fm E _ _ _ _ _ WJ) (And.intro (@wL E _ _ _ _ _ WJ) (@fe E _ _ _ alQ))) (dJ (pA C:ek E 76=some (.agg [.aH])) (And.intro (@iN E _ _ aAW) (@axz E C)) (And.intro (@B7 E _ _ _ _ axs) (@fm E _ _ _ _ _ WK)) (And.intro (@wL E _ _ _ _ _ WK) (@fm E _ _ _ _ _ ajD))) (dJ (@ga E _ aAT) (And.intro (@fm E _ _ _ _ _ ajB) (@fe E _ _ _ alL)) (And.intro (pA C:ek E 30=some (.agg [.str [],.int .i64 0,.aH])) (@axy E C)) (And.intro (@fm E _ _ _ _ _ WH) (@wL E _ _ _ _ _ WH))) (dJ (@ga E _ aAU) (And.intro (@fm E _ _ _ _ _ ajC) (@fm E _ _ _ _ _ WM)) (And.intro (@wL E _ _ _ _ _ WM) (@iN E _ _ au7)) (And.intro (@fe E _ _ _ ava) (pA C:ek E 78=some (.agg [.str [],.str [],.int .i64 0,.int .i64 0,.int .i64 0,.int .i64 0,.str [],.str [],.str []]))))) (dJ (dJ (@fm E _ _ _ _ _ WN) (And.intro (@wL E _ _ _ _ _ WN) (@fm E _ _ _ _ _ ajI)) (@iN E _ _ au5) (And.intro (@axx E C) (dN C rfl:E.pairs 7 14=[(1,11),(6,11),(7,11)]))) (dJ (dN C rfl:E.pairs 21 13=[]) (And.intro (@ga E _ aAX) (@alk E C)) (And.intro (dN C rfl:E.pairs 6 39=[]) (dN C rfl:E.pairs 11 20=[])) (And.intro (dN C rfl:E.pairs 17 9=[]) (@fe E _ _ _ alK))) (dJ (@fe E _ _ _ alP) (And.intro (dN C rfl:E.pairs 7 28=[(12,13),(11,14),(12,14)]) (dN C rfl:E.pairs 6 9=[])) (And.intro (dN C rfl:E.pairs 6 11=[]) (@fe E _ _ _ au5)) (And.intro (pA C:ek E 25=some (.agg [.aH,.aH])) (@fe E _ _ _ au7))) (dJ (pA C:ek E 45=some (.agg [.int .i64 0,.int .i64 0,.int .i64 0,.int .i64 0,.str [],.str [],.str []])) (And.intro (@iQ E _ _ _ _ _ aBx) (@axA E C)) (And.intro (@jl E _ _ _ aAY) (@ga E _ aAZ)) (And.intro (@iQ E _ _ _ _ _ aBy) (@ga E _ au6)))) (dJ (dJ (@fe E _ _ _ au6) (And.intro (pA C:ek E 35=some (.int .i64 0)) (dN C rfl:E.pairs 6 4=[(0,1),(0,2),(1,2)])) (@axB E C) (And.intro (bO C:bF E 5=false) (bO C:bF E 6=false))) (dJ (bO C:bF E 7=false) (And.intro (bO C:bF E 8=false) (bO C:bF E 9=false)) (And.intro (bO C:bF E 10=false) (bO C:bF E 11=false)) (And.intro (bO C:bF E 12=false) (bO C:bF E 13=false))) (dJ (bO C:bF E 14=false) (And.intro (bO C:bF E 15=false) (bO C:bF E 16=false)) (And.intro (bO C:bF E 17=false) (bO C:bF E 18=false)) (And.intro (bO C:bF E 19=false) (bO C:bF E 20=false))) (dJ (bO C:bF E 21=false) (And.intro (bO C:bF E 22=false) (bO C:bF E 23=false)) (And.intro (bO C:bF E 24=false) (bO C:bF E 26=false)) (And.intro (bO C:bF E 27=false) (bO C:bF E 29=false)))) (dJ (dJ (bO C:bF E 30=false) (And.intro (bO C:bF E 33=false) (bO C:bF E 34=false)) (bO C:bF E 35=false) (And.intro (bO C:bF E 36=false) (bO C:bF E 37=false))) (dJ (bO C:bF E 39=false) (And.intro (bO C:bF E 41=false) (bO C:bF E 43=false)) (And.intro (bO C:bF E 44=false) (bO C:bF E 45=false)) (And.intro (bO C:bF E 47=false) (bO C:bF E 49=false))) (dJ (bO C:bF E 52=false) (And.intro (bO C:bF E 63=false) (bO C:bF E 64=false)) (And.intro (bO C:bF E 69=false) (bO C:bF E 71=false)) (And.intro (bO C:bF E 72=false) (bO C:bF E 73=false))) (dJ (bO C:bF E 74=false) (And.intro (bO C:bF E 75=false) (bO C:bF E 76=false)) (And.intro (bO C:bF E 81=false) (bO C:bF E 84=false)) (And.intro (bO C:bF E 85=false) (bO C:bF E 91=false))))) (dJ (dJ (dJ (bO C:bF E 92=false) (And.intro (bO C:bF E 94=false) (bO C:bF E 95=false)) (bO C:bF E 99=false) (And.intro (bO C:bF E 101=false) (bO C:bF E 102=false))) (dJ (bO C:bF E 103=false) (And.intro (bO C:bF E 104=false) (bO C:bF E 106=false)) (And.intro (bO C:bF E 108=false) (bO C:bF E 109=false)) (And.intro (bO C:bF E 110=false) (bO C:bF E 112=false))) (dJ (bO C:bF E 117=false) (And.intro (bO C:bF E 123=false) (bO C:bF E 124=false)) (And.intro (bO C:bF E 125=false) (bO C:bF E 126=false)) (And.intro (bO C:bF E 127=false) (bO C:bF E 128=false))) (dJ (bO C:bF E 129=false) (And.intro (bO C:bF E 130=false) (bO C:bF E 136=false)) (And.intro (bO C:bF E 137=false) (bO C:bF E 141=false)) (And.intro (bO C:bF E 152=false) (bO C:bF E 155=false)))) (dJ (dJ (bO C:bF E 156=false) (And.intro (bO C:bF E 157=false) (bO C:bF E 158=false)) (bO C:bF E 159=false) (And.intro (bO C:bF E 160=false) (bO C:bF E 163=false))) (dJ (bO C:bF E 164=false) (And.intro (bO C:bF E 165=false) (bO C:bF E 166=false)) (And.intro (bO C:bF E 167=false) (bO C:bF E 170=false)) (And.intro (bO C:bF E 171=false) (bO C:bF E 173=false))) (dJ (bO C:bF E 174=false) (And.intro (bO C:bF E 175=false) (bO C:bF E 176=false)) (And.intro (bO C:bF E 177=false) (bO C:bF E 178=false)) (And.intro (bO C:bF E 179=false) (bO C:bF E 183=false))) (dJ (bO C:bF E 187=false) (And.intro (bO C:bF E 188=false) (bO C:bF E 191=false)) (And.intro (bO C:bF E 199=false) (bO C:bF E 200=false)) (And.intro (bO C:bF E 202=false) (bO C:bF E 203=false)))) (dJ (dJ (bO C:bF E 204=false) (And.intro (bO C:bF E 206=false) (bO C:bF E 207=false)) (bO C:bF E 208=false) (And.intro (bO C:bF E 210=false) (bO C:bF E 213=false))) (dJ (bO C:bF E 214=false) (And.intro (bO C:bF E 216=false) (bO C:bF E 225=false)) (And.intro (bO C:bF E 226=false) (bO C:bF E 228=false)) (And.intro (bO C:bF E 229=false) (bO C:bF E 240=false))) (dJ (bO C:bF E 241=false) (And.intro (bO C:bF E 261=false) (bO C:bF E 283=false)) (And.intro (bO C:bF E 291=false) (bO C:bF E 312=false)) (And.intro (bO C:bF E 32=true) (bO C:bF E 61=true))) (dJ (bO C:bF E 62=true) (And.intro (bO C:bF E 66=true) (bO C:bF E 161=true)) (And.intro (bO C:bF E 168=true) (bO C:bF E 189=true)) (And.intro (bO C:bF E 190=true) (bO C:bF E 209=true)))) (dJ (dJ (bO C:bF E 212=true) (And.intro (bO C:bF E 215=true) (bO C:bF E 233=true)) (And.intro (bO C:bF E 242=true) (bO C:bF E 243=true)) (And.intro (bO C:bF E 244=true) (bO C:bF E 245=true))) (dJ (bO C:bF E 246=true) (And.intro (bO C:bF E 247=true) (bO C:bF E 248=true)) (And.intro (bO C:bF E 249=true) (bO C:bF E 251=true)) (And.intro (bO C:bF E 252=true) (bO C:bF E 253=true))) (dJ (bO C:bF E 254=true) (And.intro (bO C:bF E 255=true) (bO C:bF E 256=true)) (And.intro (bO C:bF E 257=true) (bO C:bF E 258=true)) (And.intro (bO C:bF E 282=true) (bO C:bF E 284=true))) (dJ (bO C:bF E 285=true) (And.intro (bO C:bF E 286=true) (bO C:bF E 287=true)) (And.intro (bO C:bF E 288=true) (bO C:bF E 289=true)) (And.intro (bO C:bF E 309=true) (bO C:bF E 310=true)))))
section
variable{E:Env} [C:Ctx E]{f nt:Nat}{code:Code}{results:List ResultVar}{a b c e:AV}{G:AV->Prop}
def gw0(fC:E0.fn f=some {code:=code,ntmps:=nt,results:=results,pure:=true,eD:=false})(h:∀ts:List AV,ts.length=nt->V E code (S ts []) [] (lZ E results G))(he:f∉MG:=by decide):∃r,aP E f []=some r/\G r:=gv0 (C.ov _ _ he) (by rw[C.fn];exact fC) rfl h
def nY(fC:E0.fn f=some {code:=code,ntmps:=nt,results:=results,pure:=true,eD:=false})(h:∀ts:List AV,ts.length=nt->gt ts 0=a->V E code (S ts []) [] (lZ E results G))(he:f∉MG:=by decide)(hn:1<=nt:=by decide):∃r,aP E f [a]=some r/\G r:=gv1 (C.ov _ _ he) (by rw[C.fn];exact fC) rfl hn h
def oA(fC:E0.fn f=some {code:=code,ntmps:=nt,results:=results,pure:=true,eD:=false})(h:∀ts:List AV,ts.length=nt->gt ts 0=a->gt ts 1=b->V E code (S ts []) [] (lZ E results G))(he:f∉MG:=by decide)(hn:2<=nt:=by decide):∃r,aP E f [a,b]=some r/\G r:=gv2 (C.ov _ _ he) (by rw[C.fn];exact fC) rfl hn h
def gw3(fC:E0.fn f=some {code:=code,ntmps:=nt,results:=results,pure:=true,eD:=false})(h:∀ts:List AV,ts.length=nt->gt ts 0=a->gt ts 1=b->gt ts 2=c->V E code (S ts []) [] (lZ E results G))(he:f∉MG:=by decide)(hn:3<=nt:=by decide):∃r,aP E f [a,b,c]=some r/\G r:=gv3 (C.ov _ _ he) (by rw[C.fn];exact fC) rfl hn h
def gw4(fC:E0.fn f=some {code:=code,ntmps:=nt,results:=results,pure:=true,eD:=false})(h:∀ts:List AV,ts.length=nt->gt ts 0=a->gt ts 1=b->gt ts 2=c->gt ts 3=e->V E code (S ts []) [] (lZ E results G))(he:f∉MG:=by decide)(hn:4<=nt:=by decide):∃r,aP E f [a,b,c,e]=some r/\G r:=gv4 (C.ov _ _ he) (by rw[C.fn];exact fC) rfl hn h
end
end Go.Proofs.YtmkjgfnicfpjpaaGreatDoor
