/- Lemmas for AssemblyChecks; no condition. -/
import Derived.Test.YtmkjgfnicfpjpaaGreatDoorTan
set_option linter.all false
set_option maxHeartbeats 100000000
set_option maxRecDepth 100000
noncomputable section
open Option renaming some->aK3,map_some->aLt,bind_some->aPf
namespace Go.Proofs.YtmkjgfnicfpjpaaGreatDoor
open Go Dv
section
variable{E:Env}
def dL(E:Env)(t:Nat):Option (Bool×Nat):=match E.ty t with
 |some i=>some (i.isAgg,i.size)
 |none=>none
def fG(ag:Bool)(n:Nat)(cs:List AV)(o:Nat):Option AV:=if ag=true then(if o+n<=cs.length then some (.agg ((cs.drop o).take n))else none)else cs[o]?
def aef{n:Nat}{cs:List AV}{o:Nat}:fG true n cs o=if o+n<=cs.length then some (.agg ((cs.drop o).take n))else none:=rfl
def gI{n:Nat}{cs:List AV}{o:Nat}:fG false n cs o=cs[o]?:=rfl
def Zv{t:Nat}{ag:Bool}{n:Nat}(h:dL E t=some (ag,n)){cs:List AV}{o:Nat}:gl E t cs o=fG ag n cs o:=by
 unfold dL at h;unfold gl fG;cases hi:E.ty t with
 |none=>rw[hi]at h;cases h
 |some i=>
  rw[hi]at h;simp only[aK3.injEq,Prod.mk.injEq]at h;obtain⟨h1,h2⟩:=h;subst h1;subst h2
  rfl
def jl{t:Nat}{ag:Bool}{n:Nat}(h:dL E t=some (ag,n)){H:Hp}{cs:List AV}{o:Nat}:dW E H t (.cU cs o)=fG ag n cs o:=by
 show gl E t cs o=_
 exact Zv h
def gb{t:Nat}(h:dL E t=some (false,1)){H:Hp}{b o:Nat}:dW E H t (.bI b o)=cellAt H b o:=by
 refine gC ?_;unfold dL at h;cases hi:E.ty t with
 |none=>rw[hi]at h;cases h
 |some i=>rw[hi]at h;simp at h;exact⟨i,hi,h.1,h.2⟩
def iN{t n:Nat}(h:dL E t=some (true,n)){H:Hp}{b o:Nat}:dW E H t (.bI b o)=eP n H b o:=by
 refine nv ?_;unfold dL at h;unfold Nf;cases hi:E.ty t with
 |none=>rw[hi]at h;cases h
 |some i=>rw[hi]at h;simp at h;simp[h.1,h.2]
def e9{t n:Nat}{ag:Bool}(h:dL E t=some (ag,n)){H:Hp}{b o:Nat}{v:AV}:fe E H t (.bI b o) v=(gT n v.cells H b o).map fun x=>[(b,x)]:=by
 refine jC ?_;unfold dL at h;unfold JG;cases hi:E.ty t with
 |none=>rw[hi]at h;cases h
 |some i=>rw[hi]at h;simp at h;simp[h.2]
def fO(E:Env)(t f:Nat):Option (Nat×Bool×Nat):=match E.ty t with
 |some {cD:=.struct fields,..}=>(match fields[f]? with
  |some fd=>(match E.ty fd.type with
   |some fi=>if fi.size=0 then none else some (fd.offset,fi.isAgg,fi.size)
   |none=>none)
  |none=>none)
 |_=>none
def af4{t f off n:Nat}{ag:Bool}(h:fO E t f=some (off,ag,n)):(∀b o,cP E t (.bI b o) f=some (.bI b (o+off)))/\(∀cs o,cP E t (.cU cs o) f=some (.cU cs (o+off)))/\
  ∀cs,CG E t (.agg cs) f=fG ag n cs off:=by
 unfold fO at h;cases hi:E.ty t with
 |none=>rw[hi]at h;cases h
 |some i=>
  rw[hi]at h;obtain⟨cD,jA,jS,jB,jZ,dQ⟩:=i;cases cD<;>first|(cases h;done)|skip
  rename_i fs;simp only at h;cases hf:fs[f]? with
  |none=>rw[hf]at h;cases h
  |some fd=>
   rw[hf]at h;simp only at h;cases hj:E.ty fd.type with
   |none=>rw[hj]at h;cases h
   |some fi=>
    rw[hj]at h;simp only at h;by_cases hz:fi.size=0
    ·rw[if_pos hz]at h;cases h
    ·rw[if_neg hz]at h;simp only[aK3.injEq,Prod.mk.injEq]at h;obtain⟨h1,h2,h3⟩:=h;subst h1;subst h2;subst h3
     refine⟨fun b o=>?_,fun cs o=>?_,fun cs=>?_⟩
     ·simp only[cP,hi,hf,hj,hz,if_false]
     ·simp only[cP,hi,hf,hj,hz,if_false]
     ·simp only[CG,hi,hf,gl,hj,fG]
def fm{t f off n:Nat}{ag:Bool}(h:fO E t f=some (off,ag,n)){b o:Nat}:cP E t (.bI b o) f=some (.bI b (o+off)):=(af4 h).1 b o
def wE{t f off n:Nat}{ag:Bool}(h:fO E t f=some (off,ag,n)){cs:List AV}{o:Nat}:cP E t (.cU cs o) f=some (.cU cs (o+off)):=(af4 h).2.1 cs o
def gN(E:Env)(t:Nat):Option (Nat×Bool×Nat):=match E.ty t with
 |some {cD:=.array len e,..}=>(match E.ty e with
  |some ei=>some (len,ei.isAgg,ei.size)
  |none=>none)
 |_=>none
def afR{t len n:Nat}{ag:Bool}(h:gN E t=some (len,ag,n)):(∀b o k z,b9 E t (.bI b o) (.int k z)=if 0<=z/\z<(len:Int)then some (.bI b (o+z.toNat*n))else none)/\
  (∀cs o k z,b9 E t (.cU cs o) (.int k z)=if 0<=z/\z<(len:Int)then some (.cU cs (o+z.toNat*n))else none)/\
  (∀cs k z,lD E t (.agg cs) (.int k z)=if 0<=z/\z<(len:Int)then fG ag n cs (z.toNat*n)else none)/\
  (∀H aP v,bB E H aP .len [t] [v]=some (.int .i64 len,[])):=by
 unfold gN at h;cases hi:E.ty t with
 |none=>rw[hi]at h;cases h
 |some i=>
  rw[hi]at h;obtain⟨cD,jA,jS,jB,jZ,dQ⟩:=i;cases cD<;>first|(cases h;done)|skip
  rename_i ln e;simp only at h;cases he:E.ty e with
  |none=>rw[he]at h;cases h
  |some ei=>
   rw[he]at h;simp only[aK3.injEq,Prod.mk.injEq]at h;obtain⟨h1,h2,h3⟩:=h;subst h1;subst h2;subst h3
   refine⟨fun b o k z=>?_,fun cs o k z=>?_,fun cs k z=>?_,fun H aP v=>?_⟩
   ·simp only[b9,hi,he]
   ·simp only[b9,hi,he]
   ·simp only[lD,hi,he,gl,fG]
   ·simp[bB,nw,hi]
def BC{t len n:Nat}{ag:Bool}(h:gN E t=some (len,ag,n)){b o:Nat}{k:IntKind}{z:Int}:b9 E t (.bI b o) (.int k z)=if 0<=z/\z<(len:Int)then some (.bI b (o+z.toNat*n))else none:=(afR h).1 b o k z
def Ca{t len n:Nat}{ag:Bool}(h:gN E t=some (len,ag,n)){cs:List AV}{k:IntKind}{z:Int}:lD E t (.agg cs) (.int k z)=if 0<=z/\z<(len:Int)then fG ag n cs (z.toNat*n)else none:=(afR h).2.2.1 cs k z
def dV(E:Env)(t:Nat):Option (Bool×Nat×Nat×List AV):=match E.ty t with
 |some {cD:=.slice e,..}=>(match E.ty e with
  |some ei=>(match ei.zero with
   |some z=>some (ei.isAgg,ei.size,ei.bytes,z)
   |none=>none)
  |none=>none)
 |_=>none
def kC:AV->Option Int
 |.aH=>some 0
 |.dx=>some 0
 |.aK _ n=>some (n:Int)
 |.aI _ _ n _ _=>some (n:Int)
 |_=>none
def Kw:kC .aH=some 0:=rfl
def alk:kC .dx=some 0:=rfl
def YT{cs:List AV}{n:Nat}:kC (.aK cs n)=some (n:Int):=rfl
def Hm{b o n e k:Nat}:kC (.aI b o n e k)=some (n:Int):=rfl
def ali(x:Option Int):Option (AV×List (Nat×ct)):=match x with
 |some n=>some (.int .i64 n,[])
 |none=>none
def gX{n:Int}:ali (some n)=some (.int .i64 n,[]):=rfl
def iR{t n rU:Nat}{ag:Bool}{z:List AV}(h:dV E t=some (ag,n,rU,z)):∃i e ei,E.ty t=some i/\i.cD=.slice e/\E.ty e=some ei/\ei.isAgg=ag/\ei.size=n/\ei.bytes=rU/\ei.zero=some z:=by
 unfold dV at h;cases hi:E.ty t with
 |none=>rw[hi]at h;cases h
 |some i=>
  rw[hi]at h;obtain⟨cD,jA,jS,jB,jZ,dQ⟩:=i;cases cD<;>first|(cases h;done)|skip
  rename_i e;simp only at h;cases he:E.ty e with
  |none=>rw[he]at h;cases h
  |some ei=>
   rw[he]at h;simp only at h;cases hz:ei.zero with
   |none=>rw[hz]at h;cases h
   |some z'=>
    rw[hz]at h;simp only[aK3.injEq,Prod.mk.injEq]at h;exact⟨_,e,ei,rfl,rfl,he,h.1,h.2.1,h.2.2.1,by rw[hz,h.2.2.2]⟩
def iQ{t n rU:Nat}{ag:Bool}{z:List AV}(h:dV E t=some (ag,n,rU,z)){H:Hp}{aP:Nat}{v:AV}:bB E H aP .len [t] [v]=ali (kC v):=by
 obtain⟨i,e,ei,h1,h2,_⟩:=iR h;obtain⟨cD,jA,jS,jB,jZ,dQ⟩:=i;simp only at h2;subst h2;cases v<;>simp[bB,nw,h1,kC,ali]
def jY{t n rU:Nat}{ag:Bool}{z:List AV}(h:dV E t=some (ag,n,rU,z)){cs:List AV}{m:Nat}{k:IntKind}{x:Int}:b9 E t (.aK cs m) (.int k x)=if 0<=x/\x<(m:Int)then some (.cU cs (x.toNat*n))else none:=by obtain⟨i,e,ei,h1,h2,h3,h4,h5,_⟩:=iR h;simp only[b9,h1,h2,h3,h5]
def rK{t n rU:Nat}{ag:Bool}{z:List AV}(h:dV E t=some (ag,n,rU,z)){b o m kc:Nat}{k:IntKind}{x:Int}:b9 E t (.aI b o m n kc) (.int k x)=if 0<=x/\x<(m:Int)then some (.bI b (o+x.toNat*n))else none:=by obtain⟨i,e,ei,h1,h2,h3,h4,h5,_⟩:=iR h;simp only[b9,h1,h2,h3,h5,true_and]
def al8{t n rU:Nat}{ag:Bool}{z:List AV}(h:dV E t=some (ag,n,rU,z))(hz:z.length=n)(hn:0<n){aP m:Nat}{k k':IntKind}(hm:m*rU<=eU)(Eb:m<=4611686018427387904):
  fp E aP t (.int k (m:Int)) (.int k' (m:Int))=some (.aI aP 0 m n m,[(aP,.cells .live (gD z m))]):=by
 obtain⟨i,e,ei,h1,h2,h3,h4,h5,h6,h7⟩:=iR h;obtain⟨cD,jA,jS,jB,jZ,dQ⟩:=i;simp only at h2;subst h2;simp only[fp,h1,h3,h7,h5,h6];rw[if_pos ⟨by omega,Int.le_refl _,by simpa using hm,by omega,hz,hn⟩]
 simp
def DH(E:Env)(t:Nat):Option (List AV×List (Nat×Nat)):=match E.ty t with
 |some {cD:=.struct fields,zero:=some z,..}=>(eZ (fun(f:Field)=>(E.ty f.type).map fun fi=>(f.offset,fi.size)) fields.toList).map fun l=>(z,l)
 |_=>none
def lz(pl:List (Nat×Nat))(cells:List AV):List (Nat×AV)->Option (List AV)
 |[]=>some cells
 |(i,v)::rest=>
  match pl[i]? with
  |none=>none
  |some (off,size)=>if(v.cells.length==size&&decide (off+size<=cells.length))=true then lz pl (cells.take off++v.cells++cells.drop (off+size)) rest else none
def R6{pl:List (Nat×Nat)}{cells:List AV}:lz pl cells []=some cells:=rfl
def af5(pl:List (Nat×Nat))(cells:List AV)(rest:List (Nat×AV))(v:AV)(x:Option (Nat×Nat)):Option (List AV):=match x with
 |none=>none
 |some (off,size)=>if(v.cells.length==size&&decide (off+size<=cells.length))=true then lz pl (cells.take off++v.cells++cells.drop (off+size)) rest else none
def MG{pl:List (Nat×Nat)}{cells:List AV}{i:Nat}{v:AV}{rest:List (Nat×AV)}:lz pl cells ((i,v)::rest)=af5 pl cells rest v pl[i]?:=by rw[lz];rfl
def MF{pl:List (Nat×Nat)}{cells:List AV}{v:AV}{rest:List (Nat×AV)}{off size:Nat}:af5 pl cells rest v (some (off,size))=if(v.cells.length==size&&decide (off+size<=cells.length))=true then lz pl (cells.take off++v.cells++cells.drop (off+size)) rest else none:=rfl
def PX{place:Nat->Option (Nat×Nat)}{pl:List (Nat×Nat)}(h:∀i,place i=pl[i]?):∀(vs:List (Nat×AV)) (cells:List AV),fD place cells vs=lz pl cells vs
 |[],_=>rfl
 |(i,v)::rest,cells=>by
  rw[fD,lz,h i];cases pl[i]? with
  |none=>rfl
  |some p=>
   obtain⟨off,size⟩:=p;simp only;by_cases h1:v.cells.length=size<;>by_cases h2:off+size<=cells.length
   ·have h3:¬off+size>cells.length:=by omega
    simp[h1,h2,h3,PX h rest]
   ·have h3:off+size>cells.length:=by omega
    simp[h1,h2,h3]
   ·simp[h1]
   ·simp[h1]
def KA{α β:Type}{f:α->Option β}:∀{l:List α} {r:List β},eZ f l=some r->(∀i:Nat,(l[i]?).bind f=r[i]?)/\∀x∈l,(f x).isSome=true
 |[],r,h=>by cases h;exact⟨fun i=>by simp,fun x hx=>by cases hx⟩
 |x::xs,r,h=>by
  unfold eZ at h;cases hx:f x with
  |none=>rw[hx]at h;cases h
  |some y=>
   rw[hx]at h;simp only at h;cases XQ:eZ f xs with
   |none=>rw[XQ]at h;cases h
   |some ys=>
    rw[XQ]at h;cases h;have ih:=KA XQ;refine⟨fun i=>?_,fun z hz=>?_⟩
    ·cases i with
     |zero=>simp[hx]
     |succ i=>simpa using ih.1 i
    ·rcases List.mem_cons.1 hz with rfl|hz
     ·rw[hx];rfl
     ·exact ih.2 z hz
def vO{t:Nat}{z:List AV}{pl:List (Nat×Nat)}(h:DH E t=some (z,pl)){vs:List (Nat×AV)}:eN E t vs=(lz pl z vs).map .agg:=by
 unfold DH at h;cases hi:E.ty t with
 |none=>rw[hi]at h;cases h
 |some i=>
  rw[hi]at h;obtain⟨cD,jA,jS,jB,jZ,dQ⟩:=i;cases cD<;>first|(cases h;done)|skip
  rename_i fs;cases jZ with
  |none=>cases h
  |some z'=>
   simp only at h;cases hm:eZ (fun(f:Field)=>(E.ty f.type).map fun fi=>(f.offset,fi.size)) fs.toList with
   |none=>rw[hm]at h;cases h
   |some l=>
    rw[hm]at h;simp only[aLt,aK3.injEq,Prod.mk.injEq]at h;obtain⟨h1,h2⟩:=h;subst h1;subst h2
    have hg:=KA hm;have pY:fs.toList.all (fun f=>(E.ty f.type).isSome)=true:=by
     rw[List.all_eq_true];intro f hf
     have:=hg.2 f hf
     simpa using this
    unfold eN fA;simp only[hi,pY,if_true,aPf];rw[PX (pl:=l)];intro i
    have:=hg.1 i
    rw[<-this];cases hf:fs[i]? with
    |none=>simp[hf]
    |some f=>simp[hf]
def xM(E:Env)(t:Nat):Option (List AV×Nat):=match E.ty t with
 |some {cD:=.array _ e,zero:=some z,..}=>(E.ty e).map fun ei=>(z,ei.size)
 |_=>none
def tk(s:Nat)(cells:List AV)(vs:List (Nat×AV)):Option (List AV):=fD (fun i=>some (i*s,s)) cells vs
def R5{s:Nat}{cells:List AV}:tk s cells []=some cells:=rfl
def ME{s:Nat}{cells:List AV}{i:Nat}{v:AV}{rest:List (Nat×AV)}:tk s cells ((i,v)::rest)=if(v.cells.length==s&&decide (i*s+s<=cells.length))=true then tk s (cells.take (i*s)++v.cells++cells.drop (i*s+s)) rest else none:=by
 unfold tk;rw[fD];simp only;by_cases h1:v.cells.length=s<;>by_cases h2:i*s+s<=cells.length
 ·have h3:¬i*s+s>cells.length:=by omega
  simp[h1,h2,h3]
 ·have h3:i*s+s>cells.length:=by omega
  simp[h1,h2,h3]
 ·simp[h1]
 ·simp[h1]
def zy{t s:Nat}{z:List AV}(h:xM E t=some (z,s)){vs:List (Nat×AV)}:eN E t vs=(tk s z vs).map .agg:=by
 unfold xM at h;cases hi:E.ty t with
 |none=>rw[hi]at h;cases h
 |some i=>
  rw[hi]at h;obtain⟨cD,jA,jS,jB,jZ,dQ⟩:=i;cases cD<;>first|(cases h;done)|skip
  cases jZ with
  |none=>cases h
  |some z'=>
   simp only at h;rename_i len e;cases he:E.ty e with
   |none=>rw[he]at h;cases h
   |some ei=>
    rw[he]at h;simp only[aLt,aK3.injEq,Prod.mk.injEq]at h;obtain⟨h1,h2⟩:=h;subst h1;subst h2
    unfold eN fA;simp only[hi,he,aLt,aPf];rfl
def Fa(C:Ctx E){t:Nat}{x}(h:xM E0 t=some x:=by kernel_rfl):xM E t=some x:=by unfold xM at h⊢;rw[C.ty];exact h
def o8(C:Ctx E){t:Nat}{v:AV}(h:eo E0 t=some v:=by kernel_rfl):eo E t=some v:=by unfold eo at h⊢;rw[C.ty];exact h
def iZ(C:Ctx E){t:Nat}{x}(h:dL E0 t=some x:=by kernel_rfl):dL E t=some x:=by unfold dL at h⊢;rw[C.ty];exact h
def lZ(C:Ctx E){t f:Nat}{x}(h:fO E0 t f=some x:=by kernel_rfl):fO E t f=some x:=by unfold fO at h⊢;rw[C.ty];exact h
def B7(C:Ctx E){t:Nat}{x}(h:gN E0 t=some x:=by kernel_rfl):gN E t=some x:=by unfold gN at h⊢;rw[C.ty];exact h
def vL(C:Ctx E){t:Nat}{x}(h:dV E0 t=some x:=by kernel_rfl):dV E t=some x:=by unfold dV at h⊢;rw[C.ty];exact h
def vY(C:Ctx E){t:Nat}{x}(h:DH E0 t=some x:=by kernel_rfl):DH E t=some x:=by unfold DH at h⊢;rw[C.ty];exact h
def Lr(C:Ctx E){t:Nat}(h:kN E0 t=true:=by kernel_rfl):kN E t=true:=by unfold kN at h⊢;rw[C.ty];exact h
def bM(C:Ctx E){f:Nat}{b:Bool}(h:bF E0 f=b:=by kernel_rfl):bF E f=b:=by unfold bF at h⊢;rw[C.fn];exact h
def dM(C:Ctx E){i n:Nat}{l:List (Nat×Nat)}(h:Zu i n=l):E.pairs i n=l:=by rw[C.pairs];exact h
def QU{t:Nat}(h:kN E t=true){H:Hp}{aP:Nat}{s:List UInt8}:bB E H aP .len [t] [.str s]=some (.int .i64 s.length,[]):=by
 unfold kN at h;cases hi:E.ty t with
 |none=>rw[hi]at h;cases h
 |some i=>
  rw[hi]at h;obtain⟨cD,jA,jS,jB,jZ,dQ⟩:=i;cases cD<;>first|(cases h;done)|simp[bB,nw,hi]
def G6{t:Nat}(h:kN E t=true){s:List UInt8}{i:Nat}{c:UInt8}(hc:s[i]?=some c){k:IntKind}:lD E t (.str s) (.int k (i:Int))=some (.int .u8 c.toNat):=by
 unfold kN at h;cases hi:E.ty t with
 |none=>rw[hi]at h;cases h
 |some ti=>
  rw[hi]at h;obtain⟨cD,jA,jS,jB,jZ,dQ⟩:=ti;cases cD<;>first|(cases h;done)|simp[lD,hi,hc]
def al5{t:Nat}(h:kN E t=true){H:Hp}{s:List UInt8}{lo hi:Option AV}:HR E H t (.str s) lo hi=(fN s.length s.length lo hi).map fun x=>.str ((s.drop x.1).take (x.2-x.1)):=by
 unfold kN at h;cases sw:E.ty t with
 |none=>rw[sw]at h;cases h
 |some ti=>
  rw[sw]at h;obtain⟨cD,jA,jS,jB,jZ,dQ⟩:=ti;cases cD<;>first|(cases h;done)|simp[HR,gg,sw]
end
def acv{ts:List AV}{s:ByteArray}:bT ts (.const (.string s))=some (.str s.data.toList):=rfl
def IT{H:Hp}{cs:List AV}{o:Nat}:cellAt (H++[.cells .live cs]) H.length o=cs[o]?:=by
 rw[bX];simp
def TI{H:Hp}{n:Nat}{xs cs:List AV}{o:Nat}:gT n xs (H++[.cells .live cs]) H.length o=if(xs.length==n&&(decide (o+n<=cs.length)&&xs.all cL))=true then some (.cells .live (cV cs o xs))else none:=by
 rw[dX];simp
def Tk{H:Hp}{x y:ct}:cJ (H++[x]) H.length y=H++[y]:=by
 unfold cJ
 simp
def dN{H:Hp}{y:ct}:cJ H H.length y=H++[y]:=by
 unfold cJ
 simp
def Ro{out:List Nat}{H:Hp}{j z:Nat}(hj:j<out.length):gT 1 [.int .u32 (z:Int)] (H++[.cells .live (cA out)]) H.length j=some (.cells .live (cA (out.set j z))):=by rw[TI,uc hj,mY,if_pos];simp[cL];omega
def fK{out:List Nat}{j:Nat}(hj:j<out.length:=by omega):(cA out)[j]?=some (.int .u32 ((out.getD j 0:Nat):Int)):=by simp[cA,List.getD,hj]
def K5{n:Nat}:gD [.int .u32 0] n=cA (List.replicate n 0):=Re
def Ci:=dJ (dJ (And.intro @fk @ef) (And.intro @iW @V0) (And.intro @kI @abj) (And.intro @nM @kj)) (dJ (And.intro @nD @cp) (And.intro @jL @eK) (And.intro @avv @ahc) (And.intro @avu @avt)) (dJ (And.intro @fW @Dt) (And.intro @om @kF) (And.intro @acv @aef) (And.intro @gI @R6)) (dJ (And.intro @MG @R5) (And.intro @ME @MF) (And.intro @gX @YT) (And.intro @Hm (And.intro @Kw @alk)))
section
variable{E:Env} [C:Ctx E]
def bo4:isBool E 4=true:=Va C
def st9:kN E 9=true:=Lr C
def auw{H:Hp}{aP:Nat}{s:List UInt8}:bB E H aP .len [9] [.str s]=some (.int .i64 s.length,[]):=QU st9
def aBi{H:Hp}{s:List UInt8}{lo hi:Option AV}:HR E H 9 (.str s) lo hi=(fN s.length s.length lo hi).map fun x=>.str ((s.drop x.1).take (x.2-x.1)):=al5 st9
def aAW:dL E 22=some (false,1):=iZ C
def OE:dV E 22=some (true,3,48,[.str [],.int .i64 0,.aH]):=vL C
def au1:dL E 25=some (true,2):=iZ C
def ajy:fO E 25 0=some (0,false,1):=lZ C
def alK:dL E 30=some (true,3):=iZ C
def c3:=ew Tryz.f3
def fn3:E0.fn 3=fI c3 94 [.tmp 4]:=by kernel_rfl
def axp{vs:List (Nat×AV)}:eN E 25 vs=(lz [(0,1),(1,1)] [.aH,.aH] vs).map .agg:=vO (vY C)
def alL:dL E 43=some (true,3):=iZ C
def au3:dL E 45=some (true,7):=iZ C
def axt{vs:List (Nat×AV)}:eN E 45 vs=(lz [(0,4),(4,3)] [.int .i64 0,.int .i64 0,.int .i64 0,.int .i64 0,.str [],.str [],.str []] vs).map .agg:=vO (vY C)
def aBe:dV E 46=some (true,2,32,[.int .i64 0,.aH]):=vL C
def aBf:dV E 49=some (true,3,24,[.int .i64 0,.int .i64 0,.int .i64 0]):=vL C
def alN:dL E 62=some (true,12):=iZ C
def c4:=ew Tryz.f4
def axs{vs:List (Nat×AV)}:eN E 43 vs=(tk 1 [.str [],.str [],.str []] vs).map .agg:=zy (Fa C)
def c5:=ew Tryz.f5
def aAX:dL E 23=some (false,1):=iZ C
def al1:dV E 23=some (true,9,112,[.str [],.str [],.int .i64 0,.int .i64 0,.int .i64 0,.int .i64 0,.str [],.str [],.str []]):=vL C
def ajz:fO E 25 1=some (1,false,1):=lZ C
def alJ:dL E 28=some (false,1):=iZ C
def Lf:dV E 28=some (true,1,24,[.aH]):=vL C
def WD:fO E 30 2=some (2,false,1):=lZ C
def aA0:dL E 41=some (false,1):=iZ C
def aBk:kN E 41=true:=Lr C
def alj{H:Hp}{aP:Nat}{s:List UInt8}:bB E H aP .len [41] [.str s]=some (.int .i64 s.length,[]):=QU aBk
def anX:gN E 43=some (3,false,1):=B7 C
def WE:fO E 45 1=some (4,true,3):=lZ C
def alO:dL E 74=some (false,1):=iZ C
def OF:dV E 74=some (true,3,24,[.int .i64 0,.int .i64 0,.int .i64 0]):=vL C
def WG:fO E 76 0=some (0,false,1):=lZ C
def WI:fO E 78 2=some (2,true,7):=lZ C
def c6:=ew Tryz.f6
def fn6:E0.fn 6=fI c6 85 [.tmp 2]:=by kernel_rfl
def c7:=ew Tryz.f7
def fn7:E0.fn 7=fI c7 23 [.tmp 2]:=by kernel_rfl
def axq{vs:List (Nat×AV)}:eN E 30 vs=(lz [(0,1),(1,1),(2,1)] [.str [],.int .i64 0,.aH] vs).map .agg:=vO (vY C)
def c8:=ew Tryz.f8
def fn8:E0.fn 8=fI c8 20 [.cell 4 30,.tmp 5]:=by kernel_rfl
def pI9:dL E 9=some (false,1):=iZ C
def WB:fO E 30 0=some (0,false,1):=lZ C
def c9:=ew Tryz.f9
def fn9:E0.fn 9=fI c9 28 [.cell 4 30,.tmp 5]:=by kernel_rfl
def c10:=ew Tryz.f10
def ax8:E0.fn 10=fI c10 15 [.tmp 4,.tmp 5]:=by kernel_rfl
def WH:fO E 78 0=some (0,false,1):=lZ C
def c11:=ew Tryz.f11
def ax9:E0.fn 11=fI c11 23 [.tmp 4,.tmp 5]:=by kernel_rfl
def au6:dL E 78=some (true,9):=iZ C
def ajF:fO E 78 1=some (1,false,1):=lZ C
def c12:=ew Tryz.f12
def aya:E0.fn 12=fI c12 69 [.tmp 2]:=by kernel_rfl
def c13:=ew Tryz.f13
def ayb:E0.fn 13=fI c13 104 [.tmp 2]:=by kernel_rfl
def pI3:dL E 3=some (false,1):=iZ C
def WC:fO E 30 1=some (1,false,1):=lZ C
def alQ:dL E 89=some (true,3):=iZ C
def c14:=ew Tryz.f14
def ayc:E0.fn 14=fI c14 108 [.tmp 4]:=by kernel_rfl
def au2:dL E 35=some (false,1):=iZ C
def alM:dL E 60=some (true,4):=iZ C
def c20:=ew Tryz.f20
def axw{vs:List (Nat×AV)}:eN E 62 vs=(tk 4 [.bool false,.aH,.bool false,.aH,.bool false,.aH,.bool false,.aH,.bool false,.aH,.bool false,.aH] vs).map .agg:=zy (Fa C)
def ahM:gN E 62=some (3,true,4):=B7 C
def c21:=ew Tryz.f21
def Lg:dV E 67=some (false,1,8,[.int .i64 0]):=vL C
def Vt:=ew Tryz.f22
def aAZ:dL E 40=some (true,4):=iZ C
def axr{vs:List (Nat×AV)}:eN E 40 vs=(tk 1 [.int .i64 0,.int .i64 0,.int .i64 0,.int .i64 0] vs).map .agg:=zy (Fa C)
def axx{vs:List (Nat×AV)}:eN E 89 vs=(tk 1 [.int .i64 0,.int .i64 0,.int .i64 0] vs).map .agg:=zy (Fa C)
def c26:=ew Tryz.f26
def ayd:E0.fn 26=fI c26 51 [.tmp 2]:=by kernel_rfl
def c27:=ew Tryz.f27
def arT:E0.fn 27=fI c27 19 [.tmp 4]:=by kernel_rfl
def c28:=ew Tryz.f28
def aye:E0.fn 28=fI c28 8 [.tmp 3]:=by kernel_rfl
def alP:dL E 76=some (true,1):=iZ C
def c29:=ew Tryz.f29
def ayf:E0.fn 29=fI c29 27 [.cell 2 30]:=by kernel_rfl
def c30:=ew Tryz.f30
def ar3:E0.fn 30=fI c30 19 [.tmp 4]:=by kernel_rfl
def c31:=ew Tryz.f31
def ayh:E0.fn 31=fI c31 8 [.tmp 3]:=by kernel_rfl
def c32:=ew Tryz.f32
def ayi:E0.fn 32=fJ c32 13 [.tmp 4] false:=by kernel_rfl
def c33:=ew Tryz.f33
def ayj:E0.fn 33=fI c33 11 [.tmp 2]:=by kernel_rfl
def axi:gN E 40=some (4,false,1):=B7 C
def ajA:fO E 45 0=some (0,true,4):=lZ C
def c34:=ew Tryz.f34
def ayk:E0.fn 34=fI c34 60 [.tmp 2]:=by kernel_rfl
def c35:=ew Tryz.f35
def ayl:E0.fn 35=fI c35 51 [.tmp 2]:=by kernel_rfl
def au4:dL E 58=some (true,2):=iZ C
def axv{vs:List (Nat×AV)}:eN E 60 vs=(lz [(0,2),(2,2)] [.bool false,.aH,.bool false,.aH] vs).map .agg:=vO (vY C)
def ajD:fO E 60 0=some (0,true,2):=lZ C
def c47:=ew Tryz.f47
def aym:E0.fn 47=fI c47 34 [.cell 4 60]:=by kernel_rfl
def c49:=ew Tryz.f49
def ayn:E0.fn 49=fI c49 9 [.cell 4 62]:=by kernel_rfl
def c52:=ew Tryz.f52
def ayo:E0.fn 52=fI c52 6 [.cell 2 60]:=by kernel_rfl
def ajE:fO E 60 1=some (2,true,2):=lZ C
def UY:gN E 89=some (3,false,1):=B7 C
def c61:=ew Tryz.f61
def ayp:E0.fn 61=fJ c61 8 [.tmp 2] true:=by kernel_rfl
def c62:=ew Tryz.f62
def ayq:E0.fn 62=fJ c62 8 [.tmp 2] true:=by kernel_rfl
def Gp:dV E 101=some (true,3,72,[.aH,.aH,.aH]):=vL C
def Zq:dL E 139=some (true,3):=iZ C
def c63:=ew Tryz.f63
def ayr:E0.fn 63=fI c63 64 [.tmp 2,.tmp 3]:=by kernel_rfl
def c64:=ew Tryz.f64
def ays:E0.fn 64=fI c64 8 [.cell 2 62,.tmp 3]:=by kernel_rfl
def aA2:dL E 49=some (false,1):=iZ C
def aA1:dL E 46=some (false,1):=iZ C
def c69:=ew Tryz.f69
def ayt:E0.fn 69=fI c69 28 [.cell 4 60]:=by kernel_rfl
def c71:=ew Tryz.f71
def ayu:E0.fn 71=fI c71 14 [.tmp 2]:=by kernel_rfl
def pI4:dL E 4=some (false,1):=iZ C
def aA3:dL E 56=some (false,1):=iZ C
def ajC:fO E 58 1=some (1,false,1):=lZ C
def ajB:fO E 58 0=some (0,false,1):=lZ C
def c73:=ew Tryz.f73
def ar6:E0.fn 73=fI c73 37 [.cell 4 60]:=by kernel_rfl
def Bu:dV E 56=some (false,1,4,[.int .u32 0]):=vL C
def ahf{aP m:Nat}{k k':IntKind}(h:m<=100000000000):fp E aP 56 (.int k (m:Int)) (.int k' (m:Int))=some (.aI aP 0 m 1 m,[(aP,.cells .live (gD [.int .u32 0] m))]):=al8 Bu rfl (by decide) (by unfold eU;omega) (by omega)
def Zr:dL E 177=some (false,1):=iZ C
def fX:gk E 177=some .u32:=zY C
def gU:gk E 178=some .u64:=zY C
def c75:=ew Tryz.f75
def ayv:E0.fn 75=fI c75 10 [.cell 2 58]:=by kernel_rfl
def c76:=ew Tryz.f76
def ayw:E0.fn 76=fI c76 24 [.cell 6 62]:=by kernel_rfl
def aAg:bF E 69=false:=bM C
def c77:=ew Tryz.f77
def ayx:E0.fn 77=fI c77 9 [.cell 5 60]:=by kernel_rfl
def Up:gk E 3=some .i64:=zY C
def c84:=ew Tryz.f84
def ayy:E0.fn 84=fI c84 17 [.cell 2 62]:=by kernel_rfl
def c85:=ew Tryz.f85
def ayz:E0.fn 85=fI c85 27 [.tmp 4]:=by kernel_rfl
def au5:dL E 67=some (false,1):=iZ C
def agY:dL E 135=some (false,1):=iZ C
def AZ:dV E 135=some (true,12,192,[.bool false,.aH,.bool false,.aH,.bool false,.aH,.bool false,.aH,.bool false,.aH,.bool false,.aH]):=vL C
def agZ:dL E 136=some (false,1):=iZ C
def Ld:dV E 136=some (true,17,280,[.bool false,.aH,.bool false,.aH,.bool false,.aH,.bool false,.aH,.bool false,.aH,.bool false,.aH,.bool false,.aH,.bool false,.aH,.aH]):=vL C
def ag0:dL E 137=some (false,1):=iZ C
def aoa{vs:List (Nat×AV)}:eN E 139 vs=(lz [(0,1),(1,1),(2,1)] [.aH,.aH,.aH] vs).map .agg:=vO (vY C)
def acB:fO E 139 2=some (2,false,1):=lZ C
def acA:fO E 139 1=some (1,false,1):=lZ C
def acz:fO E 139 0=some (0,false,1):=lZ C
def DO:dV E 200=some (true,4,32,[.int .i64 0,.int .i64 0,.int .i64 0,.int .u64 0]):=vL C
def Rj:dV E 201=some (false,1,24,[.aH]):=vL C
def Zs:dL E 205=some (true,4):=iZ C
def acC:fO E 205 0=some (0,true,3):=lZ C
def aoc{vs:List (Nat×AV)}:eN E 208 vs=(lz [(0,12),(12,4),(16,1)] [.bool false,.aH,.bool false,.aH,.bool false,.aH,.bool false,.aH,.bool false,.aH,.bool false,.aH,.bool false,.aH,.bool false,.aH,.aH] vs).map .agg:=vO (vY C)
def c91:=ew Tryz.f91
def ar7:E0.fn 91=fI c91 86 [.cell 2 139,.tmp 3]:=by kernel_rfl
def c92:=ew Tryz.f92
def ayA:E0.fn 92=fI c92 9 [.tmp 4]:=by kernel_rfl
def c93:=ew Tryz.f93
def ayB:E0.fn 93=fI c93 7 [.tmp 3]:=by kernel_rfl
def c94:=ew Tryz.f94
def ayC:E0.fn 94=fI c94 36 [.cell 4 4]:=by kernel_rfl
def c95:=ew Tryz.f95
def ayD:E0.fn 95=fI c95 31 [.cell 4 62,.tmp 5]:=by kernel_rfl
def c96:=ew Tryz.f96
def ayE:E0.fn 96=fI c96 8 [.cell 2 60,.tmp 3]:=by kernel_rfl
def ahb:dV E 168=some (true,4,64,[.bool false,.aH,.bool false,.aH]):=vL C
def c99:=ew Tryz.f99
def ayF:E0.fn 99=fI c99 17 [.cell 2 60]:=by kernel_rfl
def aoj:=ew Tryz.f103
def aqL:E0.fn 103=fI aoj 2 [.cell 0 58]:=by kernel_rfl
def axu{vs:List (Nat×AV)}:eN E 58 vs=(lz [(0,1),(1,1)] [.bool false,.aH] vs).map .agg:=vO (vY C)
def kd2:gk E 2=some .i64:=zY C
def aok:=ew Tryz.f109
def aqM:E0.fn 109=fI aok 26 [.cell 4 58]:=by kernel_rfl
def aol:=ew Tryz.f110
def aqN:E0.fn 110=fI aol 51 [.cell 4 58,.cell 5 58,.tmp 6]:=by kernel_rfl
def aom:=ew Tryz.f117
def aqO:E0.fn 117=fI aom 41 [.cell 4 60,.cell 5 60]:=by kernel_rfl
def agP:bF E 152=false:=bM C
def aon:=ew Tryz.f123
def aqP:E0.fn 123=fI aon 11 [.cell 4 60]:=by kernel_rfl
def aia:=ew Tryz.f124
def af7:E0.fn 124=fI aia 54 [.tmp 2]:=by kernel_rfl
def Rk:dV E 250=some (true,5,56,[.int .i64 0,.int .i64 0,.int .i64 0,.int .u64 0,.aH]):=vL C
def ag3:dL E 254=some (true,5):=iZ C
def aod{vs:List (Nat×AV)}:eN E 254 vs=(lz [(0,4),(4,1)] [.int .i64 0,.int .i64 0,.int .i64 0,.int .u64 0,.aH] vs).map .agg:=vO (vY C)
def acH:fO E 254 1=some (4,false,1):=lZ C
def acG:fO E 254 0=some (0,true,4):=lZ C
def aoo:=ew Tryz.f125
def aqQ:E0.fn 125=fI aoo 66 [.tmp 2,.tmp 3,.tmp 4]:=by kernel_rfl
def aib:=ew Tryz.f126
def af8:E0.fn 126=fI aib 67 [.cell 2 62,.tmp 3]:=by kernel_rfl
def Le:dV E 137=some (true,4,32,[.int .i64 0,.int .i64 0,.int .i64 0,.int .i64 0]):=vL C
def ag2:dL E 208=some (true,17):=iZ C
def acF:fO E 208 2=some (16,false,1):=lZ C
def ag4:dL E 260=some (false,1):=iZ C
def ag5:dL E 264=some (true,2):=iZ C
def aoe{vs:List (Nat×AV)}:eN E 264 vs=(tk 1 [.int .i64 0,.int .i64 0] vs).map .agg:=zy (Fa C)
def anV:gN E 264=some (2,false,1):=B7 C
def aof{vs:List (Nat×AV)}:eN E 266 vs=(lz [(0,1),(1,1),(2,2)] [.int .i64 0,.int .i64 0,.int .i64 0,.int .i64 0] vs).map .agg:=vO (vY C)
def acK:fO E 266 2=some (2,true,2):=lZ C
def aop:=ew Tryz.f127
def aqR:E0.fn 127=fI aop 64 [.tmp 2]:=by kernel_rfl
def Mc:=ew Tryz.f128
def af9:E0.fn 128=fI Mc 19 [.tmp 4]:=by kernel_rfl
def aor:=ew Tryz.f129
def aqS:E0.fn 129=fI aor 6 [.tmp 4]:=by kernel_rfl
def atY:bF E 177=false:=bM C
def atZ:bF E 178=false:=bM C
def aos:=ew Tryz.f130
def aqT:E0.fn 130=fI aos 85 [.cell 4 60,.tmp 5]:=by kernel_rfl
def at0:bF E 188=false:=bM C
def aot:=ew Tryz.f137
def aqU:E0.fn 137=fI aot 79 [.tmp 4,.tmp 5]:=by kernel_rfl
def aou:=ew Tryz.f141
def aqV:E0.fn 141=fI aou 8 [.cell 4 62]:=by kernel_rfl
def yp:gk E 179=some .u64:=zY C
def aov:=ew Tryz.f152
def aqW:E0.fn 152=fI aov 9 [.cell 4 60]:=by kernel_rfl
def aow:=ew Tryz.f155
def aqX:E0.fn 155=fI aow 5 [.tmp 2]:=by kernel_rfl
def aox:=ew Tryz.f156
def aqY:E0.fn 156=fI aox 8 [.tmp 4]:=by kernel_rfl
def aoy:=ew Tryz.f157
def aqZ:E0.fn 157=fI aoy 49 [.tmp 2]:=by kernel_rfl
def aoz:=ew Tryz.f158
def aq0:E0.fn 158=fI aoz 35 [.tmp 2]:=by kernel_rfl
def ag1:dL E 178=some (false,1):=iZ C
def acD:fO E 205 1=some (3,false,1):=lZ C
def aoA:=ew Tryz.f159
def aq1:E0.fn 159=fI aoA 51 [.tmp 2]:=by kernel_rfl
def aoB:=ew Tryz.f160
def aq2:E0.fn 160=fI aoB 101 [.tmp 4]:=by kernel_rfl
def aih:=ew Tryz.f161
def aga:E0.fn 161=fJ aih 14 [] false:=by kernel_rfl
def aoC:=ew Tryz.f162
def aq3:E0.fn 162=fI aoC 10 [.tmp 4]:=by kernel_rfl
def aoD:=ew Tryz.f163
def aq4:E0.fn 163=fI aoD 36 [.tmp 4]:=by kernel_rfl
def aoE:=ew Tryz.f164
def aq5:E0.fn 164=fI aoE 7 [.tmp 2]:=by kernel_rfl
def aoF:=ew Tryz.f165
def aq6:E0.fn 165=fI aoF 13 [.cell 4 60,.tmp 5]:=by kernel_rfl
def aoG:=ew Tryz.f166
def aq7:E0.fn 166=fI aoG 5 [.cell 2 58]:=by kernel_rfl
def aoH:=ew Tryz.f167
def aq8:E0.fn 167=fI aoH 4 [.tmp 2]:=by kernel_rfl
def aii:=ew Tryz.f168
def agb:E0.fn 168=fJ aii 14 [] false:=by kernel_rfl
def acJ:fO E 266 1=some (1,false,1):=lZ C
def acI:fO E 266 0=some (0,false,1):=lZ C
def aoI:=ew Tryz.f169
def aq9:E0.fn 169=fI aoI 17 [.tmp 4]:=by kernel_rfl
def aoJ:=ew Tryz.f170
def ara:E0.fn 170=fI aoJ 18 [.tmp 2]:=by kernel_rfl
def aoK:=ew Tryz.f171
def arb:E0.fn 171=fI aoK 20 [.tmp 4]:=by kernel_rfl
def acE:fO E 208 0=some (0,true,12):=lZ C
def aog{vs:List (Nat×AV)}:eN E 271 vs=(tk 3 [.aH,.aH,.aH,.aH,.aH,.aH] vs).map .agg:=zy (Fa C)
def anW:gN E 271=some (2,true,3):=B7 C
def aij:=ew Tryz.f172
def arc:E0.fn 172=fJ aij 63 [] false:=by kernel_rfl
def Zt:dL E 266=some (true,4):=iZ C
def aoL:=ew Tryz.f173
def ard:E0.fn 173=fI aoL 55 [.tmp 2]:=by kernel_rfl
def aoM:=ew Tryz.f174
def are:E0.fn 174=fI aoM 37 [.cell 4 62]:=by kernel_rfl
def aoN:=ew Tryz.f175
def arf:E0.fn 175=fI aoN 13 [.tmp 4,.tmp 5,.tmp 6]:=by kernel_rfl
def aoO:=ew Tryz.f176
def arh:E0.fn 176=fI aoO 10 [.tmp 2]:=by kernel_rfl
def at1:bF E 225=false:=bM C
def at5:bF E 226=false:=bM C
def at6:bF E 228=false:=bM C
def Et:=ew Tryz.f179
def ari:E0.fn 179=fI Et 71 [.cell 2 58,.tmp 3]:=by kernel_rfl
def aoP:=ew Tryz.f183
def arj:E0.fn 183=fI aoP 6 [.cell 2 62]:=by kernel_rfl
def aoQ:=ew Tryz.f187
def ark:E0.fn 187=fI aoQ 21 [.tmp 4]:=by kernel_rfl
def aoR:=ew Tryz.f189
def arl:E0.fn 189=fJ aoR 40 [.tmp 4] false:=by kernel_rfl
def sX:=ew Tryz.f190
def arn:E0.fn 190=fJ sX 173 [.tmp 4] false:=by kernel_rfl
def aoS:=ew Tryz.f191
def aro:E0.fn 191=fI aoS 45 [.tmp 4]:=by kernel_rfl
def aoT:=ew Tryz.f199
def arp:E0.fn 199=fI aoT 9 [.cell 2 60]:=by kernel_rfl
def ao3:=ew Tryz.f200
def arq:E0.fn 200=fI ao3 9 [.tmp 4]:=by kernel_rfl
def ao4:=ew Tryz.f201
def ars:E0.fn 201=fI ao4 9 [.tmp 2]:=by kernel_rfl
def ao5:=ew Tryz.f202
def art:E0.fn 202=fI ao5 39 [.cell 4 89]:=by kernel_rfl
def ao6:=ew Tryz.f203
def aru:E0.fn 203=fI ao6 21 [.cell 4 89]:=by kernel_rfl
def ao7:=ew Tryz.f204
def arv:E0.fn 204=fI ao7 9 [.tmp 4]:=by kernel_rfl
def ao8:=ew Tryz.f205
def arw:E0.fn 205=fI ao8 15 [.tmp 5]:=by kernel_rfl
def ao9:=ew Tryz.f206
def arx:E0.fn 206=fI ao9 22 [.tmp 4]:=by kernel_rfl
def aob{vs:List (Nat×AV)}:eN E 205 vs=(lz [(0,3),(3,1)] [.int .i64 0,.int .i64 0,.int .i64 0,.int .u64 0] vs).map .agg:=vO (vY C)
def apa:=ew Tryz.f207
def ary:E0.fn 207=fI apa 79 [.cell 8 205,.tmp 9]:=by kernel_rfl
def kd5:gk E 5=some .u8:=zY C
def apb:=ew Tryz.f208
def arz:E0.fn 208=fI apb 14 [.tmp 2]:=by kernel_rfl
def aiD:=ew Tryz.f209
def agc:E0.fn 209=fJ aiD 148 [] false:=by kernel_rfl
def apd:=ew Tryz.f211
def arA:E0.fn 211=fJ apd 25 [] false:=by kernel_rfl
def aiE:=ew Tryz.f212
def agd:E0.fn 212=fJ aiE 148 [] false:=by kernel_rfl
def ape:=ew Tryz.f213
def arB:E0.fn 213=fI ape 6 [.tmp 2]:=by kernel_rfl
def apf:=ew Tryz.f214
def arC:E0.fn 214=fI apf 49 [.tmp 6,.tmp 7]:=by kernel_rfl
def apg:=ew Tryz.f216
def arD:E0.fn 216=fI apg 23 [.tmp 4,.tmp 5,.tmp 6]:=by kernel_rfl
def aiF:=ew Tryz.f233
def age:E0.fn 233=fJ aiF 8 [.tmp 2] true:=by kernel_rfl
def aiG:=ew Tryz.f240
def agf:E0.fn 240=fI aiG 19 [.tmp 4]:=by kernel_rfl
def aiH:=ew Tryz.f241
def agh:E0.fn 241=fI aiH 19 [.tmp 4]:=by kernel_rfl
def aiI:=ew Tryz.f242
def agi:E0.fn 242=fJ aiI 53 [] false:=by kernel_rfl
def aph:=ew Tryz.f243
def arE:E0.fn 243=fJ aph 60 [] false:=by kernel_rfl
def ag6:dL E 369=some (false,1):=iZ C
def auh:gk E 369=some .u64:=zY C
def api:=ew Tryz.f244
def arF:E0.fn 244=fJ api 67 [] false:=by kernel_rfl
def apj:=ew Tryz.f245
def arG:E0.fn 245=fJ apj 63 [.tmp 8,.tmp 9] false:=by kernel_rfl
def apk:=ew Tryz.f246
def arH:E0.fn 246=fJ apk 34 [] false:=by kernel_rfl
def apl:=ew Tryz.f247
def arI:E0.fn 247=fJ apl 141 [.tmp 8] false:=by kernel_rfl
def apm:=ew Tryz.f248
def arJ:E0.fn 248=fJ apm 90 [.tmp 10] false:=by kernel_rfl
def apn:=ew Tryz.f249
def arK:E0.fn 249=fJ apn 178 [.tmp 10,.tmp 11] false:=by kernel_rfl
def aiJ:=ew Tryz.f251
def agj:E0.fn 251=fJ aiJ 53 [] false:=by kernel_rfl
def apo:=ew Tryz.f252
def arL:E0.fn 252=fJ apo 60 [] false:=by kernel_rfl
def apq:=ew Tryz.f253
def arM:E0.fn 253=fJ apq 67 [] false:=by kernel_rfl
def apr:=ew Tryz.f254
def arN:E0.fn 254=fJ apr 63 [.tmp 8,.tmp 9] false:=by kernel_rfl
def aps:=ew Tryz.f255
def arO:E0.fn 255=fJ aps 34 [] false:=by kernel_rfl
def apt:=ew Tryz.f256
def arP:E0.fn 256=fJ apt 141 [.tmp 8] false:=by kernel_rfl
def apu:=ew Tryz.f257
def arQ:E0.fn 257=fJ apu 90 [.tmp 10] false:=by kernel_rfl
def apv:=ew Tryz.f258
def arR:E0.fn 258=fJ apv 178 [.tmp 10,.tmp 11] false:=by kernel_rfl
def apw:=ew Tryz.f261
def arS:E0.fn 261=fI apw 143 [.tmp 4]:=by kernel_rfl
def apx:=ew Tryz.f282
def arU:E0.fn 282=fJ apx 82 [] false:=by kernel_rfl
def apy:=ew Tryz.f283
def arV:E0.fn 283=fI apy 7 [.tmp 2]:=by kernel_rfl
def apz:=ew Tryz.f284
def arW:E0.fn 284=fJ apz 33 [.tmp 2] false:=by kernel_rfl
def apA:=ew Tryz.f285
def arX:E0.fn 285=fJ apA 18 [.tmp 8] false:=by kernel_rfl
def apB:=ew Tryz.f286
def arY:E0.fn 286=fJ apB 41 [.tmp 12] false:=by kernel_rfl
def apC:=ew Tryz.f287
def arZ:E0.fn 287=fJ apC 82 [] false:=by kernel_rfl
def apD:=ew Tryz.f288
def ar0:E0.fn 288=fJ apD 18 [.tmp 8] false:=by kernel_rfl
def apE:=ew Tryz.f289
def ar1:E0.fn 289=fJ apE 41 [.tmp 12] false:=by kernel_rfl
def at7:bF E 312=false:=bM C
def apF:=ew Tryz.f291
def ar2:E0.fn 291=fI apF 8 [.tmp 4]:=by kernel_rfl
def apM:=ew Tryz.f309
def ar4:E0.fn 309=fJ apM 32 [.tmp 10,.tmp 11] false:=by kernel_rfl
def apN:=ew Tryz.f310
def ar5:E0.fn 310=fJ apN 32 [.tmp 10,.tmp 11] false:=by kernel_rfl
end
def aT:=And.intro @kH (And.intro @aa2 @aa3)
def aJ{E:Env} [C:Ctx E]:=dJ (dJ (dJ (dJ (@iQ E _ _ _ _ _ Bu) (And.intro (@jY E _ _ _ _ _ Bu) (@rK E _ _ _ _ _ Bu)) (@gb E _ Zr) (And.intro (@jl E _ _ _ Zr) (@e9 E _ _ _ Zr))) (dJ (dM C rfl:E.pairs 5 10=[]) (And.intro (dM C rfl:E.pairs 7 17=[]) (dM C rfl:E.pairs 2 14=[])) (And.intro (dM C rfl:E.pairs 3 18=[]) (dM C rfl:E.pairs 4 26=[])) (And.intro (@gb E _ aA3) (@iN E _ _ au4))) (dJ (@e9 E _ _ _ au4) (And.intro (o8 C:eo E 58=some (.agg [.bool false,.aH])) (@axu E C)) (And.intro (@fm E _ _ _ _ _ ajC) (dM C rfl:E.pairs 1 6=[])) (And.intro (@gb E _ pI4) (@fm E _ _ _ _ _ ajB))) (dJ (dM C rfl:E.pairs 4 13=[]) (And.intro (dM C rfl:E.pairs 7 5=[(1,2)]) (@gb E _ pI9)) (And.intro (@jl E _ _ _ pI9) (dM C rfl:E.pairs 3 16=[])) (And.intro (@gb E _ pI3) (@jl E _ _ _ pI3)))) (dJ (dJ (@iN E _ _ alQ) (And.intro (@jl E _ _ _ alQ) (@e9 E _ _ _ alQ)) (o8 C:eo E 89=some (.agg [.int .i64 0,.int .i64 0,.int .i64 0])) (And.intro (@axx E C) (@BC E _ _ _ _ UY))) (dJ (@Ca E _ _ _ _ UY) (And.intro (@iQ E _ _ _ _ _ OF) (@jY E _ _ _ _ _ OF)) (And.intro (@gb E _ ag1) (@e9 E _ _ _ ag1)) (And.intro (@iN E _ _ Zs) (@jl E _ _ _ Zs))) (dJ (@e9 E _ _ _ Zs) (And.intro (o8 C:eo E 205=some (.agg [.int .i64 0,.int .i64 0,.int .i64 0,.int .u64 0])) (@aob E C)) (And.intro (@fm E _ _ _ _ _ acD) (@fm E _ _ _ _ _ acC)) (And.intro (dM C rfl:E.pairs 1 21=[(3,19),(7,19),(8,19),(12,19),(16,19),(17,19),(18,19)]) (dM C rfl:E.pairs 9 9=[]))) (dJ (dM C rfl:E.pairs 10 7=[]) (And.intro (@iQ E _ _ _ _ _ Lg) (@jY E _ _ _ _ _ Lg)) (And.intro (@rK E _ _ _ _ _ Lg) (@gb E _ au5)) (And.intro (@jl E _ _ _ au5) (@fm E _ _ _ _ _ acH)))) (dJ (dJ (@fm E _ _ _ _ _ acJ) (And.intro (@fm E _ _ _ _ _ acI) (dM C rfl:E.pairs 1 13=[])) (@iQ E _ _ _ _ _ Gp) (And.intro (@jY E _ _ _ _ _ Gp) (@rK E _ _ _ _ _ Gp))) (dJ (@iN E _ _ Zq) (And.intro (@jl E _ _ _ Zq) (@iQ E _ _ _ _ _ OE)) (And.intro (@jY E _ _ _ _ _ OE) (@iN E _ _ alK)) (And.intro (@jl E _ _ _ alK) (@iQ E _ _ _ _ _ al1))) (dJ (@jY E _ _ _ _ _ al1) (And.intro (@jl E _ _ _ au6) (@iQ E _ _ _ _ _ DO)) (And.intro (@jY E _ _ _ _ _ DO) (@auw E C)) (And.intro (@aBi E C) (@iN E _ _ alM))) (dJ (@jl E _ _ _ alM) (And.intro (@e9 E _ _ _ alM) (o8 C:eo E 60=some (.agg [.bool false,.aH,.bool false,.aH]))) (And.intro (@axv E C) (dM C rfl:E.pairs 2 6=[])) (And.intro (dM C rfl:E.pairs 4 4=[]) (@fm E _ _ _ _ _ ajE)))) (dJ (dJ (dM C rfl:E.pairs 1 12=[(4,8),(4,9)]) (And.intro (@fm E _ _ _ _ _ ajD) (dM C rfl:E.pairs 1 7=[])) (dM C rfl:E.pairs 3 12=[]) (And.intro (dM C rfl:E.pairs 1 5=[]) (dM C rfl:E.pairs 3 13=[]))) (dJ (dM C rfl:E.pairs 15 16=[]) (And.intro (@iN E _ _ alN) (@jl E _ _ _ alN)) (And.intro (@e9 E _ _ _ alN) (o8 C:eo E 62=some (.agg [.bool false,.aH,.bool false,.aH,.bool false,.aH,.bool false,.aH,.bool false,.aH,.bool false,.aH]))) (And.intro (@BC E _ _ _ _ ahM) (@Ca E _ _ _ _ ahM))) (dJ (dM C rfl:E.pairs 5 11=[]) (And.intro (@axw E C) (@iQ E _ _ _ _ _ ahb)) (And.intro (@jY E _ _ _ _ _ ahb) (dM C rfl:E.pairs 1 4=[])) (And.intro (@gb E _ alO) (@jl E _ _ _ alO))) (dJ (dM C rfl:E.pairs 1 10=[]) (And.intro (@e9 E _ _ _ pI3) (o8 C:eo E 3=some (.int .i64 0))) (And.intro (dM C rfl:E.pairs 10 21=[(0,19),(3,19),(4,19),(5,19),(7,19),(8,19),(9,19),(12,19),(13,19),(14,19),(16,19),(17,19),(18,19)]) (dM C rfl:E.pairs 15 22=[(3,18),(7,18),(8,18),(12,18),(16,18),(17,18),(3,19),(7,19),(8,19),(12,19),(16,19),(17,19),(18,19)])) (And.intro (dM C rfl:E.pairs 16 7=[]) (dM C rfl:E.pairs 17 15=[]))))) (dJ (dJ (dJ (@iQ E _ _ _ _ _ Le) (And.intro (@jY E _ _ _ _ _ Le) (@rK E _ _ _ _ _ Le)) (@iN E _ _ Zt) (And.intro (@jl E _ _ _ Zt) (@e9 E _ _ _ Zt))) (dJ (dM C rfl:E.pairs 4 17=[]) (And.intro (dM C rfl:E.pairs 6 18=[]) (@iQ E _ _ _ _ _ Rk)) (And.intro (@rK E _ _ _ _ _ Rk) (@iN E _ _ ag3)) (And.intro (@e9 E _ _ _ ag3) (dM C rfl:E.pairs 3 22=[]))) (dJ (dM C rfl:E.pairs 5 16=[]) (And.intro (dM C rfl:E.pairs 6 24=[]) (dM C rfl:E.pairs 10 20=[])) (And.intro (dM C rfl:E.pairs 5 18=[]) (dM C rfl:E.pairs 11 18=[])) (And.intro (dM C rfl:E.pairs 16 13=[]) (dM C rfl:E.pairs 17 18=[]))) (dJ (dM C rfl:E.pairs 22 13=[]) (And.intro (dM C rfl:E.pairs 23 18=[]) (dM C rfl:E.pairs 1 16=[])) (And.intro (dM C rfl:E.pairs 3 17=[]) (dM C rfl:E.pairs 8 16=[])) (And.intro (dM C rfl:E.pairs 5 17=[]) (dM C rfl:E.pairs 10 16=[])))) (dJ (dJ (dM C rfl:E.pairs 13 16=[]) (And.intro (dM C rfl:E.pairs 15 17=[]) (dM C rfl:E.pairs 18 16=[])) (dM C rfl:E.pairs 21 16=[]) (And.intro (@gb E _ ag6) (@e9 E _ _ _ ag6))) (dJ (dM C rfl:E.pairs 2 10=[]) (And.intro (dM C rfl:E.pairs 3 10=[]) (dM C rfl:E.pairs 1 11=[])) (And.intro (o8 C:eo E 369=some (.int .u64 0)) (dM C rfl:E.pairs 17 17=[])) (And.intro (@jY E _ _ _ _ _ Rj) (o8 C:eo E 254=some (.agg [.int .i64 0,.int .i64 0,.int .i64 0,.int .u64 0,.aH])))) (dJ (@aod E C) (And.intro (@fm E _ _ _ _ _ acG) (dM C rfl:E.pairs 20 12=[(3,7),(4,7),(2,8),(3,8),(4,8)])) (And.intro (@fm E _ _ _ _ _ WG) (@wE E _ _ _ _ _ WG)) (And.intro (dM C rfl:E.pairs 9 12=[(0,10),(1,10),(2,10),(3,10),(4,10),(5,10),(6,10),(7,10),(8,10),(9,10)]) (@iQ E _ _ _ _ _ Ld))) (dJ (@jY E _ _ _ _ _ Ld) (And.intro (@gb E _ ag0) (@e9 E _ _ _ ag0)) (And.intro (o8 C:eo E 137=some (.aH)) (@jl E _ _ _ ag2)) (And.intro (@e9 E _ _ _ ag2) (o8 C:eo E 208=some (.agg [.bool false,.aH,.bool false,.aH,.bool false,.aH,.bool false,.aH,.bool false,.aH,.bool false,.aH,.bool false,.aH,.bool false,.aH,.aH]))))) (dJ (dJ (@fm E _ _ _ _ _ acF) (And.intro (@gb E _ ag4) (@e9 E _ _ _ ag4)) (o8 C:eo E 260=some (.gd)) (And.intro (@iN E _ _ ag5) (@e9 E _ _ _ ag5))) (dJ (o8 C:eo E 264=some (.agg [.int .i64 0,.int .i64 0])) (And.intro (@aoe E C) (@BC E _ _ _ _ anV)) (And.intro (@aof E C) (@fm E _ _ _ _ _ acK)) (And.intro (dM C rfl:E.pairs 12 7=[]) (dM C rfl:E.pairs 4 8=[]))) (dJ (@iN E _ _ alL) (And.intro (@jl E _ _ _ alL) (@e9 E _ _ _ alL)) (And.intro (o8 C:eo E 43=some (.agg [.str [],.str [],.str []])) (@BC E _ _ _ _ anX)) (And.intro (@Ca E _ _ _ _ anX) (dM C rfl:E.pairs 7 15=[(0,10),(1,10),(2,10),(3,10),(4,10),(5,10),(0,11),(1,11),(2,11),(3,11),(4,11),(5,11),(10,11)]))) (dJ (dM C rfl:E.pairs 8 5=[]) (And.intro (dM C rfl:E.pairs 10 9=[(0,6),(1,6),(2,6)]) (dM C rfl:E.pairs 16 5=[])) (And.intro (dM C rfl:E.pairs 18 9=[(0,6),(1,6),(2,6)]) (@iN E _ _ alP)) (And.intro (@jl E _ _ _ alP) (@gb E _ agY)))) (dJ (dJ (@e9 E _ _ _ agY) (And.intro (@iQ E _ _ _ _ _ AZ) (@jY E _ _ _ _ _ AZ)) (And.intro (@rK E _ _ _ _ _ AZ) (@gb E _ agZ)) (And.intro (@e9 E _ _ _ agZ) (@e9 E _ _ _ Zq))) (dJ (o8 C:eo E 139=some (.agg [.aH,.aH,.aH])) (And.intro (@aoa E C) (@fm E _ _ _ _ _ acB)) (And.intro (@fm E _ _ _ _ _ acA) (@fm E _ _ _ _ _ acz)) (And.intro (@aoc E C) (dM C rfl:E.pairs 8 8=[(1,4)]))) (dJ (dM C rfl:E.pairs 15 24=[(1,20)]) (And.intro (dM C rfl:E.pairs 10 4=[(1,2)]) (dM C rfl:E.pairs 5 8=[(1,4)])) (And.intro (o8 C:eo E 266=some (.agg [.int .i64 0,.int .i64 0,.int .i64 0,.int .i64 0])) (dM C rfl:E.pairs 5 20=[(1,17),(3,17),(5,17),(7,17),(9,17),(11,17),(12,17),(13,17)])) (And.intro (@e9 E _ _ _ pI4) (o8 C:eo E 4=some (.bool false)))) (dJ (@fm E _ _ _ _ _ acE) (And.intro (@aog E C) (@Ca E _ _ _ _ anW)) (And.intro (@gb E _ alJ) (@jl E _ _ _ alJ)) (And.intro (@iQ E _ _ _ _ _ Lf) (@jY E _ _ _ _ _ Lf))))) (dJ (dJ (dJ (@rK E _ _ _ _ _ Lf) (And.intro (@fm E _ _ _ _ _ WC) (@wE E _ _ _ _ _ WC)) (@fm E _ _ _ _ _ WD) (And.intro (@wE E _ _ _ _ _ WD) (@e9 E _ _ _ alP))) (dJ (o8 C:eo E 76=some (.agg [.aH])) (And.intro (@iN E _ _ aAZ) (@axr E C)) (And.intro (@Ca E _ _ _ _ axi) (@fm E _ _ _ _ _ WE)) (And.intro (@wE E _ _ _ _ _ WE) (@fm E _ _ _ _ _ ajA))) (dJ (@gb E _ aAW) (And.intro (@fm E _ _ _ _ _ ajy) (@e9 E _ _ _ alK)) (And.intro (o8 C:eo E 30=some (.agg [.str [],.int .i64 0,.aH])) (@axq E C)) (And.intro (@fm E _ _ _ _ _ WB) (@wE E _ _ _ _ _ WB))) (dJ (@gb E _ aAX) (And.intro (@fm E _ _ _ _ _ ajz) (@fm E _ _ _ _ _ WH)) (And.intro (@wE E _ _ _ _ _ WH) (@iN E _ _ au3)) (And.intro (@e9 E _ _ _ au6) (o8 C:eo E 78=some (.agg [.str [],.str [],.int .i64 0,.int .i64 0,.int .i64 0,.int .i64 0,.str [],.str [],.str []]))))) (dJ (dJ (@fm E _ _ _ _ _ WI) (And.intro (@wE E _ _ _ _ _ WI) (@fm E _ _ _ _ _ ajF)) (@iN E _ _ au1) (And.intro (@axp E C) (dM C rfl:E.pairs 7 14=[(1,11),(6,11),(7,11)]))) (dJ (dM C rfl:E.pairs 21 13=[]) (And.intro (@gb E _ aA0) (@alj E C)) (And.intro (dM C rfl:E.pairs 6 39=[]) (dM C rfl:E.pairs 11 20=[])) (And.intro (dM C rfl:E.pairs 17 9=[]) (@e9 E _ _ _ alJ))) (dJ (@e9 E _ _ _ alO) (And.intro (dM C rfl:E.pairs 7 28=[(12,13),(11,14),(12,14)]) (dM C rfl:E.pairs 6 9=[])) (And.intro (dM C rfl:E.pairs 6 11=[]) (@e9 E _ _ _ au1)) (And.intro (o8 C:eo E 25=some (.agg [.aH,.aH])) (@e9 E _ _ _ au3))) (dJ (o8 C:eo E 45=some (.agg [.int .i64 0,.int .i64 0,.int .i64 0,.int .i64 0,.str [],.str [],.str []])) (And.intro (@iQ E _ _ _ _ _ aBe) (@axs E C)) (And.intro (@jl E _ _ _ aA1) (@gb E _ aA2)) (And.intro (@iQ E _ _ _ _ _ aBf) (@gb E _ au2)))) (dJ (dJ (@e9 E _ _ _ au2) (And.intro (o8 C:eo E 35=some (.int .i64 0)) (dM C rfl:E.pairs 6 4=[(0,1),(0,2),(1,2)])) (@axt E C) (And.intro (bM C:bF E 5=false) (bM C:bF E 6=false))) (dJ (bM C:bF E 7=false) (And.intro (bM C:bF E 8=false) (bM C:bF E 9=false)) (And.intro (bM C:bF E 10=false) (bM C:bF E 11=false)) (And.intro (bM C:bF E 12=false) (bM C:bF E 13=false))) (dJ (bM C:bF E 14=false) (And.intro (bM C:bF E 15=false) (bM C:bF E 16=false)) (And.intro (bM C:bF E 17=false) (bM C:bF E 18=false)) (And.intro (bM C:bF E 19=false) (bM C:bF E 20=false))) (dJ (bM C:bF E 21=false) (And.intro (bM C:bF E 22=false) (bM C:bF E 23=false)) (And.intro (bM C:bF E 24=false) (bM C:bF E 26=false)) (And.intro (bM C:bF E 27=false) (bM C:bF E 29=false)))) (dJ (dJ (bM C:bF E 30=false) (And.intro (bM C:bF E 33=false) (bM C:bF E 34=false)) (bM C:bF E 35=false) (And.intro (bM C:bF E 36=false) (bM C:bF E 37=false))) (dJ (bM C:bF E 39=false) (And.intro (bM C:bF E 41=false) (bM C:bF E 43=false)) (And.intro (bM C:bF E 44=false) (bM C:bF E 45=false)) (And.intro (bM C:bF E 47=false) (bM C:bF E 49=false))) (dJ (bM C:bF E 52=false) (And.intro (bM C:bF E 63=false) (bM C:bF E 64=false)) (And.intro (bM C:bF E 69=false) (bM C:bF E 71=false)) (And.intro (bM C:bF E 72=false) (bM C:bF E 73=false))) (dJ (bM C:bF E 74=false) (And.intro (bM C:bF E 75=false) (bM C:bF E 76=false)) (And.intro (bM C:bF E 81=false) (bM C:bF E 84=false)) (And.intro (bM C:bF E 85=false) (bM C:bF E 91=false))))) (dJ (dJ (dJ (bM C:bF E 92=false) (And.intro (bM C:bF E 94=false) (bM C:bF E 95=false)) (bM C:bF E 99=false) (And.intro (bM C:bF E 101=false) (bM C:bF E 102=false))) (dJ (bM C:bF E 103=false) (And.intro (bM C:bF E 104=false) (bM C:bF E 106=false)) (And.intro (bM C:bF E 108=false) (bM C:bF E 109=false)) (And.intro (bM C:bF E 110=false) (bM C:bF E 112=false))) (dJ (bM C:bF E 117=false) (And.intro (bM C:bF E 123=false) (bM C:bF E 124=false)) (And.intro (bM C:bF E 125=false) (bM C:bF E 126=false)) (And.intro (bM C:bF E 127=false) (bM C:bF E 128=false))) (dJ (bM C:bF E 129=false) (And.intro (bM C:bF E 130=false) (bM C:bF E 136=false)) (And.intro (bM C:bF E 137=false) (bM C:bF E 141=false)) (And.intro (bM C:bF E 152=false) (bM C:bF E 155=false)))) (dJ (dJ (bM C:bF E 156=false) (And.intro (bM C:bF E 157=false) (bM C:bF E 158=false)) (bM C:bF E 159=false) (And.intro (bM C:bF E 160=false) (bM C:bF E 163=false))) (dJ (bM C:bF E 164=false) (And.intro (bM C:bF E 165=false) (bM C:bF E 166=false)) (And.intro (bM C:bF E 167=false) (bM C:bF E 170=false)) (And.intro (bM C:bF E 171=false) (bM C:bF E 173=false))) (dJ (bM C:bF E 174=false) (And.intro (bM C:bF E 175=false) (bM C:bF E 176=false)) (And.intro (bM C:bF E 177=false) (bM C:bF E 178=false)) (And.intro (bM C:bF E 179=false) (bM C:bF E 183=false))) (dJ (bM C:bF E 187=false) (And.intro (bM C:bF E 188=false) (bM C:bF E 191=false)) (And.intro (bM C:bF E 199=false) (bM C:bF E 200=false)) (And.intro (bM C:bF E 202=false) (bM C:bF E 203=false)))) (dJ (dJ (bM C:bF E 204=false) (And.intro (bM C:bF E 206=false) (bM C:bF E 207=false)) (bM C:bF E 208=false) (And.intro (bM C:bF E 210=false) (bM C:bF E 213=false))) (dJ (bM C:bF E 214=false) (And.intro (bM C:bF E 216=false) (bM C:bF E 225=false)) (And.intro (bM C:bF E 226=false) (bM C:bF E 228=false)) (And.intro (bM C:bF E 229=false) (bM C:bF E 240=false))) (dJ (bM C:bF E 241=false) (And.intro (bM C:bF E 261=false) (bM C:bF E 283=false)) (And.intro (bM C:bF E 291=false) (bM C:bF E 312=false)) (And.intro (bM C:bF E 32=true) (bM C:bF E 61=true))) (dJ (bM C:bF E 62=true) (And.intro (bM C:bF E 66=true) (bM C:bF E 161=true)) (And.intro (bM C:bF E 168=true) (bM C:bF E 189=true)) (And.intro (bM C:bF E 190=true) (bM C:bF E 209=true)))) (dJ (dJ (bM C:bF E 212=true) (And.intro (bM C:bF E 215=true) (bM C:bF E 233=true)) (And.intro (bM C:bF E 242=true) (bM C:bF E 243=true)) (And.intro (bM C:bF E 244=true) (bM C:bF E 245=true))) (dJ (bM C:bF E 246=true) (And.intro (bM C:bF E 247=true) (bM C:bF E 248=true)) (And.intro (bM C:bF E 249=true) (bM C:bF E 251=true)) (And.intro (bM C:bF E 252=true) (bM C:bF E 253=true))) (dJ (bM C:bF E 254=true) (And.intro (bM C:bF E 255=true) (bM C:bF E 256=true)) (And.intro (bM C:bF E 257=true) (bM C:bF E 258=true)) (And.intro (bM C:bF E 282=true) (bM C:bF E 284=true))) (dJ (bM C:bF E 285=true) (And.intro (bM C:bF E 286=true) (bM C:bF E 287=true)) (And.intro (bM C:bF E 288=true) (bM C:bF E 289=true)) (And.intro (bM C:bF E 309=true) (bM C:bF E 310=true)))))
section
variable{E:Env} [C:Ctx E]{f nt:Nat}{code:Code}{results:List ResultVar}{a b c e:AV}{G:AV->Prop}
def gw0(fB:E0.fn f=some {code:=code,ntmps:=nt,results:=results,pure:=true,eE:=false})(h:∀ts:List AV,ts.length=nt->V E code (S ts []) [] (lU E results G))(he:f∉MB:=by decide):∃r,aR E f []=some r/\G r:=gv0 (C.ov _ _ he) (by rw[C.fn];exact fB) rfl h
def qj(fB:E0.fn f=some {code:=code,ntmps:=nt,results:=results,pure:=true,eE:=false})(h:∀ts:List AV,ts.length=nt->gt ts 0=a->V E code (S ts []) [] (lU E results G))(he:f∉MB:=by decide)(hn:1<=nt:=by decide):∃r,aR E f [a]=some r/\G r:=gv1 (C.ov _ _ he) (by rw[C.fn];exact fB) rfl hn h
def pX(fB:E0.fn f=some {code:=code,ntmps:=nt,results:=results,pure:=true,eE:=false})(h:∀ts:List AV,ts.length=nt->gt ts 0=a->gt ts 1=b->V E code (S ts []) [] (lU E results G))(he:f∉MB:=by decide)(hn:2<=nt:=by decide):∃r,aR E f [a,b]=some r/\G r:=gv2 (C.ov _ _ he) (by rw[C.fn];exact fB) rfl hn h
def gw3(fB:E0.fn f=some {code:=code,ntmps:=nt,results:=results,pure:=true,eE:=false})(h:∀ts:List AV,ts.length=nt->gt ts 0=a->gt ts 1=b->gt ts 2=c->V E code (S ts []) [] (lU E results G))(he:f∉MB:=by decide)(hn:3<=nt:=by decide):∃r,aR E f [a,b,c]=some r/\G r:=gv3 (C.ov _ _ he) (by rw[C.fn];exact fB) rfl hn h
def gw4(fB:E0.fn f=some {code:=code,ntmps:=nt,results:=results,pure:=true,eE:=false})(h:∀ts:List AV,ts.length=nt->gt ts 0=a->gt ts 1=b->gt ts 2=c->gt ts 3=e->V E code (S ts []) [] (lU E results G))(he:f∉MB:=by decide)(hn:4<=nt:=by decide):∃r,aR E f [a,b,c,e]=some r/\G r:=gv4 (C.ov _ _ he) (by rw[C.fn];exact fB) rfl hn h
end
end Go.Proofs.YtmkjgfnicfpjpaaGreatDoor
