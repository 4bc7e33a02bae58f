/- Lemmas for AssemblyRefuses; no condition. -/
import Derived.Test.YtmkjgfnicfpjpaaGreatDoorRas
set_option linter.all false
set_option maxHeartbeats 100000000
set_option maxRecDepth 100000
noncomputable section
open List renaming range->aOR,getElem?_append_left->aOr,take_length->aPo,getElem?_eq_some_iff->aLq,getElem?_set_self->aOl,getElem?_set_ne->aOj,length_append->aL9,getElem?_append_right->aT6,length_set->aQx
open Nat renaming le_refl->aLt,one_mul->aTj,reduceLT->aa,reduceEqDiff->ae,reduceAdd->ah
open Int renaming reduceLE->an,reduceLT->aq,reduceSub->az,reduceAdd->aA,reduceBEq->aD
namespace Go.Proofs.YtmkjgfnicfpjpaaGreatDoor
open Go Dv
variable{E:Env}[C:Ctx E]
def SM{K u0 u1 u2 u3 u4 u5 u6 u7 u8 u9 vC sN sG sH:Nat}(I:lf K u0 u1 u2 u3 u4 u5 u6 u7 u8 u9 vC sN sG sH){b n kc g:Nat}{row:Nat->List AV}{mT:List Nat}{H0:Hp}{cz:Nat->Nat->Int}(R:qX K row)(hg:bF E g=false)(hc:∀p q,p<n->q<n->aP E g [.agg (row p),.agg (row q)]=some (.int .i64 (cz p q)))(wM:SR H0 b row mT)(sC:mT.Perm (aOR n))(hn:n<=1000000){a c pv:Nat}(CV:a<c)(nh:c<=n)(EF:pv<n):
  ∃r H',cV E u5 [.aI b 0 n K kc,.int .i64 (a:Int),.int .i64 (c:Int),.int .i64 (pv:Int),.func g [] []] H0=some (r,H')/\∃m:Nat,a<m/\m<=c/\r=.int .i64 (m:Int)/\pY b n row H0 (.tuple []) H':=by
 obtain⟨D,hD⟩:∃D,D=AV.aI b 0 n K kc:=⟨_,rfl⟩;have I0:=I;cases I
 all_goals
  have kg:=fun{dr st:Bool} {bl:List AV} {H:Hp} {k:AV->cF->Prop}=>jy (E:=E) (dr:=dr) (st:=st) (f:=g) (bl:=bl) (H:=H) (k:=k) hg
  have pr:=R.pure;obtain⟨F1,F2,H3,qf,tL,vQ,l1,l2,s1,s2,e3,o7,nS,mR⟩:=kZ R wM sC (i:=a) (j:=pv) (by omega) (by omega);have c1:=eP (i:=a) (n:=n);have c2:=eP (i:=pv) (n:=n);have w0:=wz (z:=(a:Int)+1) (m:=a+1);have w1:=wz (z:=(c:Int)-1) (m:=c-1);refine gi5 (gd C) (by rw[C.fn];first|with_reducible exact ar0|with_reducible exact arT) (by decide) ?_;intro ts hl g0 g1 g2 g3 g4;rw[<-hD]at g0
  first|unfold apB|unfold apu
  simp only[↓aL,aM,aJ,↓reduceIte,aa,ah,ae,Tryz.f257,Tryz.f248,hl,g0,hD,g1,g2,g3,w0,w1,c1,c2,l1,l2,s1,s2,e3];refine cC (fun k_ ts H=>∃i:Nat,∃j:Nat,∃js,∃H1,k_=(j+2-i:Nat)/\ts.length=90/\gt ts 0=D/\gt ts 1=.int .i64 (a:Int)/\gt ts 4=.func g [] []/\gt ts 11=.int .i64 (i:Int)/\gt ts 12=.int .i64 (j:Int)/\H=H1/\(a+1<=i)/\(i<=c)/\(a<=j)/\(j<c)/\(i<=j+2)/\(SR H1 b row js)/\(js.Perm (aOR n))/\(HW b H0 H1)) (c-1+2-(a+1)) ?_ ?_
  rotate_left
  ·refine⟨a+1,c-1,qf,H3,(by first|omega|rfl|simp),(by simp[bc,hl]),?_⟩;simp only[aY,hl,aa,ae,g0,g1,g4]
   iterate 6 refine cI ?_
   refine⟨?_,?_,?_,?_,?_,?_,?_,?_⟩
   ·first|omega|trivial
   ·first|omega|trivial
   ·first|omega|trivial
   ·first|omega|trivial
   ·first|omega|trivial
   ·first|exact o7|trivial
   ·first|exact mR|trivial
   ·first|exact nS|trivial
  clear hl g0 g1 g2 g3 g4 ts;rintro k_ ts H ⟨i,j,js,H1,rfl,hl,g0,g1,g4,g11,g12,rfl,hi,FD,hj,MX,tJ,hS,hp,hW⟩;refine VS ?_;simp only[↓aL];obtain⟨M,hM⟩:∃M:Nat,M=j+2-i:=⟨_,rfl⟩;refine AI (id:=2) (fun k_ ts H=>∃i:Nat,∃j:Nat,∃js,∃H1,k_=(j+2-i:Nat)/\ts.length=90/\gt ts 0=D/\gt ts 1=.int .i64 (a:Int)/\gt ts 4=.func g [] []/\gt ts 11=.int .i64 (i:Int)/\gt ts 12=.int .i64 (j:Int)/\H=H1/\(a+1<=i)/\(i<=c)/\(a<=j)/\(j<c)/\(i<=j+2)/\(j+2-i<=M)/\(SR H1 b row js)/\(js.Perm (aOR n))/\(HW b H0 H1)) (fun ts H=>∃i:Nat,∃j:Nat,∃js,∃H1,ts.length=90/\gt ts 0=D/\gt ts 1=.int .i64 (a:Int)/\gt ts 4=.func g [] []/\gt ts 11=.int .i64 (i:Int)/\gt ts 12=.int .i64 (j:Int)/\H=H1/\(a+1<=i)/\(i<=c)/\(a<=j)/\(j<c)/\(i<=j+2)/\(j+2-i<=M)/\(SR H1 b row js)/\(js.Perm (aOR n))/\(HW b H0 H1)) (j+2-i) ?_ ?_ ?_
  rotate_left 2
  ·refine⟨i,j,js,H,(by first|omega|rfl|simp),(by simp[bc,hl]),?_⟩;simp only[aY,g0,g1,g4,g11,g12]
   iterate 6 refine cI ?_
   refine⟨?_,?_,?_,?_,?_,?_,?_,?_,?_⟩
   ·first|omega|trivial
   ·first|omega|trivial
   ·first|omega|trivial
   ·first|omega|trivial
   ·first|omega|trivial
   ·first|omega|trivial
   ·first|exact hS|trivial
   ·first|exact hp|trivial
   ·first|exact hW|trivial
  ·clear hl g0 g1 g4 g11 g12 ts;rintro k_ ts H ⟨i,j,js,H1,rfl,hl,g0,g1,g4,g11,g12,rfl,hi,FD,hj,MX,tJ,hm,hS,hp,hW⟩;refine VS ?_;by_cases hd:i<=j
   rotate_left
   ·have d1:decide ((i:Int)<=(j:Int))=false:=bh (by omega);simp only[↓aL,aM,aJ,aa,ah,ae,hl,g11,g12,d1];refine iW ?_;refine⟨i,j,js,H,(by simp[bc,hl]),?_⟩;simp only[aY,ae,g0,g1,g4,g11,g12]
    iterate 6 refine cI ?_
    refine⟨?_,?_,?_,?_,?_,?_,?_,?_,?_⟩
    ·omega
    ·omega
    ·omega
    ·omega
    ·omega
    ·omega
    ·exact hS
    ·exact hp
    ·exact hW
   have d1:decide ((i:Int)<=(j:Int))=true:=bj;obtain⟨hx,lx⟩:=FX R hS hp (i:=a) (by omega);obtain⟨hy,ly⟩:=FX R hS hp (i:=i) (by omega);have c1:=eP (i:=a) (n:=n);have c2:=eP (i:=i) (n:=n);have w1:=wz (z:=(i:Int)+1) (m:=i+1);have w2:=wz (z:=(j:Int)-1) (m:=j-1);have iU:=hc _ _ hx hy;generalize G6:cz (js.getD a 0) (js.getD i 0)=zz at iU;by_cases hz:zz<0
   ·have dz:decide (zz<0)=true:=bj hz;simp only[↓aL,aM,aJ,↓reduceIte,aa,ah,ae,hl,g0,hD,g1,g4,g11,g12,d1,c1,c2,lx,ly,kg,iU,pr,dz];refine iW ?_;refine⟨i,j,js,H,(by simp[bc,hl]),?_⟩;simp only[aY,ae,g0,g1,g4,g11,g12]
    iterate 6 refine cI ?_
    refine⟨?_,?_,?_,?_,?_,?_,?_,?_,?_⟩
    ·omega
    ·omega
    ·omega
    ·omega
    ·omega
    ·omega
    ·exact hS
    ·exact hp
    ·exact hW
   ·have dz:decide (zz<0)=false:=bh hz;simp only[↓aL,aM,aJ,↓reduceIte,aa,ah,ae,hl,g0,hD,g1,g4,g11,g12,d1,c1,c2,w1,lx,ly,kg,iU,pr,dz];refine bI ?_;refine⟨_,?_,i+1,j,js,H,rfl,(by simp[bc,hl]),?_⟩
    ·first|omega|(simp;omega)
    simp only[aY,hl,aa,ae,g0,g1,g4,g12]
    iterate 6 refine cI ?_
    refine⟨?_,?_,?_,?_,?_,?_,?_,?_,?_⟩
    ·omega
    ·omega
    ·omega
    ·omega
    ·omega
    ·omega
    ·exact hS
    ·exact hp
    ·exact hW
  clear hl g0 g1 g4 g11 g12 ts;rintro ts H ⟨i,j,js,H1,hl,g0,g1,g4,g11,g12,rfl,hi,FD,hj,MX,tJ,hm,hS,hp,hW⟩;simp only[↓aL,↓reduceIte];refine AI (id:=4) (fun k_ ts H=>∃i:Nat,∃j:Nat,∃js,∃H1,k_=(j+2-i:Nat)/\ts.length=90/\gt ts 0=D/\gt ts 1=.int .i64 (a:Int)/\gt ts 4=.func g [] []/\gt ts 11=.int .i64 (i:Int)/\gt ts 12=.int .i64 (j:Int)/\H=H1/\(a+1<=i)/\(i<=c)/\(a<=j)/\(j<c)/\(i<=j+2)/\(j+2-i<=M)/\(SR H1 b row js)/\(js.Perm (aOR n))/\(HW b H0 H1)) (fun ts H=>∃i:Nat,∃j:Nat,∃js,∃H1,ts.length=90/\gt ts 0=D/\gt ts 1=.int .i64 (a:Int)/\gt ts 4=.func g [] []/\gt ts 11=.int .i64 (i:Int)/\gt ts 12=.int .i64 (j:Int)/\H=H1/\(a+1<=i)/\(i<=c)/\(a<=j)/\(j<c)/\(i<=j+2)/\(j+2-i<=M)/\(SR H1 b row js)/\(js.Perm (aOR n))/\(HW b H0 H1)) (j+2-i) ?_ ?_ ?_
  rotate_left 2
  ·refine⟨i,j,js,H,(by first|omega|rfl|simp),(by simp[bc,hl]),?_⟩;simp only[aY,g0,g1,g4,g11,g12]
   iterate 6 refine cI ?_
   refine⟨?_,?_,?_,?_,?_,?_,?_,?_,?_⟩
   ·first|omega|trivial
   ·first|omega|trivial
   ·first|omega|trivial
   ·first|omega|trivial
   ·first|omega|trivial
   ·first|omega|trivial
   ·first|exact hS|trivial
   ·first|exact hp|trivial
   ·first|exact hW|trivial
  ·clear hl g0 g1 g4 g11 g12 ts;rintro k_ ts H ⟨i,j,js,H1,rfl,hl,g0,g1,g4,g11,g12,rfl,hi,FD,hj,MX,tJ,hm,hS,hp,hW⟩;refine VS ?_;by_cases hd:i<=j
   rotate_left
   ·have d1:decide ((i:Int)<=(j:Int))=false:=bh (by omega);simp only[↓aL,aM,aJ,aa,ah,ae,hl,g11,g12,d1];refine iW ?_;refine⟨i,j,js,H,(by simp[bc,hl]),?_⟩;simp only[aY,ae,g0,g1,g4,g11,g12]
    iterate 6 refine cI ?_
    refine⟨?_,?_,?_,?_,?_,?_,?_,?_,?_⟩
    ·omega
    ·omega
    ·omega
    ·omega
    ·omega
    ·omega
    ·exact hS
    ·exact hp
    ·exact hW
   have d1:decide ((i:Int)<=(j:Int))=true:=bj;obtain⟨hx,lx⟩:=FX R hS hp (i:=a) (by omega);obtain⟨hy,ly⟩:=FX R hS hp (i:=j) (by omega);have c1:=eP (i:=a) (n:=n);have c2:=eP (i:=j) (n:=n);have w1:=wz (z:=(i:Int)+1) (m:=i+1);have w2:=wz (z:=(j:Int)-1) (m:=j-1);have iU:=hc _ _ hx hy;generalize G6:cz (js.getD a 0) (js.getD j 0)=zz at iU;by_cases hz:zz<0
   ·have dz:decide (zz<0)=true:=bj hz;simp only[↓aL,aM,aJ,↓reduceIte,aa,ah,ae,hl,g0,hD,g1,g4,g11,g12,d1,c1,c2,w2,lx,ly,kg,iU,pr,dz];refine bI ?_;refine⟨_,?_,i,j-1,js,H,rfl,(by simp[bc,hl]),?_⟩
    ·first|omega|(simp;omega)
    simp only[aY,hl,aa,ae,g0,g1,g4,g11]
    iterate 6 refine cI ?_
    refine⟨?_,?_,?_,?_,?_,?_,?_,?_,?_⟩
    ·omega
    ·omega
    ·omega
    ·omega
    ·omega
    ·omega
    ·exact hS
    ·exact hp
    ·exact hW
   ·have dz:decide (zz<0)=false:=bh hz;simp only[↓aL,aM,aJ,↓reduceIte,aa,ah,ae,hl,g0,hD,g1,g4,g11,g12,d1,c1,c2,lx,ly,kg,iU,pr,dz];refine iW ?_;refine⟨i,j,js,H,(by simp[bc,hl]),?_⟩;simp only[aY,ae,g0,g1,g4,g11,g12]
    iterate 6 refine cI ?_
    refine⟨?_,?_,?_,?_,?_,?_,?_,?_,?_⟩
    ·omega
    ·omega
    ·omega
    ·omega
    ·omega
    ·omega
    ·exact hS
    ·exact hp
    ·exact hW
  clear hl g0 g1 g4 g11 g12 ts;rintro ts H ⟨i,j,js,H1,hl,g0,g1,g4,g11,g12,rfl,hi,FD,hj,MX,tJ,hm,hS,hp,hW⟩;by_cases hd:j<i
  ·have d1:decide ((i:Int)>(j:Int))=true:=bj;simp only[↓aL,aM,↓reduceIte,aa,ae,hl,g11,g12,d1];exact⟨i,by omega,by omega,rfl,rfl,hW,js,hS,hp⟩
  have d1:decide ((i:Int)>(j:Int))=false:=bh (by omega);obtain⟨F1,F2,H3,qf,tL,vQ,l1,l2,s1,s2,e3,o7,nS,mR⟩:=kZ R hS hp (i:=i) (j:=j) (by omega) (by omega);have c1:=eP (i:=i) (n:=n);have c2:=eP (i:=j) (n:=n);have w2:=wz (z:=(i:Int)+1) (m:=i+1);have w3:=wz (z:=(j:Int)-1) (m:=j-1);simp only[↓aL,aM,aJ,↓reduceIte,aa,ah,ae,hl,g0,hD,g11,g12,d1,c1,c2,w2,w3,l1,l2,s1,s2,e3];refine bI ?_;refine⟨_,?_,i+1,j-1,qf,H3,rfl,(by simp[bc,hl]),?_⟩
  ·first|omega|(simp;omega)
  simp only[aY,hl,aa,ae,g0,g1,g4]
  iterate 6 refine cI ?_
  refine⟨?_,?_,?_,?_,?_,?_,?_,?_⟩
  ·omega
  ·omega
  ·omega
  ·omega
  ·omega
  ·exact o7
  ·exact mR
  ·exact hW.trans nS
def C8{K u0 u1 u2 u3 u4 u5 u6 u7 u8 u9 vC sN sG sH:Nat}(I:lf K u0 u1 u2 u3 u4 u5 u6 u7 u8 u9 vC sN sG sH){b n kc g:Nat}{row:Nat->List AV}{mT:List Nat}{H0:Hp}{cz:Nat->Nat->Int}(R:qX K row)(hg:bF E g=false)(hc:∀p q,p<n->q<n->aP E g [.agg (row p),.agg (row q)]=some (.int .i64 (cz p q)))(wM:SR H0 b row mT)(sC:mT.Perm (aOR n))(hn:n<=1000000){a c pv:Nat}(CV:a<c)(nh:c<=n)(EF:pv<n:=by omega):
  ∃r H',cV E u6 [.aI b 0 n K kc,.int .i64 (a:Int),.int .i64 (c:Int),.int .i64 (pv:Int),.func g [] []] H0=some (r,H')/\∃(m:Nat) (bb:Bool),a<=m/\m<c/\r=.tuple [.int .i64 (m:Int),.bool bb]/\pY b n row H0 (.tuple []) H':=by
 obtain⟨D,hD⟩:∃D,D=AV.aI b 0 n K kc:=⟨_,rfl⟩;have I0:=I;cases I
 all_goals
  have kg:=fun{dr st:Bool} {bl:List AV} {H:Hp} {k:AV->cF->Prop}=>jy (E:=E) (dr:=dr) (st:=st) (f:=g) (bl:=bl) (H:=H) (k:=k) hg
  have pr:=R.pure;obtain⟨F1,F2,H3,qf,tL,vQ,l1,l2,s1,s2,e3,o7,nS,mR⟩:=kZ R wM sC (i:=a) (j:=pv) (by omega) (by omega);have c1:=eP (i:=a) (n:=n);have c2:=eP (i:=pv) (n:=n);have w0:=wz (z:=(a:Int)+1) (m:=a+1);have w1:=wz (z:=(c:Int)-1) (m:=c-1);refine gi5 (gd C) (by rw[C.fn];first|with_reducible exact ar1|with_reducible exact arU) (by decide) ?_;intro ts hl g0 g1 g2 g3 g4;rw[<-hD]at g0
  first|unfold apC|unfold apv
  simp only[↓aL,aM,aJ,↓reduceIte,aa,ah,ae,Tryz.f258,Tryz.f249,hl,g0,hD,g1,g2,g3,w0,w1,c1,c2,l1,l2,s1,s2,e3];obtain⟨M,hM⟩:∃M:Nat,M=c+5:=⟨_,rfl⟩;refine AI (id:=0) (fun k_ ts H=>∃i:Nat,∃j:Nat,∃js,∃H1,k_=(j+2-i:Nat)/\ts.length=178/\gt ts 0=D/\gt ts 1=.int .i64 (a:Int)/\gt ts 4=.func g [] []/\gt ts 12=.int .i64 (i:Int)/\gt ts 13=.int .i64 (j:Int)/\H=H1/\(a+1<=i)/\(i<=c)/\(a<=j)/\(j<c)/\(i<=j+2)/\(j+2-i<=M)/\(SR H1 b row js)/\(js.Perm (aOR n))/\(HW b H0 H1)) (fun ts H=>∃i:Nat,∃j:Nat,∃js,∃H1,ts.length=178/\gt ts 0=D/\gt ts 1=.int .i64 (a:Int)/\gt ts 4=.func g [] []/\gt ts 12=.int .i64 (i:Int)/\gt ts 13=.int .i64 (j:Int)/\H=H1/\(a+1<=i)/\(i<=c)/\(a<=j)/\(j<c)/\(i<=j+2)/\(j+2-i<=M)/\(SR H1 b row js)/\(js.Perm (aOR n))/\(HW b H0 H1)) (c-1+2-(a+1)) ?_ ?_ ?_
  rotate_left 2
  ·refine⟨a+1,c-1,qf,H3,(by first|omega|rfl|simp),(by simp[bc,hl]),?_⟩;simp only[aY,hl,aa,ae,g0,g1,g4]
   iterate 6 refine cI ?_
   refine⟨?_,?_,?_,?_,?_,?_,?_,?_,?_⟩
   ·first|omega|trivial
   ·first|omega|trivial
   ·first|omega|trivial
   ·first|omega|trivial
   ·first|omega|trivial
   ·first|omega|trivial
   ·first|exact o7|trivial
   ·first|exact mR|trivial
   ·first|exact nS|trivial
  ·clear hl g0 g1 g2 g3 g4 ts;rintro k_ ts H ⟨i,j,js,H1,rfl,hl,g0,g1,g4,g12,g13,rfl,hi,FD,hj,MX,tJ,hm,hS,hp,hW⟩;refine VS ?_;by_cases hd:i<=j
   rotate_left
   ·have d1:decide ((i:Int)<=(j:Int))=false:=bh (by omega);simp only[↓aL,aM,aJ,aa,ah,ae,hl,g12,g13,d1];refine iW ?_;refine⟨i,j,js,H,(by simp[bc,hl]),?_⟩;simp only[aY,ae,g0,g1,g4,g12,g13]
    iterate 6 refine cI ?_
    refine⟨?_,?_,?_,?_,?_,?_,?_,?_,?_⟩
    ·omega
    ·omega
    ·omega
    ·omega
    ·omega
    ·omega
    ·exact hS
    ·exact hp
    ·exact hW
   have d1:decide ((i:Int)<=(j:Int))=true:=bj;obtain⟨hx,lx⟩:=FX R hS hp (i:=i) (by omega);obtain⟨hy,ly⟩:=FX R hS hp (i:=a) (by omega);have c1:=eP (i:=i) (n:=n);have c2:=eP (i:=a) (n:=n);have w1:=wz (z:=(i:Int)+1) (m:=i+1);have w2:=wz (z:=(j:Int)-1) (m:=j-1);have iU:=hc _ _ hx hy;generalize G6:cz (js.getD i 0) (js.getD a 0)=zz at iU;by_cases hz:zz<0
   ·have dz:decide (zz<0)=true:=bj hz;simp only[↓aL,aM,aJ,↓reduceIte,aa,ah,ae,hl,g0,hD,g1,g4,g12,g13,d1,c1,c2,w1,lx,ly,kg,iU,pr,dz];refine bI ?_;refine⟨_,?_,i+1,j,js,H,rfl,(by simp[bc,hl]),?_⟩
    ·first|omega|(simp;omega)
    simp only[aY,hl,aa,ae,g0,g1,g4,g13]
    iterate 6 refine cI ?_
    refine⟨?_,?_,?_,?_,?_,?_,?_,?_,?_⟩
    ·omega
    ·omega
    ·omega
    ·omega
    ·omega
    ·omega
    ·exact hS
    ·exact hp
    ·exact hW
   ·have dz:decide (zz<0)=false:=bh hz;simp only[↓aL,aM,aJ,↓reduceIte,aa,ah,ae,hl,g0,hD,g1,g4,g12,g13,d1,c1,c2,lx,ly,kg,iU,pr,dz];refine iW ?_;refine⟨i,j,js,H,(by simp[bc,hl]),?_⟩;simp only[aY,ae,g0,g1,g4,g12,g13]
    iterate 6 refine cI ?_
    refine⟨?_,?_,?_,?_,?_,?_,?_,?_,?_⟩
    ·omega
    ·omega
    ·omega
    ·omega
    ·omega
    ·omega
    ·exact hS
    ·exact hp
    ·exact hW
  clear hl g0 g1 g2 g3 g4 ts;rintro ts H ⟨i,j,js,H1,hl,g0,g1,g4,g12,g13,rfl,hi,FD,hj,MX,tJ,hm,hS,hp,hW⟩;simp only[↓aL,↓reduceIte];refine AI (id:=2) (fun k_ ts H=>∃i:Nat,∃j:Nat,∃js,∃H1,k_=(j+2-i:Nat)/\ts.length=178/\gt ts 0=D/\gt ts 1=.int .i64 (a:Int)/\gt ts 4=.func g [] []/\gt ts 12=.int .i64 (i:Int)/\gt ts 13=.int .i64 (j:Int)/\H=H1/\(a+1<=i)/\(i<=c)/\(a<=j)/\(j<c)/\(i<=j+2)/\(j+2-i<=M)/\(SR H1 b row js)/\(js.Perm (aOR n))/\(HW b H0 H1)) (fun ts H=>∃i:Nat,∃j:Nat,∃js,∃H1,ts.length=178/\gt ts 0=D/\gt ts 1=.int .i64 (a:Int)/\gt ts 4=.func g [] []/\gt ts 12=.int .i64 (i:Int)/\gt ts 13=.int .i64 (j:Int)/\H=H1/\(a+1<=i)/\(i<=c)/\(a<=j)/\(j<c)/\(i<=j+2)/\(j+2-i<=M)/\(SR H1 b row js)/\(js.Perm (aOR n))/\(HW b H0 H1)) (j+2-i) ?_ ?_ ?_
  rotate_left 2
  ·refine⟨i,j,js,H,(by first|omega|rfl|simp),(by simp[bc,hl]),?_⟩;simp only[aY,g0,g1,g4,g12,g13]
   iterate 6 refine cI ?_
   refine⟨?_,?_,?_,?_,?_,?_,?_,?_,?_⟩
   ·first|omega|trivial
   ·first|omega|trivial
   ·first|omega|trivial
   ·first|omega|trivial
   ·first|omega|trivial
   ·first|omega|trivial
   ·first|exact hS|trivial
   ·first|exact hp|trivial
   ·first|exact hW|trivial
  ·clear hl g0 g1 g4 g12 g13 ts;rintro k_ ts H ⟨i,j,js,H1,rfl,hl,g0,g1,g4,g12,g13,rfl,hi,FD,hj,MX,tJ,hm,hS,hp,hW⟩;refine VS ?_;by_cases hd:i<=j
   rotate_left
   ·have d1:decide ((i:Int)<=(j:Int))=false:=bh (by omega);simp only[↓aL,aM,aJ,aa,ah,ae,hl,g12,g13,d1];refine iW ?_;refine⟨i,j,js,H,(by simp[bc,hl]),?_⟩;simp only[aY,ae,g0,g1,g4,g12,g13]
    iterate 6 refine cI ?_
    refine⟨?_,?_,?_,?_,?_,?_,?_,?_,?_⟩
    ·omega
    ·omega
    ·omega
    ·omega
    ·omega
    ·omega
    ·exact hS
    ·exact hp
    ·exact hW
   have d1:decide ((i:Int)<=(j:Int))=true:=bj;obtain⟨hx,lx⟩:=FX R hS hp (i:=j) (by omega);obtain⟨hy,ly⟩:=FX R hS hp (i:=a) (by omega);have c1:=eP (i:=j) (n:=n);have c2:=eP (i:=a) (n:=n);have w1:=wz (z:=(i:Int)+1) (m:=i+1);have w2:=wz (z:=(j:Int)-1) (m:=j-1);have iU:=hc _ _ hx hy;generalize G6:cz (js.getD j 0) (js.getD a 0)=zz at iU;by_cases hz:zz<0
   ·have dz:decide (zz<0)=true:=bj hz;simp only[↓aL,aM,aJ,↓reduceIte,aa,ah,ae,hl,g0,hD,g1,g4,g12,g13,d1,c1,c2,lx,ly,kg,iU,pr,dz];refine iW ?_;refine⟨i,j,js,H,(by simp[bc,hl]),?_⟩;simp only[aY,ae,g0,g1,g4,g12,g13]
    iterate 6 refine cI ?_
    refine⟨?_,?_,?_,?_,?_,?_,?_,?_,?_⟩
    ·omega
    ·omega
    ·omega
    ·omega
    ·omega
    ·omega
    ·exact hS
    ·exact hp
    ·exact hW
   ·have dz:decide (zz<0)=false:=bh hz;simp only[↓aL,aM,aJ,↓reduceIte,aa,ah,ae,hl,g0,hD,g1,g4,g12,g13,d1,c1,c2,w2,lx,ly,kg,iU,pr,dz];refine bI ?_;refine⟨_,?_,i,j-1,js,H,rfl,(by simp[bc,hl]),?_⟩
    ·first|omega|(simp;omega)
    simp only[aY,hl,aa,ae,g0,g1,g4,g12]
    iterate 6 refine cI ?_
    refine⟨?_,?_,?_,?_,?_,?_,?_,?_,?_⟩
    ·omega
    ·omega
    ·omega
    ·omega
    ·omega
    ·omega
    ·exact hS
    ·exact hp
    ·exact hW
  clear hl g0 g1 g4 g12 g13 ts;rintro ts H ⟨i,j,js,H1,hl,g0,g1,g4,g12,g13,rfl,hi,FD,hj,MX,tJ,hm,hS,hp,hW⟩;by_cases hd:j<i
  ·have d1:decide ((i:Int)>(j:Int))=true:=bj;obtain⟨F1,F2,H3,qf,tL,vQ,l1,l2,s1,s2,e3,o7,nS,mR⟩:=kZ R hS hp (i:=j) (j:=a) (by omega) (by omega);have c1:=eP (i:=j) (n:=n);have c2:=eP (i:=a) (n:=n);simp only[↓aL,aM,aJ,↓reduceIte,aa,ah,ae,hl,g0,hD,g1,g12,g13,d1,c1,c2,l1,l2,s1,s2,e3];exact⟨j,_,by omega,by omega,rfl,rfl,hW.trans nS,qf,o7,mR⟩
  have d1:decide ((i:Int)>(j:Int))=false:=bh (by omega);obtain⟨F1,F2,H3,qf,tL,vQ,l1,l2,s1,s2,e3,o7,nS,mR⟩:=kZ R hS hp (i:=i) (j:=j) (by omega) (by omega);have c1:=eP (i:=i) (n:=n);have c2:=eP (i:=j) (n:=n);have w2:=wz (z:=(i:Int)+1) (m:=i+1);have w3:=wz (z:=(j:Int)-1) (m:=j-1);simp only[↓aL,aM,aJ,↓reduceIte,aa,ah,ae,hl,g0,hD,g12,g13,d1,c1,c2,w2,w3,l1,l2,s1,s2,e3];refine AI (id:=4) (fun k_ ts H=>∃i2:Nat,∃j2:Nat,∃js,∃H1,k_=(j2+2-i2:Nat)/\ts.length=178/\gt ts 0=D/\gt ts 1=.int .i64 (a:Int)/\gt ts 4=.func g [] []/\gt ts 12=.int .i64 (i2:Int)/\gt ts 13=.int .i64 (j2:Int)/\H=H1/\(a+1<=i2)/\(i2<=c)/\(a<=j2)/\(j2<c)/\(i2<=j2+2)/\(SR H1 b row js)/\(js.Perm (aOR n))/\(HW b H0 H1)) (fun ts H=>∃i2:Nat,∃j2:Nat,∃js,∃H1,ts.length=178/\gt ts 0=D/\gt ts 1=.int .i64 (a:Int)/\gt ts 4=.func g [] []/\gt ts 12=.int .i64 (i2:Int)/\gt ts 13=.int .i64 (j2:Int)/\H=H1/\(a+1<=i2)/\(i2<=c)/\(a<=j2)/\(j2<c)/\(i2<=j2+2)/\(SR H1 b row js)/\(js.Perm (aOR n))/\(HW b H0 H1)) (j-1+2-(i+1)) ?_ ?_ ?_
  rotate_left 2
  ·refine⟨i+1,j-1,qf,H3,(by first|omega|rfl|simp),(by simp[bc,hl]),?_⟩;simp only[aY,hl,aa,ae,g0,g1,g4]
   iterate 6 refine cI ?_
   refine⟨?_,?_,?_,?_,?_,?_,?_,?_⟩
   ·first|omega|trivial
   ·first|omega|trivial
   ·first|omega|trivial
   ·first|omega|trivial
   ·first|omega|trivial
   ·first|exact o7|trivial
   ·first|exact mR|trivial
   ·first|exact hW.trans nS|trivial
  ·clear hl g0 g1 g4 g12 g13 ts;rintro k_ ts H ⟨i2,j2,js,H1,rfl,hl,g0,g1,g4,g12,g13,rfl,hi,FD,hj,MX,tJ,hS,hp,hW⟩;refine VS ?_;clear hM;obtain⟨M,hM⟩:∃M:Nat,M=j2+2-i2:=⟨_,rfl⟩;obtain⟨i,hi0⟩:∃i:Nat,i=i2:=⟨_,rfl⟩;obtain⟨j,hj0⟩:∃j:Nat,j=j2:=⟨_,rfl⟩;rw[<-hi0]at g12 hi FD tJ;rw[<-hj0]at g13 hj MX tJ;simp only[↓aL];refine AI (id:=6) (fun k_ ts H=>∃i:Nat,∃j:Nat,∃js,∃H1,k_=(j+2-i:Nat)/\ts.length=178/\gt ts 0=D/\gt ts 1=.int .i64 (a:Int)/\gt ts 4=.func g [] []/\gt ts 12=.int .i64 (i:Int)/\gt ts 13=.int .i64 (j:Int)/\H=H1/\(a+1<=i)/\(i<=c)/\(a<=j)/\(j<c)/\(i<=j+2)/\(j+2-i<=M)/\(SR H1 b row js)/\(js.Perm (aOR n))/\(HW b H0 H1)) (fun ts H=>∃i:Nat,∃j:Nat,∃js,∃H1,ts.length=178/\gt ts 0=D/\gt ts 1=.int .i64 (a:Int)/\gt ts 4=.func g [] []/\gt ts 12=.int .i64 (i:Int)/\gt ts 13=.int .i64 (j:Int)/\H=H1/\(a+1<=i)/\(i<=c)/\(a<=j)/\(j<c)/\(i<=j+2)/\(j+2-i<=M)/\(SR H1 b row js)/\(js.Perm (aOR n))/\(HW b H0 H1)) (j+2-i) ?_ ?_ ?_
   rotate_left 2
   ·refine⟨i,j,js,H,(by first|omega|rfl|simp),(by simp[bc,hl]),?_⟩;simp only[aY,g0,g1,g4,g12,g13]
    iterate 6 refine cI ?_
    refine⟨?_,?_,?_,?_,?_,?_,?_,?_,?_⟩
    ·first|omega|trivial
    ·first|omega|trivial
    ·first|omega|trivial
    ·first|omega|trivial
    ·first|omega|trivial
    ·first|omega|trivial
    ·first|exact hS|trivial
    ·first|exact hp|trivial
    ·first|exact hW|trivial
   ·clear hl g0 g1 g4 g12 g13 ts;rintro k_ ts H ⟨i,j,js,H1,rfl,hl,g0,g1,g4,g12,g13,rfl,hi,FD,hj,MX,tJ,hm,hS,hp,hW⟩;refine VS ?_;by_cases hd:i<=j
    rotate_left
    ·have d1:decide ((i:Int)<=(j:Int))=false:=bh (by omega);simp only[↓aL,aM,aJ,aa,ah,ae,hl,g12,g13,d1];refine iW ?_;refine⟨i,j,js,H,(by simp[bc,hl]),?_⟩;simp only[aY,ae,g0,g1,g4,g12,g13]
     iterate 6 refine cI ?_
     refine⟨?_,?_,?_,?_,?_,?_,?_,?_,?_⟩
     ·omega
     ·omega
     ·omega
     ·omega
     ·omega
     ·omega
     ·exact hS
     ·exact hp
     ·exact hW
    have d1:decide ((i:Int)<=(j:Int))=true:=bj;obtain⟨hx,lx⟩:=FX R hS hp (i:=i) (by omega);obtain⟨hy,ly⟩:=FX R hS hp (i:=a) (by omega);have c1:=eP (i:=i) (n:=n);have c2:=eP (i:=a) (n:=n);have w1:=wz (z:=(i:Int)+1) (m:=i+1);have w2:=wz (z:=(j:Int)-1) (m:=j-1);have iU:=hc _ _ hx hy;generalize G6:cz (js.getD i 0) (js.getD a 0)=zz at iU;by_cases hz:zz<0
    ·have dz:decide (zz<0)=true:=bj hz;simp only[↓aL,aM,aJ,↓reduceIte,aa,ah,ae,hl,g0,hD,g1,g4,g12,g13,d1,c1,c2,w1,lx,ly,kg,iU,pr,dz];refine bI ?_;refine⟨_,?_,i+1,j,js,H,rfl,(by simp[bc,hl]),?_⟩
     ·first|omega|(simp;omega)
     simp only[aY,hl,aa,ae,g0,g1,g4,g13]
     iterate 6 refine cI ?_
     refine⟨?_,?_,?_,?_,?_,?_,?_,?_,?_⟩
     ·omega
     ·omega
     ·omega
     ·omega
     ·omega
     ·omega
     ·exact hS
     ·exact hp
     ·exact hW
    ·have dz:decide (zz<0)=false:=bh hz;simp only[↓aL,aM,aJ,↓reduceIte,aa,ah,ae,hl,g0,hD,g1,g4,g12,g13,d1,c1,c2,lx,ly,kg,iU,pr,dz];refine iW ?_;refine⟨i,j,js,H,(by simp[bc,hl]),?_⟩;simp only[aY,ae,g0,g1,g4,g12,g13]
     iterate 6 refine cI ?_
     refine⟨?_,?_,?_,?_,?_,?_,?_,?_,?_⟩
     ·omega
     ·omega
     ·omega
     ·omega
     ·omega
     ·omega
     ·exact hS
     ·exact hp
     ·exact hW
   clear hl g0 g1 g4 g12 g13 ts;rintro ts H ⟨i,j,js,H1,hl,g0,g1,g4,g12,g13,rfl,hi,FD,hj,MX,tJ,hm,hS,hp,hW⟩;simp only[↓aL,↓reduceIte];refine AI (id:=8) (fun k_ ts H=>∃i:Nat,∃j:Nat,∃js,∃H1,k_=(j+2-i:Nat)/\ts.length=178/\gt ts 0=D/\gt ts 1=.int .i64 (a:Int)/\gt ts 4=.func g [] []/\gt ts 12=.int .i64 (i:Int)/\gt ts 13=.int .i64 (j:Int)/\H=H1/\(a+1<=i)/\(i<=c)/\(a<=j)/\(j<c)/\(i<=j+2)/\(j+2-i<=M)/\(SR H1 b row js)/\(js.Perm (aOR n))/\(HW b H0 H1)) (fun ts H=>∃i:Nat,∃j:Nat,∃js,∃H1,ts.length=178/\gt ts 0=D/\gt ts 1=.int .i64 (a:Int)/\gt ts 4=.func g [] []/\gt ts 12=.int .i64 (i:Int)/\gt ts 13=.int .i64 (j:Int)/\H=H1/\(a+1<=i)/\(i<=c)/\(a<=j)/\(j<c)/\(i<=j+2)/\(j+2-i<=M)/\(SR H1 b row js)/\(js.Perm (aOR n))/\(HW b H0 H1)) (j+2-i) ?_ ?_ ?_
   rotate_left 2
   ·refine⟨i,j,js,H,(by first|omega|rfl|simp),(by simp[bc,hl]),?_⟩;simp only[aY,g0,g1,g4,g12,g13]
    iterate 6 refine cI ?_
    refine⟨?_,?_,?_,?_,?_,?_,?_,?_,?_⟩
    ·first|omega|trivial
    ·first|omega|trivial
    ·first|omega|trivial
    ·first|omega|trivial
    ·first|omega|trivial
    ·first|omega|trivial
    ·first|exact hS|trivial
    ·first|exact hp|trivial
    ·first|exact hW|trivial
   ·clear hl g0 g1 g4 g12 g13 ts;rintro k_ ts H ⟨i,j,js,H1,rfl,hl,g0,g1,g4,g12,g13,rfl,hi,FD,hj,MX,tJ,hm,hS,hp,hW⟩;refine VS ?_;by_cases hd:i<=j
    rotate_left
    ·have d1:decide ((i:Int)<=(j:Int))=false:=bh (by omega);simp only[↓aL,aM,aJ,aa,ah,ae,hl,g12,g13,d1];refine iW ?_;refine⟨i,j,js,H,(by simp[bc,hl]),?_⟩;simp only[aY,ae,g0,g1,g4,g12,g13]
     iterate 6 refine cI ?_
     refine⟨?_,?_,?_,?_,?_,?_,?_,?_,?_⟩
     ·omega
     ·omega
     ·omega
     ·omega
     ·omega
     ·omega
     ·exact hS
     ·exact hp
     ·exact hW
    have d1:decide ((i:Int)<=(j:Int))=true:=bj;obtain⟨hx,lx⟩:=FX R hS hp (i:=j) (by omega);obtain⟨hy,ly⟩:=FX R hS hp (i:=a) (by omega);have c1:=eP (i:=j) (n:=n);have c2:=eP (i:=a) (n:=n);have w1:=wz (z:=(i:Int)+1) (m:=i+1);have w2:=wz (z:=(j:Int)-1) (m:=j-1);have iU:=hc _ _ hx hy;generalize G6:cz (js.getD j 0) (js.getD a 0)=zz at iU;by_cases hz:zz<0
    ·have dz:decide (zz<0)=true:=bj hz;simp only[↓aL,aM,aJ,↓reduceIte,aa,ah,ae,hl,g0,hD,g1,g4,g12,g13,d1,c1,c2,lx,ly,kg,iU,pr,dz];refine iW ?_;refine⟨i,j,js,H,(by simp[bc,hl]),?_⟩;simp only[aY,ae,g0,g1,g4,g12,g13]
     iterate 6 refine cI ?_
     refine⟨?_,?_,?_,?_,?_,?_,?_,?_,?_⟩
     ·omega
     ·omega
     ·omega
     ·omega
     ·omega
     ·omega
     ·exact hS
     ·exact hp
     ·exact hW
    ·have dz:decide (zz<0)=false:=bh hz;simp only[↓aL,aM,aJ,↓reduceIte,aa,ah,ae,hl,g0,hD,g1,g4,g12,g13,d1,c1,c2,w2,lx,ly,kg,iU,pr,dz];refine bI ?_;refine⟨_,?_,i,j-1,js,H,rfl,(by simp[bc,hl]),?_⟩
     ·first|omega|(simp;omega)
     simp only[aY,hl,aa,ae,g0,g1,g4,g12]
     iterate 6 refine cI ?_
     refine⟨?_,?_,?_,?_,?_,?_,?_,?_,?_⟩
     ·omega
     ·omega
     ·omega
     ·omega
     ·omega
     ·omega
     ·exact hS
     ·exact hp
     ·exact hW
   clear hl g0 g1 g4 g12 g13 ts;rintro ts H ⟨i,j,js,H1,hl,g0,g1,g4,g12,g13,rfl,hi,FD,hj,MX,tJ,hm,hS,hp,hW⟩;by_cases hd:j<i
   ·have d1:decide ((i:Int)>(j:Int))=true:=bj;simp only[↓aL,aM,↓reduceIte,aa,ae,hl,g12,g13,d1];refine iW ?_;refine⟨i,j,js,H,(by simp[bc,hl]),?_⟩;simp only[aY,ae,g0,g1,g4,g12,g13]
    iterate 6 refine cI ?_
    refine⟨?_,?_,?_,?_,?_,?_,?_,?_⟩
    ·omega
    ·omega
    ·omega
    ·omega
    ·omega
    ·exact hS
    ·exact hp
    ·exact hW
   have d1:decide ((i:Int)>(j:Int))=false:=bh (by omega);obtain⟨F1,F2,H3,qf,tL,vQ,l1,l2,s1,s2,e3,o7,nS,mR⟩:=kZ R hS hp (i:=i) (j:=j) (by omega) (by omega);have c1:=eP (i:=i) (n:=n);have c2:=eP (i:=j) (n:=n);have w2:=wz (z:=(i:Int)+1) (m:=i+1);have w3:=wz (z:=(j:Int)-1) (m:=j-1);simp only[↓aL,aM,aJ,↓reduceIte,aa,ah,ae,hl,g0,hD,g12,g13,d1,c1,c2,w2,w3,l1,l2,s1,s2,e3];refine bI ?_;refine⟨_,?_,i+1,j-1,qf,H3,rfl,(by simp[bc,hl]),?_⟩
   ·first|omega|(simp;omega)
   simp only[aY,hl,aa,ae,g0,g1,g4]
   iterate 6 refine cI ?_
   refine⟨?_,?_,?_,?_,?_,?_,?_,?_⟩
   ·omega
   ·omega
   ·omega
   ·omega
   ·omega
   ·exact o7
   ·exact mR
   ·exact hW.trans nS
  clear hl g0 g1 g4 g12 g13 ts;rintro ts H ⟨i2,j2,js,H1,hl,g0,g1,g4,g12,g13,rfl,hi,FD,hj,MX,tJ,hS,hp,hW⟩;obtain⟨F1,F2,H3,qf,tL,vQ,l1,l2,s1,s2,e3,o7,nS,mR⟩:=kZ R hS hp (i:=j2) (j:=a) (by omega) (by omega);have c1:=eP (i:=j2) (n:=n);have c2:=eP (i:=a) (n:=n);simp only[↓aL,aM,aJ,↓reduceIte,aa,ah,ae,hl,g0,hD,g1,g13,c1,c2,l1,l2,s1,s2,e3];exact⟨j2,_,by omega,by omega,rfl,rfl,hW.trans nS,qf,o7,mR⟩
def bl(m:Nat):Nat:=if m=0 then 0 else Nat.log2 m+1
def adU(o:Nat->List AV->Option AV):(aOR 128).map (fun m=>call (EN o) 20 210 [.int .u64 ((m:Nat):Int)])=(aOR 128).map (fun m=>some (.int .i64 ((bl m:Nat):Int))):=by kernel_rfl
def De{m:Nat}(h:m<128):aP E 210 [.int .u64 (m:Int)]=some (.int .i64 ((bl m:Nat):Int)):=by
 refine IW (n:=20) (by kernel_rfl) fun o=>?_
 have:=congrArg (fun l=>l[m]?) (adU o)
 simpa[h]using this
def aoc{m:Nat}(h:m<128):bl m<=7:=by
 have:∀m:Fin 128,bl m.1<=7:=by decide+kernel
 exact this ⟨m,h⟩
def ah8{m:Nat}(h:m<128)(h0:0<m):2^bl m<=2*m:=by
 have:∀m:Fin 128,0<m.1->2^bl m.1<=2*m.1:=by decide+kernel
 exact this ⟨m,h⟩ h0
def Tf{m:Nat}(h:m<128):aP E 283 [.int .i64 (m:Int)]=some (.int .u64 ((2^bl m:Nat):Int)):=by
 suffices hh:∃r,aP E 283 [.int .i64 (m:Int)]=some r/\r=.int .u64 ((2^bl m:Nat):Int)by obtain⟨r,h1,rfl⟩:=hh;exact h1
 have AA:=De (E:=E) h;have hb:=aoc h;have w1:aW .u64 (m:Int)=(m:Int):=wrap_u64;have hp:2^bl m<=2^7:=Nat.pow_le_pow_right (by omega) hb;have se:∀{c:Bool} {t:Nat},cp E c .shl t (.int .u64 1) (.int .i64 ((bl m:Nat):Int))=some (.int .u64 ((2^bl m:Nat):Int)):=by
  intro c t
  have:=xW (E:=E) (c:=c) (t:=t) (k:=.u64) (k':=.i64) (a:=1) (n:=bl m) (by have:IntKind.u64.bits=64:=rfl;omega)
  rw[aTj,wrap_u64]at this;exact this
 refine nY ar4 ?_;intro ts hl g0;unfold apF;simp only[↓aL,aM,↓aS,aJ,aa,ae,Tryz.f283,↓ef Uw yx,hl,g0,w1,AA,se]
def Tc{H0:Hp}{b:Nat}{z:Int}(h:H0[b]?=some (.cells .live [.int .u64 z])):
  ∃r H',cV E 284 [.bK b 0] H0=some (r,H')/\∃z',r=.int .u64 z'/\H'=cO H0 b (.cells .live [.int .u64 z']):=by
 have eh:b<H0.length:=(aLq.1 h).1;have Iq:∀{z:Int} {H:Hp},H[b]?=some (.cells .live [.int .u64 z])->cellAt H b 0=some (.int .u64 z):=fun hh=>by rw[bY,hh];rfl
 have dx:∀{z y:Int} {H:Hp},H[b]?=some (.cells .live [.int .u64 z])->iZ 1 [.int .u64 y] H b 0=some (.cells .live [.int .u64 y]):=fun hh=>by rw[eT,hh];rfl
 have SC:∀{y:Int},(cO H0 b (.cells .live [.int .u64 y]))[b]?=some (.cells .live [.int .u64 y]):=by intro y;unfold cO;rw[if_pos eh,aOl eh]
 have hpp:∀{x y:cE},cO (cO H0 b x) b y=cO H0 b y:=by intro x y;unfold cO;rw[if_pos eh,aQx,if_pos eh,if_pos eh,List.set_set]
 have akS:∀{x y:Int},∃w,∀{c:Bool} {t:Nat},cp E c .xor t (.int .u64 x) (.int .u64 y)=some (.int .u64 w):=⟨_,rfl⟩;have atI:∀{x:Int} {n:Nat},∃w,∀{c:Bool} {t:Nat},cp E c .shl t (.int .u64 x) (.int .u64 (n:Int))=some (.int .u64 w):=fun{x n}=>⟨aW .u64 (x*2^(min (n:Int).toNat IntKind.u64.bits)),by
  intro c t;unfold cp;simp only[if_neg (show¬(n:Int)<0 by omega)]⟩
 have adv:∀{x:Int} {n:Nat},∃w,∀{c:Bool} {t:Nat},cp E c .shr t (.int .u64 x) (.int .u64 (n:Int))=some (.int .u64 w):=fun{x n}=>⟨x.fdiv (2^(min (n:Int).toNat IntKind.u64.bits)),by
  intro c t;unfold cp;simp only[if_neg (show¬(n:Int)<0 by omega)]⟩
 obtain⟨a1,vM⟩:=atI (x:=z) (n:=13);obtain⟨a2,CU⟩:=akS (x:=z) (y:=a1);obtain⟨a3,ha3⟩:=adv (x:=a2) (n:=7);obtain⟨a4,ha4⟩:=akS (x:=a2) (y:=a3);obtain⟨a5,ha5⟩:=atI (x:=a4) (n:=17);obtain⟨a6,ha6⟩:=akS (x:=a4) (y:=a5);rw[show(((13:Nat):Int))=13 from rfl]at vM;rw[show(((7:Nat):Int))=7 from rfl]at ha3;rw[show(((17:Nat):Int))=17 from rfl]at ha5;have l0:=Iq h;have s0:=dx (y:=a2) h;have l1:=Iq (SC (y:=a2));have s1:=dx (y:=a4) (SC (y:=a2));have l2:=Iq (SC (y:=a4));have s2:=dx (y:=a6) (SC (y:=a4));have l3:=Iq (SC (y:=a6));refine gi1 (gd C) (by rw[C.fn];exact ar5) (by decide) ?_;intro ts hl g0;unfold apG;simp only[↓aL,aM,aJ,aa,ah,ae,Tryz.f284,hl,g0,l0,s0,l1,s1,l2,s2,l3,vM,CU,ha3,ha4,ha5,ha6,hpp,Oi];exact⟨_,rfl,rfl⟩
def zU{K u0 u1 u2 u3 u4 u5 u6 u7 u8 u9 vC sN sG sH:Nat}(I:lf K u0 u1 u2 u3 u4 u5 u6 u7 u8 u9 vC sN sG sH){b n kc g:Nat}{row:Nat->List AV}{mT:List Nat}{H0:Hp}{cz:Nat->Nat->Int}(R:qX K row)(hg:bF E g=false)(hc:∀p q,p<n->q<n->aP E g [.agg (row p),.agg (row q)]=some (.int .i64 (cz p q)))(wM:SR H0 b row mT)(sC:mT.Perm (aOR n))(hn:n<=1000000){i j L:Nat}{z:Int}(hi:i<n)(hj:j<n)(hL:b≠L)(hB:H0[L]?=some (.cells .live [.int .i64 z])):
  ∃r H',cV E u7 [.aI b 0 n K kc,.int .i64 (i:Int),.int .i64 (j:Int),.bK L 0,.func g [] []] H0=some (r,H')/\∃p q:Nat,((p=i/\q=j)∨(p=j/\q=i))/\r=.tuple [.int .i64 (p:Int),.int .i64 (q:Int)]/\BX L H0 H':=by
 obtain⟨D,hD⟩:∃D,D=AV.aI b 0 n K kc:=⟨_,rfl⟩;have I0:=I;cases I
 all_goals
  have kg:=fun{dr st:Bool} {bl:List AV} {H:Hp} {k:AV->cF->Prop}=>jy (E:=E) (dr:=dr) (st:=st) (f:=g) (bl:=bl) (H:=H) (k:=k) hg
  have pr:=R.pure;have eh:L<H0.length:=(aLq.1 hB).1;have l0:cellAt H0 L 0=some (.int .i64 z):=by rw[bY,hB];rfl
  have s0:∀{y:Int},iZ 1 [.int .i64 y] H0 L 0=some (.cells .live [.int .i64 y]):=by intro y;rw[eT,hB];rfl
  obtain⟨hx,lx⟩:=FX R wM sC (i:=i) (by omega);obtain⟨hy,ly⟩:=FX R wM sC (i:=j) (by omega);have c1:=eP (i:=i) (n:=n);have c2:=eP (i:=j) (n:=n);have iU:=hc _ _ hy hx;generalize G6:cz (mT.getD j 0) (mT.getD i 0)=zz at iU;refine gi5 (gd C) (by rw[C.fn];first|with_reducible exact asd|with_reducible exact asc) (by decide) ?_;intro ts hl g0 g1 g2 g3 g4;rw[<-hD]at g0
  first|unfold apU|unfold apT
  by_cases hz:zz<0
  ·have dz:decide (zz<0)=true:=bj hz;simp only[↓aL,aM,aJ,↓reduceIte,aa,ah,ae,Tryz.f310,Tryz.f309,hl,g0,hD,g1,g2,g3,g4,c1,c2,lx,ly,kg,iU,pr,dz,l0,s0,Oi];refine⟨j,i,.inr ⟨rfl,rfl⟩,rfl,?_,?_,?_⟩
   ·unfold cO;rw[if_pos eh,aQx]
   ·intro c hc;unfold cO;rw[if_pos eh,aOj (Ne.symm hc)]
   ·exact⟨_,by unfold cO;rw[if_pos eh,aOl eh]⟩
  ·have dz:decide (zz<0)=false:=bh hz;simp only[↓aL,aM,aJ,↓reduceIte,aa,ah,ae,Tryz.f310,Tryz.f309,hl,g0,hD,g1,g2,g4,c1,c2,lx,ly,kg,iU,pr,dz];exact⟨i,j,.inl ⟨rfl,rfl⟩,rfl,.refl hB⟩
def zS{K u0 u1 u2 u3 u4 u5 u6 u7 u8 u9 vC sN sG sH:Nat}(I:lf K u0 u1 u2 u3 u4 u5 u6 u7 u8 u9 vC sN sG sH){b n kc g:Nat}{row:Nat->List AV}{mT:List Nat}{H0:Hp}{cz:Nat->Nat->Int}(R:qX K row)(hg:bF E g=false)(hc:∀p q,p<n->q<n->aP E g [.agg (row p),.agg (row q)]=some (.int .i64 (cz p q)))(wM:SR H0 b row mT)(sC:mT.Perm (aOR n))(hn:n<=1000000){i j k L:Nat}{z:Int}(hi:i<n)(hj:j<n)(hk:k<n)(hL:b≠L)(hB:H0[L]?=some (.cells .live [.int .i64 z])):
  ∃r H',cV E u8 [.aI b 0 n K kc,.int .i64 (i:Int),.int .i64 (j:Int),.int .i64 (k:Int),.bK L 0,.func g [] []] H0=some (r,H')/\∃m:Nat,(m=i∨m=j∨m=k)/\r=.int .i64 (m:Int)/\BX L H0 H':=by
 obtain⟨D,hD⟩:∃D,D=AV.aI b 0 n K kc:=⟨_,rfl⟩;have I0:=I;cases I
 all_goals
  obtain⟨r1,H1,e1,p1,q1,o1,rfl,b1⟩:=zU (E:=E) (kc:=kc) I0 R hg hc wM sC hn hi hj hL hB;obtain⟨z1,Uu⟩:=b1.box;obtain⟨r2,H2,e2,p2,q2,o2,rfl,b2⟩:=zU (E:=E) (kc:=kc) I0 R hg hc (b1.sr hL wM) sC hn (i:=q1) (j:=k) (by omega) hk hL Uu;obtain⟨z2,Uv⟩:=b2.box;obtain⟨r3,H3,e3,p3,q3,o3,rfl,b3⟩:=zU (E:=E) (kc:=kc) I0 R hg hc (b2.sr hL (b1.sr hL wM)) sC hn (i:=p1) (j:=p2) (by omega) (by omega) hL Uv;refine gi6 (gd C) (by rw[C.fn];first|with_reducible exact asa|with_reducible exact ar7) (by decide) ?_;intro ts hl g0 g1 g2 g3 g4 g5;rw[<-hD]at g0
  first|unfold apL|unfold apI
  simp only[↓aL,aM,↓aS,aJ,aa,ae,Tryz.f289,Tryz.f286,hl,g0,hD,g1,g2,g3,g4,g5,e1,e2,e3];exact⟨q3,by omega,rfl,(b1.trans b2).trans b3⟩
def wQ{K u0 u1 u2 u3 u4 u5 u6 u7 u8 u9 vC sN sG sH:Nat}(I:lf K u0 u1 u2 u3 u4 u5 u6 u7 u8 u9 vC sN sG sH){b n kc g:Nat}{row:Nat->List AV}{mT:List Nat}{H0:Hp}{cz:Nat->Nat->Int}(R:qX K row)(hg:bF E g=false)(hc:∀p q,p<n->q<n->aP E g [.agg (row p),.agg (row q)]=some (.int .i64 (cz p q)))(wM:SR H0 b row mT)(sC:mT.Perm (aOR n))(hn:n<=1000000){i L:Nat}{z:Int}(h1:1<=i)(hi:i+1<n)(hL:b≠L)(hB:H0[L]?=some (.cells .live [.int .i64 z])):
  ∃r H',cV E u9 [.aI b 0 n K kc,.int .i64 (i:Int),.bK L 0,.func g [] []] H0=some (r,H')/\∃m:Nat,(i<=m+1/\m<=i+1)/\r=.int .i64 (m:Int)/\BX L H0 H':=by
 obtain⟨D,hD⟩:∃D,D=AV.aI b 0 n K kc:=⟨_,rfl⟩;have I0:=I;cases I
 all_goals
  obtain⟨r1,H1,e1,m,o1,rfl,b1⟩:=zS (E:=E) (kc:=kc) I0 R hg hc wM sC hn (i:=i-1) (j:=i) (k:=i+1) (by omega) (by omega) hi hL hB;have w1:=wz (z:=(i:Int)-1) (m:=i-1);have w2:=wz (z:=(i:Int)+1) (m:=i+1);refine gi4 (gd C) (by rw[C.fn];first|with_reducible exact ar9|with_reducible exact ar6) (by decide) ?_;intro ts hl g0 g1 g2 g3;rw[<-hD]at g0
  first|unfold apK|unfold apH
  simp only[↓aL,aM,↓aS,aJ,aa,ae,Tryz.f288,Tryz.f285,hl,g0,hD,g1,g2,g3,w1,w2,e1];exact⟨m,by omega,rfl,b1⟩
def SN{K u0 u1 u2 u3 u4 u5 u6 u7 u8 u9 vC sN sG sH:Nat}(I:lf K u0 u1 u2 u3 u4 u5 u6 u7 u8 u9 vC sN sG sH){b n kc g:Nat}{row:Nat->List AV}{mT:List Nat}{H0:Hp}{cz:Nat->Nat->Int}(R:qX K row)(hg:bF E g=false)(hc:∀p q,p<n->q<n->aP E g [.agg (row p),.agg (row q)]=some (.int .i64 (cz p q)))(wM:SR H0 b row mT)(sC:mT.Perm (aOR n))(hn:n<=1000000){a c:Nat}(CV:a+12<c)(nh:c<=n):
  ∃r H',cV E vC [.aI b 0 n K kc,.int .i64 (a:Int),.int .i64 (c:Int),.func g [] []] H0=some (r,H')/\∃(m:Nat) (h:Int),a<=m/\m<c/\(h=0∨h=1∨h=2)/\r=.tuple [.int .i64 (m:Int),.int .i64 h]/\HW b H0 H'/\SR H' b row mT:=by
 obtain⟨D,hD⟩:∃D,D=AV.aI b 0 n K kc:=⟨_,rfl⟩;have I0:=I;cases I
 all_goals
  obtain⟨l,rfl⟩:∃l,c=a+l:=⟨c-a,by omega⟩;have aj7:=wM.lt;have hS1:SR (H0++[.cells .live [.int .i64 0]]) b row mT:=by unfold SR;rw[aOr aj7];exact wM
  have hB1:(H0++[cE.cells .live [.int .i64 0]])[H0.length]?=some (.cells .live [.int .i64 0]):=by rw[aT6 (aLt _)];simp
  have w0:=wz (z:=((a+l:Nat):Int)-(a:Int)) (m:=l);have q1:∀{cc:Bool} {t:Nat},cp E cc .quo t (.int .i64 (l:Int)) (.int .i64 4)=some (.int .i64 ((l/4:Nat):Int)):=fun{cc t}=>aeo (d:=4)
  obtain⟨s,hs⟩:∃s,s=l/4:=⟨_,rfl⟩;rw[<-hs]at q1;have u1:=wz (z:=(s:Int)*1) (m:=s);have u2:=wz (z:=(s:Int)*2) (m:=s*2);have u3:=wz (z:=(s:Int)*3) (m:=s*3);have v1:=wz (z:=(a:Int)+(s:Int)) (m:=a+s);have v2:=wz (z:=(a:Int)+((s*2:Nat):Int)) (m:=a+s*2);have v3:=wz (z:=(a:Int)+((s*3:Nat):Int)) (m:=a+s*3);have d8:decide ((l:Int)≥8)=true:=bj;refine gi4 (gd C) (by rw[C.fn];first|with_reducible exact arX|with_reducible exact arQ) (by decide) ?_;intro ts hl g0 g1 g2 g3;rw[<-hD]at g0
  first|unfold apy|unfold apr
  by_cases h50:50<=l
  ·have d50:decide ((l:Int)≥50)=true:=bj;obtain⟨r1,H1,e1,m1,o1,rfl,b1⟩:=wQ (E:=E) (kc:=kc) I0 R hg hc hS1 sC hn (i:=a+s) (by omega) (by omega) (by omega) hB1;obtain⟨z1,Uu⟩:=b1.box;obtain⟨r2,H2,e2,m2,o2,rfl,b2⟩:=wQ (E:=E) (kc:=kc) I0 R hg hc (b1.sr (by omega) hS1) sC hn (i:=a+s*2) (by omega) (by omega) (by omega) Uu;obtain⟨z2,Uv⟩:=b2.box;obtain⟨r3,H3,e3,m3,o3,rfl,b3⟩:=wQ (E:=E) (kc:=kc) I0 R hg hc ((b1.trans b2).sr (by omega) hS1) sC hn (i:=a+s*3) (by omega) (by omega) (by omega) Uv;obtain⟨z3,hz3⟩:=b3.box;obtain⟨r4,Hf,hf,m,o4,rfl,b4⟩:=zS (E:=E) (kc:=kc) I0 R hg hc (((b1.trans b2).trans b3).sr (by omega) hS1) sC hn (i:=m1) (j:=m2) (k:=m3) (by omega) (by omega) (by omega) (by omega) hz3;have bf:=((b1.trans b2).trans b3).trans b4;obtain⟨zb,hzb⟩:=bf.box;have l0:cellAt Hf H0.length 0=some (.int .i64 zb):=by rw[bY,hzb];rfl
   have hHW:HW b H0 Hf:=⟨by rw[bf.le,aL9];omega,fun x hx ej=>by rw[bf.get x (by omega),aOr hx]⟩;have hSf:SR Hf b row mT:=bf.sr (by omega) hS1;by_cases h0:zb=0
   ·have b0:(zb==0)=true:=by simp[h0]
    simp only[↓aL,aM,↓aS,aJ,aa,ae,Tryz.f254,Tryz.f245,hl,g0,hD,g1,g2,g3,w0,q1,u1,u2,u3,v1,v2,v3,d8,l0,b0,hf,d50,e1,e2,e3,DG];exact⟨m,1,by omega,by omega,by omega,rfl,hHW,hSf⟩
   have b0:(zb==0)=false:=by simp[h0]
   by_cases h12:zb=12
   ·have b12:(zb==12)=true:=by simp[h12]
    simp only[↓aL,aM,↓aS,aJ,aa,ae,Tryz.f254,Tryz.f245,hl,g0,hD,g1,g2,g3,w0,q1,u1,u2,u3,v1,v2,v3,d8,l0,b0,b12,hf,d50,e1,e2,e3,DG];exact⟨m,2,by omega,by omega,by omega,rfl,hHW,hSf⟩
   have b12:(zb==12)=false:=by simp[h12]
   simp only[↓aL,aM,↓aS,aJ,aa,ae,Tryz.f254,Tryz.f245,hl,g0,hD,g1,g2,g3,w0,q1,u1,u2,u3,v1,v2,v3,d8,l0,b0,b12,hf,d50,e1,e2,e3,DG];exact⟨m,0,by omega,by omega,by omega,rfl,hHW,hSf⟩
  ·have d50:decide ((l:Int)≥50)=false:=bh (by omega);obtain⟨r4,Hf,hf,m,o4,rfl,bf⟩:=zS (E:=E) (kc:=kc) I0 R hg hc hS1 sC hn (i:=a+s) (j:=a+s*2) (k:=a+s*3) (by omega) (by omega) (by omega) (by omega) hB1;obtain⟨zb,hzb⟩:=bf.box;have l0:cellAt Hf H0.length 0=some (.int .i64 zb):=by rw[bY,hzb];rfl
   have hHW:HW b H0 Hf:=⟨by rw[bf.le,aL9];omega,fun x hx ej=>by rw[bf.get x (by omega),aOr hx]⟩;have hSf:SR Hf b row mT:=bf.sr (by omega) hS1;by_cases h0:zb=0
   ·have b0:(zb==0)=true:=by simp[h0]
    simp only[↓aL,aM,↓aS,aJ,aa,ae,Tryz.f254,Tryz.f245,hl,g0,hD,g1,g2,g3,w0,q1,u1,u2,u3,v1,v2,v3,d8,l0,b0,hf,d50,DG];exact⟨m,1,by omega,by omega,by omega,rfl,hHW,hSf⟩
   have b0:(zb==0)=false:=by simp[h0]
   by_cases h12:zb=12
   ·have b12:(zb==12)=true:=by simp[h12]
    simp only[↓aL,aM,↓aS,aJ,aa,ae,Tryz.f254,Tryz.f245,hl,g0,hD,g1,g2,g3,w0,q1,u1,u2,u3,v1,v2,v3,d8,l0,b0,b12,hf,d50,DG];exact⟨m,2,by omega,by omega,by omega,rfl,hHW,hSf⟩
   have b12:(zb==12)=false:=by simp[h12]
   simp only[↓aL,aM,↓aS,aJ,aa,ae,Tryz.f254,Tryz.f245,hl,g0,hD,g1,g2,g3,w0,q1,u1,u2,u3,v1,v2,v3,d8,l0,b0,b12,hf,d50,DG];exact⟨m,0,by omega,by omega,by omega,rfl,hHW,hSf⟩
def SH{K u0 u1 u2 u3 u4 u5 u6 u7 u8 u9 vC sN sG sH:Nat}(I:lf K u0 u1 u2 u3 u4 u5 u6 u7 u8 u9 vC sN sG sH){b n kc g:Nat}{row:Nat->List AV}{mT:List Nat}{H0:Hp}{cz:Nat->Nat->Int}(R:qX K row)(hg:bF E g=false)(hc:∀p q,p<n->q<n->aP E g [.agg (row p),.agg (row q)]=some (.int .i64 (cz p q)))(wM:SR H0 b row mT)(sC:mT.Perm (aOR n))(hn:n<=1000000){a c:Nat}(CV:a+12<c)(nh:c<=n)(zO:n<128):
  ∃r H',cV E sN [.aI b 0 n K kc,.int .i64 (a:Int),.int .i64 (c:Int),.func g [] []] H0=some (r,H')/\pY b n row H0 r H':=by
 obtain⟨D,hD⟩:∃D,D=AV.aI b 0 n K kc:=⟨_,rfl⟩;have I0:=I;cases I
 all_goals
  obtain⟨l,rfl⟩:∃l,c=a+l:=⟨c-a,by omega⟩;have aj7:=wM.lt;have w0:=wz (z:=((a+l:Nat):Int)-(a:Int)) (m:=l);have q1:∀{cc:Bool} {t:Nat},cp E cc .quo t (.int .i64 (l:Int)) (.int .i64 4)=some (.int .i64 ((l/4:Nat):Int)):=fun{cc t}=>aeo (d:=4)
  obtain⟨s,hs⟩:∃s,s=l/4:=⟨_,rfl⟩;rw[<-hs]at q1;have u2:=wz (z:=(s:Int)*2) (m:=s*2);have v2:=wz (z:=(a:Int)+((s*2:Nat):Int)) (m:=a+s*2);have v3:=wz (z:=((a+s*2:Nat):Int)-1) (m:=a+s*2-1);have v4:=wz (z:=((a+s*2:Nat):Int)+1) (m:=a+s*2+1);have d8:decide ((l:Int)≥8)=true:=bj;have x1:aW .u64 (l:Int)=(l:Int):=wrap_u64;have hnp:=Tf (E:=E) (m:=l) (by omega);have hpw:=ah8 (m:=l) (by omega) (by omega);have hpp:0<2^bl l:=Nat.pow_pos (by omega);generalize hP:2^bl l=P at hnp hpw hpp;refine gi4 (gd C) (by rw[C.fn];first|with_reducible exact arW|with_reducible exact arP) (by decide) ?_;intro ts hl g0 g1 g2 g3;rw[<-hD]at g0
  first|unfold apx|unfold apq
  simp only[↓aL,aM,↓aS,aJ,ct,↓reduceIte,aa,ae,Tryz.f253,Tryz.f244,↓ef Uw auk,hl,g1,g2,w0,d8,x1,hnp,q1,u2,v2,v3];have azT:∀{z:Int},SR (H0++[.cells .live [.int .u64 z]]) b row mT:=by intro z;unfold SR;rw[aOr aj7];exact wM
  refine cC (fun k_ ts H=>∃x:Nat,∃z,∃js,∃H1,k_=(a+s*2+2-x:Nat)/\ts.length=67/\gt ts 0=D/\gt ts 1=.int .i64 (a:Int)/\gt ts 8=.int .i64 (l:Int)/\gt ts 9=.bK H0.length 0/\gt ts 10=.int .u64 (P:Int)/\gt ts 11=.int .i64 (x:Int)/\H=H1/\(x<=a+s*2+2)/\(H1[H0.length]?=some (.cells .live [.int .u64 z]))/\(SR H1 b row js)/\(js.Perm (aOR n))/\(HW b H0 H1)) (a+s*2+2-(a+s*2-1)) ?_ ?_
  rotate_left
  ·refine⟨a+s*2-1,(l:Int),mT,(H0++[.cells .live [.int .u64 (l:Int)]]),(by first|omega|rfl|simp),(by simp[bc,hl]),?_⟩;simp only[aY,hl,aa,ae,g0,g1]
   iterate 7 refine cI ?_
   refine⟨?_,?_,?_,?_,?_⟩
   ·first|omega|trivial
   ·first|(rw[aT6 (aLt _)];simp)|trivial
   ·first|exact azT|trivial
   ·first|exact sC|trivial
   ·first|(exact⟨by rw[aL9];omega,fun c hc ej=>by rw[aOr hc]⟩)|trivial
  clear hl g0 g1 g2 g3 ts;rintro k_ ts H ⟨x,z,js,H1,rfl,hl,g0,g1,g8,g9,g10,g11,rfl,hx,hB,hS,hp,hW⟩;refine VS ?_;by_cases hd:x<=a+s*2+1
  rotate_left
  ·have d1:decide ((x:Int)<=((a+s*2+1:Nat):Int))=false:=bh (by omega);simp only[↓aL,aM,↓reduceIte,aa,ae,hl,g1,g8,g11,q1,u2,v2,v4,d1];exact⟨rfl,hW,js,hS,hp⟩
  have d1:decide ((x:Int)<=((a+s*2+1:Nat):Int))=true:=bj;have ac3:H0.length<H.length:=(aLq.1 hB).1;obtain⟨r2,H2,qo,z2,rfl,y7⟩:=Tc (E:=E) hB;have hB2:H2[H0.length]?=some (.cells .live [.int .u64 z2]):=by rw[y7];unfold cO;rw[if_pos ac3,aOl ac3]
  have hg2:∀c,c≠H0.length->H2[c]?=H[c]?:=fun c hc=>by rw[y7];unfold cO;rw[if_pos ac3,aOj (Ne.symm hc)]
  have azR:H2.length=H.length:=by rw[y7];unfold cO;rw[if_pos ac3,aQx]
  have zK:SR H2 b row js:=by unfold SR;rw[hg2 b (by omega)];exact hS
  have Bd:HW b H0 H2:=⟨by rw[azR];exact hW.le,fun c hc ej=>(hg2 c (by omega)).trans (hW.get c hc ej)⟩;have y1:aW .u64 ((P:Int)-1)=((P-1:Nat):Int):=by rw[show(P:Int)-1=((P-1:Nat):Int)by omega];exact wrap_u64
  obtain⟨o,ho,hand⟩:∃o:Nat,o<=P-1/\∀{cc:Bool} {t:Nat},cp E cc .and t (.int .u64 z2) (.int .u64 ((P-1:Nat):Int))=some (.int .u64 (o:Int)):=by
   refine⟨(BitVec.ofInt 64 z2&&&BitVec.ofInt 64 ((P-1:Nat):Int)).toNat,?_,fun{cc t}=>?_⟩
   ·rw[BitVec.toNat_and];refine Nat.le_trans Nat.and_le_right ?_;rw[BitVec.toNat_ofInt];omega
   ·show some (AV.int .u64 (aW .u64 ((BitVec.ofInt 64 z2&&&BitVec.ofInt 64 ((P-1:Nat):Int)).toNat:Int)))=_
    rw[wrap_u64 (BitVec.isLt _)]
  have y2:=wz (z:=(o:Int)) (m:=o) rfl;have x2:=wz (z:=(x:Int)+1) (m:=x+1);by_cases hol:l<=o
  ·have d2:decide ((o:Int)≥(l:Int))=true:=bj;have y3:=wz (z:=(o:Int)-(l:Int)) (m:=o-l);have y4:=wz (z:=(a:Int)+((o-l:Nat):Int)) (m:=a+(o-l));obtain⟨F1,F2,H3,qf,tL,vQ,l1,l2,s1,s2,e3,o7,nS,mR⟩:=kZ R zK hp (i:=x) (j:=a+(o-l)) (by omega) (by omega);have c1:=eP (i:=x) (n:=n);have c2:=eP (i:=a+(o-l)) (n:=n);simp only[↓aL,aM,↓aS,aJ,↓reduceIte,aa,ah,ae,↓ef yx Uw,hl,g0,hD,g1,g8,g9,g10,g11,q1,u2,v2,v4,d1,d2,qo,y1,hand,y2,y3,y4,x2,c1,c2,l1,l2,s1,s2,e3];refine bI ?_;refine⟨_,?_,x+1,z2,qf,H3,rfl,(by simp[bc,hl]),?_⟩
   ·first|omega|(simp;omega)
   simp only[aY,hl,aa,ae,g0,g1,g8,g9,g10]
   iterate 7 refine cI ?_
   refine⟨?_,?_,?_,?_,?_⟩
   ·omega
   ·rw[nS.get _ (by omega) (by omega)];exact hB2
   ·exact o7
   ·exact mR
   ·exact Bd.trans nS
  ·have d2:decide ((o:Int)≥(l:Int))=false:=bh (by omega);have y4:=wz (z:=(a:Int)+(o:Int)) (m:=a+o);obtain⟨F1,F2,H3,qf,tL,vQ,l1,l2,s1,s2,e3,o7,nS,mR⟩:=kZ R zK hp (i:=x) (j:=a+o) (by omega) (by omega);have c1:=eP (i:=x) (n:=n);have c2:=eP (i:=a+o) (n:=n);simp only[↓aL,aM,↓aS,aJ,↓reduceIte,aa,ah,ae,↓ef yx Uw,hl,g0,hD,g1,g8,g9,g10,g11,q1,u2,v2,v4,d1,d2,qo,y1,hand,y2,y4,x2,c1,c2,l1,l2,s1,s2,e3];refine bI ?_;refine⟨_,?_,x+1,z2,qf,H3,rfl,(by simp[bc,hl]),?_⟩
   ·first|omega|(simp;omega)
   simp only[aY,hl,aa,ae,g0,g1,g8,g9,g10]
   iterate 7 refine cI ?_
   refine⟨?_,?_,?_,?_,?_⟩
   ·omega
   ·rw[nS.get _ (by omega) (by omega)];exact hB2
   ·exact o7
   ·exact mR
   ·exact Bd.trans nS
def SL{K u0 u1 u2 u3 u4 u5 u6 u7 u8 u9 vC sN sG sH:Nat}(I:lf K u0 u1 u2 u3 u4 u5 u6 u7 u8 u9 vC sN sG sH){b n kc g:Nat}{row:Nat->List AV}{cz:Nat->Nat->Int}(R:qX K row)(hg:bF E g=false)(hc:∀p q,p<n->q<n->aP E g [.agg (row p),.agg (row q)]=some (.int .i64 (cz p q)))(zO:n<128)(N:Nat):
  ∀{a0 c0:Nat} {lim0:Int} {mT:List Nat} {H0:Hp},SR H0 b row mT->mT.Perm (aOR n)->a0<=c0->c0<=n->c0-a0<=N->
  ∃r H',cV E sG [.aI b 0 n K kc,.int .i64 (a0:Int),.int .i64 (c0:Int),.int .i64 lim0,.func g [] []] H0=some (r,H')/\pY b n row H0 r H':=by
 obtain⟨D,hD⟩:∃D,D=AV.aI b 0 n K kc:=⟨_,rfl⟩;have I0:=I;cases I
 all_goals
  have hn:n<=1000000:=by omega
  induction N using Nat.strongRecOn with
  |_ N IH=>
  intro a0 c0 lim0 mT H0 wM sC aGR aG0 hN;have kg:=fun{dr st:Bool} {bl:List AV} {H:Hp} {k:AV->cF->Prop}=>jy (E:=E) (dr:=dr) (st:=st) (f:=g) (bl:=bl) (H:=H) (k:=k) hg
  have pr:=R.pure;refine gi5 (gd C) (by rw[C.fn];first|with_reducible exact agk|with_reducible exact agj) (by decide) ?_;intro ts hl g0 g1 g2 g3 g4;rw[<-hD]at g0
  first|unfold aiK|unfold aiI
  simp only[↓aL,aM,Tryz.f212,Tryz.f209];refine auD (fun k_ ts H=>∃a:Nat,∃c:Nat,∃nD:Int,∃wb:Bool,∃wp:Bool,∃js,∃H1,k_=(c-a:Nat)/\ts.length=148/\gt ts 0=D/\gt ts 1=.int .i64 (a:Int)/\gt ts 2=.int .i64 (c:Int)/\gt ts 3=.int .i64 nD/\gt ts 4=.func g [] []/\gt ts 10=.bool wb/\gt ts 11=.bool wp/\H=H1/\(a<=c)/\(c<=n)/\(c-a<=N)/\(SR H1 b row js)/\(js.Perm (aOR n))/\(HW b H0 H1)) (c0-a0) ?_ ?_
  rotate_left
  ·refine⟨a0,c0,lim0,true,true,mT,H0,(by first|omega|rfl|simp),(by simp[bc,hl]),?_⟩;simp only[aY,hl,aa,ae,g0,g1,g2,g3,g4]
   iterate 8 refine cI ?_
   refine⟨?_,?_,?_,?_,?_,?_⟩
   ·first|omega|trivial
   ·first|omega|trivial
   ·first|omega|trivial
   ·first|exact wM|trivial
   ·first|exact sC|trivial
   ·first|exact HW.refl _ _|trivial
  clear hl g0 g1 g2 g3 g4 ts;rintro k_ ts H ⟨a,c,nD,wb,wp,js,H1,rfl,hl,g0,g1,g2,g3,g4,g10,g11,rfl,CV,nh,hcN,hS,hp,hW⟩;refine CvS ?_;clear wM sC;have w0:=wz (z:=(c:Int)-(a:Int)) (m:=c-a);obtain⟨M,hM⟩:∃M:Nat,M=c-a:=⟨_,rfl⟩;refine Cv.ah9 ?_
  iterate 6 refine Cv.ahZ ?_
  iterate 1 refine Cv.avE ?_
  refine Cv.cut (fun ts H=>∃a:Nat,∃c:Nat,∃nD:Int,∃wb:Bool,∃wp:Bool,∃m:Nat,∃js,∃H1,ts.length=148/\gt ts 0=D/\gt ts 1=.int .i64 (a:Int)/\gt ts 2=.int .i64 (c:Int)/\gt ts 3=.int .i64 nD/\gt ts 4=.func g [] []/\gt ts 10=.bool wb/\gt ts 11=.bool wp/\gt ts 12=.int .i64 ((c-a:Nat):Int)/\gt ts 13=.int .i64 (m:Int)/\H=H1/\(a+12<c)/\(c<=n)/\(c-a<=N)/\(c-a<=M)/\(a<=m)/\(m<c)/\(SR H1 b row js)/\(js.Perm (aOR n))/\(HW b H0 H1)) ?_ ?_
  ·iterate 3 refine Cv.avE ?_
   refine Cv.cut (fun ts H=>∃a:Nat,∃c:Nat,∃nD:Int,∃wb:Bool,∃wp:Bool,∃js,∃H1,ts.length=148/\gt ts 0=D/\gt ts 1=.int .i64 (a:Int)/\gt ts 2=.int .i64 (c:Int)/\gt ts 3=.int .i64 nD/\gt ts 4=.func g [] []/\gt ts 10=.bool wb/\gt ts 11=.bool wp/\gt ts 12=.int .i64 ((c-a:Nat):Int)/\H=H1/\(a+12<c)/\(c<=n)/\(c-a<=N)/\(c-a<=M)/\(SR H1 b row js)/\(js.Perm (aOR n))/\(HW b H0 H1)) ?_ ?_
   ·refine V.cv ?_;by_cases h12:c-a<=12
    ·have d1:decide (((c-a:Nat):Int)<=12)=true:=bj;obtain⟨r,H2,e1,rfl,Bd,JF,zK,G2⟩:=SI (E:=E) (kc:=kc) I0 R hg hc hS hp hn CV nh;simp only[↓aL,aM,↓aS,aJ,aa,ae,hl,g0,hD,g1,g2,g4,w0,d1,e1];exact⟨rfl,hW.trans Bd,JF,zK,G2⟩
    have d1:decide (((c-a:Nat):Int)<=12)=false:=bh (by omega);by_cases h0:nD=0
    ·have d2:(nD==0)=true:=by simp[h0]
     obtain⟨r,H2,e1,rfl,Bd,JF,zK,G2⟩:=Nd (E:=E) (kc:=kc) I0 R hg hc hS hp hn (a:=a) (c:=c) (by omega) nh;simp only[↓aL,aM,↓aS,aJ,aa,ae,hl,g0,hD,g1,g2,g3,g4,w0,d1,d2,e1];exact⟨rfl,hW.trans Bd,JF,zK,G2⟩
    have d2:(nD==0)=false:=by simp[h0]
    cases wb
    ·obtain⟨r,H2,e1,rfl,Bd,JF,zK,G2⟩:=SH (E:=E) (kc:=kc) I0 R hg hc hS hp hn (a:=a) (c:=c) (by omega) nh zO;simp only[↓aL,aM,↓aS,aJ,aa,ae,hl,g0,hD,g1,g2,g3,g4,g10,w0,d1,d2,e1];refine iW ?_;refine⟨a,c,aW .i64 (nD-1),false,wp,JF,H2,(by simp[bc,hl]),?_⟩;simp only[aY,hl,aa,ae,g0,g1,g2,g4,g10,g11]
     iterate 9 refine cI ?_
     refine⟨?_,?_,?_,?_,?_,?_,?_⟩
     ·omega
     ·exact nh
     ·omega
     ·omega
     ·exact zK
     ·exact G2
     ·exact hW.trans Bd
    ·simp only[↓aL,aM,aa,ae,hl,g1,g2,g3,g10,w0,d1,d2];refine iW ?_;refine⟨a,c,nD,true,wp,js,H,(by simp[bc,hl]),?_⟩;simp only[aY,hl,aa,ae,g0,g1,g2,g3,g4,g10,g11]
     iterate 9 refine cI ?_
     refine⟨?_,?_,?_,?_,?_,?_,?_⟩
     ·omega
     ·exact nh
     ·omega
     ·omega
     ·exact hS
     ·exact hp
     ·exact hW
   clear hl g0 g1 g2 g3 g4 g10 g11 ts;rintro ts H ⟨a,c,nD,wb,wp,js,H1,hl,g0,g1,g2,g3,g4,g10,g11,g12,rfl,CV,nh,hcN,hcM,hS,hp,hW⟩;obtain⟨r,H2,e1,m,h,LP,Eb,hh,rfl,Bd,zK⟩:=SN (E:=E) (kc:=kc) I0 R hg hc hS hp hn CV nh;rcases hh with rfl|rfl|rfl
   ·cases wb
    ·simp only[↓aL,aM,↓aS,aJ,aa,ae,aD,hl,g0,hD,g1,g2,g4,g10,e1];refine iW ?_;refine⟨a,c,nD,false,wp,m,js,H2,(by simp[bc,hl]),?_⟩;simp only[aY,hl,aa,ae,g0,g1,g2,g3,g4,g10,g11]
     iterate 10 refine cI ?_
     refine⟨?_,?_,?_,?_,?_,?_,?_,?_,?_⟩
     ·omega
     ·exact nh
     ·omega
     ·omega
     ·omega
     ·omega
     ·exact zK
     ·exact hp
     ·exact(hW.trans Bd)
    cases wp
    ·simp only[↓aL,aM,↓aS,aJ,aa,ae,aD,hl,g0,hD,g1,g2,g4,g10,g11,e1];refine iW ?_;refine⟨a,c,nD,true,false,m,js,H2,(by simp[bc,hl]),?_⟩;simp only[aY,hl,aa,ae,g0,g1,g2,g3,g4,g10,g11]
     iterate 10 refine cI ?_
     refine⟨?_,?_,?_,?_,?_,?_,?_,?_,?_⟩
     ·omega
     ·exact nh
     ·omega
     ·omega
     ·omega
     ·omega
     ·exact zK
     ·exact hp
     ·exact(hW.trans Bd)
    simp only[↓aL,aM,↓aS,aJ,aa,ae,aD,hl,g0,hD,g1,g2,g4,g10,g11,e1];refine iW ?_;refine⟨a,c,nD,true,true,m,js,H2,(by simp[bc,hl]),?_⟩;simp only[aY,hl,aa,ae,g0,g1,g2,g3,g4,g10,g11]
    iterate 10 refine cI ?_
    refine⟨?_,?_,?_,?_,?_,?_,?_,?_,?_⟩
    ·omega
    ·exact nh
    ·omega
    ·omega
    ·omega
    ·omega
    ·exact zK
    ·exact hp
    ·exact(hW.trans Bd)
   ·cases wb
    ·simp only[↓aL,aM,↓aS,aJ,aa,ae,aD,hl,g0,hD,g1,g2,g4,g10,e1];refine iW ?_;refine⟨a,c,nD,false,wp,m,js,H2,(by simp[bc,hl]),?_⟩;simp only[aY,hl,aa,ae,g0,g1,g2,g3,g4,g10,g11]
     iterate 10 refine cI ?_
     refine⟨?_,?_,?_,?_,?_,?_,?_,?_,?_⟩
     ·omega
     ·exact nh
     ·omega
     ·omega
     ·omega
     ·omega
     ·exact zK
     ·exact hp
     ·exact(hW.trans Bd)
    cases wp
    ·simp only[↓aL,aM,↓aS,aJ,aa,ae,aD,hl,g0,hD,g1,g2,g4,g10,g11,e1];refine iW ?_;refine⟨a,c,nD,true,false,m,js,H2,(by simp[bc,hl]),?_⟩;simp only[aY,hl,aa,ae,g0,g1,g2,g3,g4,g10,g11]
     iterate 10 refine cI ?_
     refine⟨?_,?_,?_,?_,?_,?_,?_,?_,?_⟩
     ·omega
     ·exact nh
     ·omega
     ·omega
     ·omega
     ·omega
     ·exact zK
     ·exact hp
     ·exact(hW.trans Bd)
    obtain⟨r7,H7,e7,bb,rfl,-,hW7,js7,hS7,hp7⟩:=FI (E:=E) (kc:=kc) I0 R hg hc zK hp hn (a:=a) (c:=c) (by omega) nh;cases bb
    ·simp only[↓aL,aM,↓aS,aJ,aa,ae,aD,hl,g0,hD,g1,g2,g4,g10,g11,e1,e7];refine iW ?_;refine⟨a,c,nD,true,true,m,js7,H7,(by simp[bc,hl]),?_⟩;simp only[aY,hl,aa,ae,g0,g1,g2,g3,g4,g10,g11]
     iterate 10 refine cI ?_
     refine⟨?_,?_,?_,?_,?_,?_,?_,?_,?_⟩
     ·omega
     ·exact nh
     ·omega
     ·omega
     ·omega
     ·omega
     ·exact hS7
     ·exact hp7
     ·exact(((hW.trans Bd)).trans hW7)
    ·simp only[↓aL,aM,↓aS,aJ,aa,ae,aD,hl,g0,hD,g1,g2,g4,g10,g11,e1,e7];exact⟨rfl,((hW.trans Bd)).trans hW7,js7,hS7,hp7⟩
   ·obtain⟨r3,H3,e3,rfl,nS,qf,o7,mR⟩:=SO (E:=E) (kc:=kc) I0 R hg hc zK hp hn (a:=a) (c:=c) (by omega) nh;have w1:=wz (z:=(c:Int)-1) (m:=c-1);have w2:=wz (z:=(m:Int)-(a:Int)) (m:=m-a);have w3:=wz (z:=((c-1:Nat):Int)-((m-a:Nat):Int)) (m:=c-1-(m-a));cases wb
    ·simp only[↓aL,aM,↓aS,aJ,aa,ae,hl,g0,hD,g1,g2,g4,g10,e1,w1,w2,w3,e3];refine iW ?_;refine⟨a,c,nD,false,wp,c-1-(m-a),qf,H3,(by simp[bc,hl]),?_⟩;simp only[aY,hl,aa,ae,g0,g1,g2,g3,g4,g10,g11]
     iterate 10 refine cI ?_
     refine⟨?_,?_,?_,?_,?_,?_,?_,?_,?_⟩
     ·omega
     ·exact nh
     ·omega
     ·omega
     ·omega
     ·omega
     ·exact o7
     ·exact mR
     ·exact((hW.trans Bd).trans nS)
    cases wp
    ·simp only[↓aL,aM,↓aS,aJ,aa,ae,hl,g0,hD,g1,g2,g4,g10,g11,e1,w1,w2,w3,e3];refine iW ?_;refine⟨a,c,nD,true,false,c-1-(m-a),qf,H3,(by simp[bc,hl]),?_⟩;simp only[aY,hl,aa,ae,g0,g1,g2,g3,g4,g10,g11]
     iterate 10 refine cI ?_
     refine⟨?_,?_,?_,?_,?_,?_,?_,?_,?_⟩
     ·omega
     ·exact nh
     ·omega
     ·omega
     ·omega
     ·omega
     ·exact o7
     ·exact mR
     ·exact((hW.trans Bd).trans nS)
    obtain⟨r7,H7,e7,bb,rfl,-,hW7,js7,hS7,hp7⟩:=FI (E:=E) (kc:=kc) I0 R hg hc o7 mR hn (a:=a) (c:=c) (by omega) nh;cases bb
    ·simp only[↓aL,aM,↓aS,aJ,aa,ae,hl,g0,hD,g1,g2,g4,g10,g11,e1,w1,w2,w3,e3,e7];refine iW ?_;refine⟨a,c,nD,true,true,c-1-(m-a),js7,H7,(by simp[bc,hl]),?_⟩;simp only[aY,hl,aa,ae,g0,g1,g2,g3,g4,g10,g11]
     iterate 10 refine cI ?_
     refine⟨?_,?_,?_,?_,?_,?_,?_,?_,?_⟩
     ·omega
     ·exact nh
     ·omega
     ·omega
     ·omega
     ·omega
     ·exact hS7
     ·exact hp7
     ·exact((((hW.trans Bd).trans nS)).trans hW7)
    ·simp only[↓aL,aM,↓aS,aJ,aa,ae,hl,g0,hD,g1,g2,g4,g10,g11,e1,w1,w2,w3,e3,e7];exact⟨rfl,(((hW.trans Bd).trans nS)).trans hW7,js7,hS7,hp7⟩
  clear hl g0 g1 g2 g3 g4 g10 g11 ts;rintro ts H ⟨a,c,nD,wb,wp,m,js,H1,hl,g0,g1,g2,g3,g4,g10,g11,g12,g13,rfl,CV,nh,hcN,hcM,hma,Uq,hS,hp,hW⟩;have q8:∀{cc:Bool} {t:Nat},cp E cc .quo t (.int .i64 ((c-a:Nat):Int)) (.int .i64 8)=some (.int .i64 (((c-a)/8:Nat):Int)):=fun{cc t}=>aeo (d:=8)
  by_cases ha:0<a
  rotate_left
  ·have da:decide ((a:Int)>0)=false:=bh (by omega);obtain⟨r4,H4,e4,k,bb,hk1,Be,rfl,-,hW4,js4,hS4,G3⟩:=C8 (E:=E) (kc:=kc) I0 R hg hc hS hp hn (a:=a) (c:=c) (pv:=m) (by omega) nh;have x1:=wz (z:=(k:Int)-(a:Int)) (m:=k-a);have x2:=wz (z:=(c:Int)-(k:Int)) (m:=c-k);have x3:=wz (z:=(k:Int)+1) (m:=k+1);by_cases hlr:k-a<c-k
   ·have dl:decide (((k-a:Nat):Int)<((c-k:Nat):Int))=true:=bj;obtain⟨r5,H5,e5,rfl,hW5,js5,hS5,hp5⟩:=IH (k-a) (by omega) (lim0:=nD) hS4 G3 hk1 (by omega) (aLt _);simp only[↓aL,aM,↓aS,aJ,aa,ah,ae,hl,g0,hD,g1,g2,g3,g4,g12,g13,q8,x1,x2,x3,dl,e4,e5,da];refine bI ?_;refine⟨_,?_,k+1,c,nD,decide (((k-a:Nat):Int)≥(((c-a)/8:Nat):Int)),bb,js5,H5,rfl,(by simp[bc,hl]),?_⟩
    ·first|omega|(simp;omega)
    simp only[aY,hl,aa,ae,g0,g2,g3,g4]
    iterate 8 refine cI ?_
    refine⟨?_,?_,?_,?_,?_,?_⟩
    ·omega
    ·exact nh
    ·omega
    ·exact hS5
    ·exact hp5
    ·exact(hW.trans hW4).trans hW5
   ·have dl:decide (((k-a:Nat):Int)<((c-k:Nat):Int))=false:=bh (by omega);obtain⟨r5,H5,e5,rfl,hW5,js5,hS5,hp5⟩:=IH (c-(k+1)) (by omega) (lim0:=nD) hS4 G3 (a0:=k+1) (by omega) nh (aLt _);simp only[↓aL,aM,↓aS,aJ,aa,ah,ae,hl,g0,hD,g1,g2,g3,g4,g12,g13,q8,x1,x2,x3,dl,e4,e5,da];refine bI ?_;refine⟨_,?_,a,k,nD,decide (((c-k:Nat):Int)≥(((c-a)/8:Nat):Int)),bb,js5,H5,rfl,(by simp[bc,hl]),?_⟩
    ·first|omega|(simp;omega)
    simp only[aY,hl,aa,ae,g0,g1,g3,g4]
    iterate 8 refine cI ?_
    refine⟨?_,?_,?_,?_,?_,?_⟩
    ·omega
    ·omega
    ·omega
    ·exact hS5
    ·exact hp5
    ·exact(hW.trans hW4).trans hW5
  have da:decide ((a:Int)>0)=true:=bj;have wa:=wz (z:=(a:Int)-1) (m:=a-1);obtain⟨hx,lx⟩:=FX R hS hp (i:=a-1) (by omega);obtain⟨hy,ly⟩:=FX R hS hp (i:=m) (by omega);have c1:=eP (i:=a-1) (n:=n);have c2:=eP (i:=m) (n:=n);have iU:=hc _ _ hx hy;generalize G6:cz (js.getD (a-1) 0) (js.getD m 0)=zz at iU;by_cases hz:zz<0
  ·have dz:decide (zz<0)=true:=bj hz;obtain⟨r4,H4,e4,k,bb,hk1,Be,rfl,-,hW4,js4,hS4,G3⟩:=C8 (E:=E) (kc:=kc) I0 R hg hc hS hp hn (a:=a) (c:=c) (pv:=m) (by omega) nh;have x1:=wz (z:=(k:Int)-(a:Int)) (m:=k-a);have x2:=wz (z:=(c:Int)-(k:Int)) (m:=c-k);have x3:=wz (z:=(k:Int)+1) (m:=k+1);by_cases hlr:k-a<c-k
   ·have dl:decide (((k-a:Nat):Int)<((c-k:Nat):Int))=true:=bj;obtain⟨r5,H5,e5,rfl,hW5,js5,hS5,hp5⟩:=IH (k-a) (by omega) (lim0:=nD) hS4 G3 hk1 (by omega) (aLt _);simp only[↓aL,aM,↓aS,aJ,↓reduceIte,aa,ah,ae,hl,g0,hD,g1,g2,g3,g4,g12,g13,q8,x1,x2,x3,dl,e4,e5,da,wa,lx,ly,c1,c2,kg,iU,pr,dz];refine bI ?_;refine⟨_,?_,k+1,c,nD,decide (((k-a:Nat):Int)≥(((c-a)/8:Nat):Int)),bb,js5,H5,rfl,(by simp[bc,hl]),?_⟩
    ·first|omega|(simp;omega)
    simp only[aY,hl,aa,ae,g0,g2,g3,g4]
    iterate 8 refine cI ?_
    refine⟨?_,?_,?_,?_,?_,?_⟩
    ·omega
    ·exact nh
    ·omega
    ·exact hS5
    ·exact hp5
    ·exact(hW.trans hW4).trans hW5
   ·have dl:decide (((k-a:Nat):Int)<((c-k:Nat):Int))=false:=bh (by omega);obtain⟨r5,H5,e5,rfl,hW5,js5,hS5,hp5⟩:=IH (c-(k+1)) (by omega) (lim0:=nD) hS4 G3 (a0:=k+1) (by omega) nh (aLt _);simp only[↓aL,aM,↓aS,aJ,↓reduceIte,aa,ah,ae,hl,g0,hD,g1,g2,g3,g4,g12,g13,q8,x1,x2,x3,dl,e4,e5,da,wa,lx,ly,c1,c2,kg,iU,pr,dz];refine bI ?_;refine⟨_,?_,a,k,nD,decide (((c-k:Nat):Int)≥(((c-a)/8:Nat):Int)),bb,js5,H5,rfl,(by simp[bc,hl]),?_⟩
    ·first|omega|(simp;omega)
    simp only[aY,hl,aa,ae,g0,g1,g3,g4]
    iterate 8 refine cI ?_
    refine⟨?_,?_,?_,?_,?_,?_⟩
    ·omega
    ·omega
    ·omega
    ·exact hS5
    ·exact hp5
    ·exact(hW.trans hW4).trans hW5
  have dz:decide (zz<0)=false:=bh hz;obtain⟨r4,H4,e4,k,hk1,Be,rfl,-,hW4,js4,hS4,G3⟩:=SM (E:=E) (kc:=kc) I0 R hg hc hS hp hn (a:=a) (c:=c) (pv:=m) (by omega) nh (by omega);simp only[↓aL,aM,↓aS,aJ,↓reduceIte,aa,ah,ae,hl,g0,hD,g1,g2,g4,g13,da,wa,lx,ly,c1,c2,kg,iU,pr,dz,e4];refine bI ?_;refine⟨_,?_,k,c,nD,wb,wp,js4,H4,rfl,(by simp[bc,hl]),?_⟩
  ·first|omega|(simp;omega)
  simp only[aY,hl,aa,ae,g0,g2,g3,g4,g10,g11]
  iterate 8 refine cI ?_
  refine⟨?_,?_,?_,?_,?_,?_⟩
  ·omega
  ·exact nh
  ·omega
  ·exact hS4
  ·exact G3
  ·exact hW.trans hW4
def Db{K u0 u1 u2 u3 u4 u5 u6 u7 u8 u9 vC sN sG sH:Nat}(I:lf K u0 u1 u2 u3 u4 u5 u6 u7 u8 u9 vC sN sG sH){b n kc g:Nat}{row:Nat->List AV}{cz:Nat->Nat->Int}{H0:Hp}(R:qX K row)(hg:bF E g=false)(hc:∀p q,p<n->q<n->aP E g [.agg (row p),.agg (row q)]=some (.int .i64 (cz p q)))(zO:n<128)(hS:SR H0 b row (aOR n)):
  ∃r H',cV E sH [.aI b 0 n K kc,.func g [] []] H0=some (r,H')/\pY b n row H0 r H':=by
 obtain⟨D,hD⟩:∃D,D=AV.aI b 0 n K kc:=⟨_,rfl⟩;have I0:=I;cases I
 all_goals
  have AA:=De (E:=E) zO;have w1:aW .u64 (n:Int)=(n:Int):=wrap_u64;obtain⟨r1,H1,e1,rfl,hh⟩:=SL (E:=E) (kc:=kc) I0 R hg hc zO n (lim0:=((bl n:Nat):Int)) hS (List.Perm.refl _) (Nat.zero_le n) (aLt n) (by omega);rw[show(((0:Nat):Int))=0 from rfl]at e1;refine gi2 (gd C) (by rw[C.fn];first|with_reducible exact agi|with_reducible exact agh) (by decide) ?_;intro ts hl g0 g1;rw[<-hD]at g0
  first|unfold aio|unfold aim
  simp only[↓aL,aM,↓aS,aJ,aa,ae,Tryz.f168,Tryz.f161,↓ef Uw yx,hl,g0,hD,g1,AA,w1,e1];exact⟨rfl,hh⟩
def Nf{K u0 u1 u2 u3 u4 u5 u6 u7 u8 u9 vC sN sG sH:Nat}(I:lf K u0 u1 u2 u3 u4 u5 u6 u7 u8 u9 vC sN sG sH){g:Nat}{H0:Hp}:
  ∃r H',cV E u0 [.aH,.int .i64 0,.int .i64 0,.func g [] []] H0=some (r,H')/\r=.tuple []/\H'=H0:=by
 have I0:=I;cases I
 all_goals
  have w1:aW .i64 ((0:Int)+1)=1:=by decide
  refine gi4 (gd C) (by rw[C.fn];first|with_reducible exact agn|with_reducible exact agm) (by decide) ?_;intro ts hl g0 g1 g2 g3
  first|unfold aiN|unfold aiM
  simp only[↓aL,aM,aa,Tryz.f251,Tryz.f242,aA,hl,g1];refine cC (fun k_ ts H=>∃i:Nat,k_=0/\ts.length=53/\gt ts 0=.aH/\gt ts 1=.int .i64 0/\gt ts 2=.int .i64 0/\gt ts 3=.func g [] []/\gt ts 8=.int .i64 1/\H=H0/\(i=0)) (0) ?_ ?_
  rotate_left
  ·refine⟨0,(by first|omega|rfl|simp),(by simp[bc,hl]),?_⟩;simp only[aY,hl,aa,ae,g0,g1,g2,g3]
   iterate 6 refine cI ?_
   first|trivial|omega|(simp;done)
  clear hl g0 g1 g2 g3 ts;rintro k_ ts H ⟨i,rfl,hl,g0,g1,g2,g3,g8,rfl,hi⟩;refine VS ?_;simp only[↓aL,aM,↓reduceIte,aa,ae,aq,hl,g2,g8];exact rfl
def Ni{K u0 u1 u2 u3 u4 u5 u6 u7 u8 u9 vC sN sG sH:Nat}(I:lf K u0 u1 u2 u3 u4 u5 u6 u7 u8 u9 vC sN sG sH){g:Nat}{z:Int}{H0:Hp}:
  ∃r H',cV E sG [.aH,.int .i64 0,.int .i64 0,.int .i64 z,.func g [] []] H0=some (r,H')/\r=.tuple []/\H'=H0:=by
 have I0:=I;cases I
 all_goals
  have w1:aW .i64 (0:Int)=0:=by decide
  have w2:aW .i64 ((0:Int)-0)=0:=by decide
  obtain⟨r,H2,e1,rfl,rfl⟩:=Nf (E:=E) I0 (g:=g) (H0:=H0);refine gi5 (gd C) (by rw[C.fn];first|with_reducible exact agk|with_reducible exact agj) (by decide) ?_;intro ts hl g0 g1 g2 g3 g4
  first|unfold aiK|unfold aiI
  simp only[↓aL,aM,Tryz.f212,Tryz.f209];refine cC (fun k_ ts H=>∃i:Nat,k_=0/\ts.length=148/\gt ts 0=.aH/\gt ts 1=.int .i64 0/\gt ts 2=.int .i64 0/\gt ts 3=.int .i64 z/\gt ts 4=.func g [] []/\gt ts 10=.bool true/\gt ts 11=.bool true/\H=H2/\(i=0)) (0) ?_ ?_
  rotate_left
  ·refine⟨0,(by first|omega|rfl|simp),(by simp[bc,hl]),?_⟩;simp only[aY,hl,aa,ae,g0,g1,g2,g3,g4]
   iterate 8 refine cI ?_
   first|trivial|omega|(simp;done)
  clear hl g0 g1 g2 g3 g4 ts;rintro k_ ts H ⟨i,rfl,hl,g0,g1,g2,g3,g4,g10,g11,rfl,hi⟩;refine VS ?_;simp only[↓aL,aM,↓aS,aJ,aa,ae,an,az,hl,g0,g1,g2,g4,w1,e1];exact rfl
def AE{K u0 u1 u2 u3 u4 u5 u6 u7 u8 u9 vC sN sG sH:Nat}(I:lf K u0 u1 u2 u3 u4 u5 u6 u7 u8 u9 vC sN sG sH){g:Nat}{H0:Hp}:
  ∃r H',cV E sH [.aH,.func g [] []] H0=some (r,H')/\r=.tuple []/\H'=H0:=by
 have I0:=I;cases I
 all_goals
  have AA:=De (E:=E) (m:=0) (by omega);rw[show((0:Nat):Int)=0 from rfl]at AA;have w1:aW .u64 (0:Int)=0:=by decide
  obtain⟨r1,H1,e1,rfl,rfl⟩:=Ni (E:=E) I0 (g:=g) (H0:=H0) (z:=((bl 0:Nat):Int));refine gi2 (gd C) (by rw[C.fn];first|with_reducible exact agi|with_reducible exact agh) (by decide) ?_;intro ts hl g0 g1
  first|unfold aio|unfold aim
  simp only[↓aL,aM,↓aS,aJ,aa,ae,Tryz.f168,Tryz.f161,↓ef Uw yx,hl,g0,g1,AA,w1,e1];exact rfl
def gf{cs:List AV}{n:Nat}(h:0<n:=by omega):lW cs n=.aK cs n:=by unfold lW;rw[if_neg (by omega)]
def nV{cs:List AV}{n:Nat}:lH (lW cs n)=some (n:Int):=by
 unfold lW;split
 ·rename_i h;subst h;rfl
 ·rfl
def yR{cs:List AV}{n:Nat}:Flat (lW cs n):=by
 unfold lW;split<;>exact fun _ _=>rfl
def afe{cs:List AV}{n:Nat}:Flat (.aK cs n):=fun _ _=>rfl
def mE{cs:List AV}{n:Nat}:cN (lW cs n)=true:=by unfold lW;split<;>rfl
def TP{cs:List AV}{n:Nat}:(lW cs n).cells=[lW cs n]:=by unfold lW;split<;>rfl
def rE{b:Bool}:cN (.bool b)=true:=rfl
def sX{E:Env}{t s wE aR b:Nat}{ag:Bool}{z x:List AV}{H:Hp}{st:qW}(hS:ew E t=some (ag,s,wE,z))(hs:0<s)(hb:H[b]?=some (.cells st x))(hd:st≠ .dead)(hx:x.length=s)(hxo:x.all cN=true)(hr:1*wE<=fH):
  bM E H aR .append [t,t] [.aH,.aI b 0 1 s 1]=some (.aI aR 0 1 s 1,[(aR,.cells .live x)]):=by
 obtain⟨i,e,ei,h1,h2,h3,h4,h5,h6,h7⟩:=kn hS;obtain⟨cD,jA,jS,jB,jZ,dK⟩:=i;simp only at h2;subst h2 h5 h6;have ph:sD H ei false (.aI b 0 1 ei.size 1)=some (1,x):=by
  have ht:List.take (1*ei.size) x=x:=by rw[aTj,<-hx,aPo]
  simp[sD,mU,oM,iI,hb,hd,hx];rw[<-hx,aPo]
 have Xg:bM E H aR .append [t,t] [.aH,.aI b 0 1 ei.size 1]=er E H aR false t .aH (.aI b 0 1 ei.size 1):=by simp[bM,h1]
 rw[Xg];unfold er;simp only[h1,h3,ph];rw[if_neg (by omega),if_neg (by rw[hxo,h7];simp;omega),if_pos ⟨by omega,by omega⟩]
def B8{E:Env}{t s wE b n aR:Nat}{ag:Bool}{z x cs:List AV}{H:Hp}(hS:ew E t=some (ag,s,wE,z))(hs:0<s)(LQ:0<n)(hb:H[b]?=some (.cells .live cs))(pN:cs.length=n*s){c:Nat}{st:qW}(hc:H[c]?=some (.cells st x))(hd:st≠ .dead)(hx:x.length=s)(hxo:x.all cN=true)(hr:(n+1)*wE<=fH)(hn:n+1<=4611686018427387904:=by omega):
  bM E H aR .append [t,t] [.aI b 0 n s n,.aI c 0 1 s 1]=some (.aI aR 0 (n+1) s (n+1),[(b,.cells .dead []),(aR,.cells .live (cs++x))]):=by
 obtain⟨i,e,ei,h1,h2,h3,h4,h5,h6,h7⟩:=kn hS;obtain⟨cD,jA,jS,jB,jZ,dK⟩:=i;simp only at h2;subst h2 h5 h6;have ph:sD H ei false (.aI c 0 1 ei.size 1)=some (1,x):=by
  have ht:List.take (1*ei.size) x=x:=by rw[aTj,<-hx,aPo]
  simp[sD,mU,oM,iI,hc,hd,hx];rw[<-hx,aPo]
 have Xg:bM E H aR .append [t,t] [.aI b 0 n ei.size n,.aI c 0 1 ei.size 1]=er E H aR false t (.aI b 0 n ei.size n) (.aI c 0 1 ei.size 1):=by simp[bM,h1]
 rw[Xg];unfold er;simp only[h1,h3,ph];rw[if_neg (by omega),if_neg (by rw[hxo,h7];simp;omega)];simp only[hb];rw[if_neg (by omega),if_pos ⟨trivial,by omega,by omega,by omega⟩,List.drop_zero,<-pN,aPo]
def ahW{E:Env}{t s wE d aR:Nat}{ag:Bool}{z x cs:List AV}{n:Nat}{v:AV}{G:Hp}{st:qW}(hS:ew E t=some (ag,s,wE,z))(hs:0<s)(h:uy s 0 v G n cs)(pN:cs.length=n*s)(hd:G[d]?=some (.cells st x))(dx:st≠ .dead)(az0:aR=G.length)(hx:x.length=s)(hxo:x.all cN=true)(hr:(n+1)*wE<=fH)(hn:n+1<=4611686018427387904):
  ∃bJ H2,bM E G aR .append [t,t] [v,.aI d 0 1 s 1]=some (.aI aR 0 (n+1) s (n+1),bJ)/\(cF.bJ bJ).app G=H2/\H2[aR]?=some (.cells .live (cs++x))/\H2.length=aR+1/\(∀k,k<aR->(∀m,v≠ .aI k 0 m s m)->H2[k]?=G[k]?):=by
 subst az0;rcases h with⟨rfl,rfl,rfl⟩|⟨LQ,b,mP,vN,rfl,hb3⟩
 ·refine⟨_,_,sX hS hs hd dx hx hxo (by simpa using hr),rfl,?_,?_,?_⟩
  ·rw[cu,eK,List.nil_append];simp
  ·rw[cu,eK];simp
  ·intro k hk _;rw[cu,eK,aOr (by omega)]
 ·refine⟨_,_,B8 hS hs LQ hb3 pN hd dx hx hxo hr hn,rfl,?_,?_,?_⟩
  ·rw[mB,dT vN,show G.length=(G.set b (.cells .dead [])).length by simp,eK];simp
  ·rw[mB,dT vN,show G.length=(G.set b (.cells .dead [])).length by simp,eK];simp
  ·intro k hk Be;have hkb:b≠k:=by rintro rfl;exact Be n rfl
   rw[mB,dT vN,show G.length=(G.set b (.cells .dead [])).length by simp,eK,aOr (by simpa using hk),aOj hkb]
def uy.Rf{s low n:Nat}{v:AV}{H:Hp}{cs:List AV}(h:uy s low v H n cs)(hp:aU v=true):lW cs n=v:=by
 rcases h with⟨rfl,rfl,rfl⟩|⟨h0,b,h1,h2,rfl,h3⟩
 ·rfl
 ·cases hp
def uy.fr{s low n:Nat}{v:AV}{H:Hp}{cs As:List AV}{m:Nat}{bl:List Nat}(h:uy s low v H n cs)(hl:cs.length=n*s)(hf:ft H m cs As bl):∃bs,Fr H (m+1) v (lW As n) bs:=by
 rcases h with⟨rfl,rfl,rfl⟩|⟨h0,b,h1,h2,rfl,h3⟩
 ·exact⟨[],(Fr.flat CK).up (by omega)⟩
 ·refine⟨b::bl,?_⟩;rw[gf h0];exact Fr.hsA h3 (by decide) hl hf
def uy.KH{s low n:Nat}{v:AV}{H:Hp}{cs:List AV}(h:uy s low v H n cs)(hn:0<n):aU v=false:=by
 rcases h with⟨rfl,rfl,rfl⟩|⟨h0,b,h1,h2,rfl,h3⟩
 ·omega
 ·rfl
end Go.Proofs.YtmkjgfnicfpjpaaGreatDoor
