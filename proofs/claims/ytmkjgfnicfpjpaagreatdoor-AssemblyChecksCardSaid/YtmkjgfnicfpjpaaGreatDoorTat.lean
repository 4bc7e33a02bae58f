/- Lemmas for AssemblyChecks; no condition. -/
import Derived.Test.YtmkjgfnicfpjpaaGreatDoorTas
set_option linter.all false
set_option maxHeartbeats 100000000
set_option maxRecDepth 100000
noncomputable section
open List renaming range->aN1,getElem?_append_left->aNB,getElem?_eq_some_iff->aKB,getElem?_set_self->aNv,length_append->aLk,getElem?_append_right->aTh,length_set->aPI,getElem?_set_ne->aNt
open Nat renaming reduceLT->aa,reduceEqDiff->ae,reduceAdd->ah
namespace Go.Proofs.YtmkjgfnicfpjpaaGreatDoor
open Go Dv
variable{E:Env}[C:Ctx E]
def FK{K u0 u1 u2 u3 u4 u5 u6 u7 u8 u9 vg sH sA sB:Nat}(I:lf K u0 u1 u2 u3 u4 u5 u6 u7 u8 u9 vg sH sA sB){b n kc g:Nat}{row:Nat->List AV}{mQ:List Nat}{H0:Hp}{cz:Nat->Nat->Int}(R:qS K row)(hg:bF E g=false)(hc:∀p q,p<n->q<n->aR E g [.agg (row p),.agg (row q)]=some (.int .i64 (cz p q)))(wF:SR H0 b row mQ)(sy:mQ.Perm (aN1 n))(hn:n<=1000000){a c:Nat}(EC:a<c)(nu:c<=n):
  ∃r H',cR E u4 [.aI b 0 n K kc,.int .i64 (a:Int),.int .i64 (c:Int),.func g [] []] H0=some (r,H')/\∃bb,r=.bool bb/\pP b n row H0 (.tuple []) H':=by
 obtain⟨D,hD⟩:∃D,D=AV.aI b 0 n K kc:=⟨_,rfl⟩;have I0:=I;cases I
 all_goals
  have kU:=fun{dr st:Bool} {bl:List AV} {H:Hp} {k:AV->cC->Prop}=>kH (E:=E) (dr:=dr) (st:=st) (f:=g) (bl:=bl) (H:=H) (k:=k) hg
  have pr:=R.pure;have w0:=wz (z:=(a:Int)+1) (m:=a+1);refine gi4 (fV C) (by rw[C.fn];first|with_reducible exact arP|with_reducible exact arI) (by decide) ?_;intro ts hl g0 g1 g2 g3;rw[<-hD]at g0
  first|unfold apt|unfold apl
  simp only[↓aL,aM,aa,ae,Tryz.f256,Tryz.f247,hl,g1,w0];refine cE (fun k_ ts H=>∃jj:Nat,∃i:Nat,∃js,∃H1,k_=(6-jj:Nat)/\ts.length=141/\gt ts 0=D/\gt ts 1=.int .i64 (a:Int)/\gt ts 2=.int .i64 (c:Int)/\gt ts 3=.func g [] []/\gt ts 9=.int .i64 (i:Int)/\gt ts 10=.int .i64 (jj:Int)/\H=H1/\(jj<=5)/\(a+1<=i)/\(i<=c)/\(SR H1 b row js)/\(js.Perm (aN1 n))/\(HW b H0 H1)) (6) ?_ ?_
  rotate_left
  ·refine⟨0,a+1,mQ,H0,(by first|omega|rfl|simp),(by simp[bc,hl]),?_⟩;simp only[aZ,hl,aa,ae,g0,g1,g2,g3]
   iterate 7 refine cG ?_
   refine⟨?_,?_,?_,?_,?_,?_⟩
   ·first|omega|trivial
   ·first|omega|trivial
   ·first|omega|trivial
   ·first|exact wF|trivial
   ·first|exact sy|trivial
   ·first|exact HW.refl _ _|trivial
  clear hl g0 g1 g2 g3 ts;rintro k_ ts H ⟨jj,i,js,H1,rfl,hl,g0,g1,g2,g3,g9,g10,rfl,hj,hi,Xl,hS,hp,hW⟩;refine VS ?_;by_cases hd:jj<5
  rotate_left
  ·have d1:decide ((jj:Int)<5)=false:=bj;simp only[↓aL,aM,↓reduceIte,aa,hl,g10,d1];exact⟨_,rfl,rfl,hW,js,hS,hp⟩
  have d1:decide ((jj:Int)<5)=true:=bh;have w5:=wz (z:=(jj:Int)+1) (m:=jj+1);simp only[↓aL,aM,aa,hl,g10,d1];refine cE (fun k_ ts H=>∃i:Nat,∃js,∃H1,k_=(c+1-i:Nat)/\ts.length=141/\gt ts 0=D/\gt ts 1=.int .i64 (a:Int)/\gt ts 2=.int .i64 (c:Int)/\gt ts 3=.func g [] []/\gt ts 9=.int .i64 (i:Int)/\gt ts 10=.int .i64 (jj:Int)/\H=H1/\(a+1<=i)/\(i<=c)/\(SR H1 b row js)/\(js.Perm (aN1 n))/\(HW b H0 H1)) (c+1-i) ?_ ?_
  rotate_left
  ·refine⟨i,js,H,(by first|omega|rfl|simp),(by simp[bc,hl]),?_⟩;simp only[aZ,ae,g0,g1,g2,g3,g9,g10]
   iterate 7 refine cG ?_
   refine⟨?_,?_,?_,?_,?_⟩
   ·first|omega|trivial
   ·first|omega|trivial
   ·first|exact hS|trivial
   ·first|exact hp|trivial
   ·first|exact hW|trivial
  clear hl g0 g1 g2 g3 g9 g10 ts;rintro k_ ts H ⟨i,js,H1,rfl,hl,g0,g1,g2,g3,g9,g10,rfl,hi,Xl,hS,hp,hW⟩;refine VS ?_;by_cases FE:i<c
  rotate_left
  ·obtain rfl:i=c:=by omega
   have d2:decide ((i:Int)<(i:Int))=false:=bj;have b2:((i:Int)==(i:Int))=true:=by simp
   simp only[↓aL,aM,aJ,↓reduceIte,aa,ah,ae,hl,g2,g9,d2];exact⟨_,rfl,rfl,hW,js,hS,hp⟩
  have d2:decide ((i:Int)<(c:Int))=true:=bh;have b2:((i:Int)==(c:Int))=false:=by simp;omega
  have w2:=wz (z:=(i:Int)-1) (m:=i-1);have w3:=wz (z:=(i:Int)+1) (m:=i+1);have w4:=wz (z:=(c:Int)-(a:Int)) (m:=c-a);have w6:=wz (z:=(i:Int)-(a:Int)) (m:=i-a);obtain⟨F1,F2,H3,p8,wI,vH,l1,l2,s1,s2,e3,oY,nQ,lN⟩:=kY R hS hp (i:=i) (j:=i-1) (by omega) (by omega);have c1:=eT (i:=i) (n:=n);have c2:=eT (i:=i-1) (n:=n);have iV:=hc _ _ wI vH;generalize C2:cz (js.getD i 0) (js.getD (i-1) 0)=zz at iV;by_cases hz:zz<0
  rotate_left
  ·have dz:decide (zz<0)=false:=bj hz;simp only[↓aL,aM,aJ,↓reduceIte,aa,ah,ae,hl,g0,hD,g2,g3,g9,d2,w2,w3,c1,c2,l1,l2,kU,iV,pr,dz];refine bK ?_;refine⟨_,?_,i+1,js,H,rfl,(by simp[bc,hl]),?_⟩
   ·first|omega|(simp;omega)
   simp only[aZ,hl,aa,ae,g0,g1,g2,g3,g10]
   iterate 7 refine cG ?_
   refine⟨?_,?_,?_,?_,?_⟩
   ·omega
   ·omega
   ·exact hS
   ·exact hp
   ·exact hW
  have dz:decide (zz<0)=true:=bh hz;by_cases h50:c-a<50
  ·have d5:decide (((c-a:Nat):Int)<50)=true:=bh;simp only[↓aL,aM,aJ,↓reduceIte,aa,ah,ae,hl,g0,hD,g1,g2,g3,g9,d2,b2,w2,w4,d5,c1,c2,l1,l2,kU,iV,pr,dz];exact⟨_,rfl,rfl,hW,js,hS,hp⟩
  have d5:decide (((c-a:Nat):Int)<50)=false:=bj;by_cases sD:2<=i-a
  rotate_left
  ·have d6:decide (((i-a:Nat):Int)≥2)=false:=bj;have w8:=wz (z:=(c:Int)-(i:Int)) (m:=c-i);by_cases h3:2<=c-i
   rotate_left
   ·have d8:decide (((c-i:Nat):Int)≥2)=false:=bj;simp only[↓aL,aM,aJ,↓reduceIte,aa,ah,ae,hl,g0,hD,g1,g2,g3,g9,g10,w5,w8,d8,d2,b2,w2,w4,w6,d5,d6,c1,c2,l1,l2,kU,iV,pr,dz,s1,s2,e3];refine bK ?_;refine⟨_,?_,jj+1,i,p8,H3,rfl,(by simp[bc,hl]),?_⟩
    ·first|omega|(simp;omega)
    simp only[aZ,hl,aa,ae,g0,g1,g2,g3,g9]
    iterate 7 refine cG ?_
    refine⟨?_,?_,?_,?_,?_,?_⟩
    ·omega
    ·omega
    ·omega
    ·exact oY
    ·exact lN
    ·exact(hW.trans nQ)
   have d8:decide (((c-i:Nat):Int)≥2)=true:=bh;have w9:=wz (z:=(i:Int)+1) (m:=i+1);simp only[↓aL,aM,aJ,↓reduceIte,aa,ah,ae,hl,g0,hD,g1,g2,g3,g9,w8,w9,d8,d2,b2,w2,w4,w6,d5,d6,c1,c2,l1,l2,kU,iV,pr,dz,s1,s2,e3];refine cE (fun k_ ts H=>∃y:Nat,∃js,∃H1,k_=(c-y:Nat)/\ts.length=141/\gt ts 0=D/\gt ts 1=.int .i64 (a:Int)/\gt ts 2=.int .i64 (c:Int)/\gt ts 3=.func g [] []/\gt ts 9=.int .i64 (i:Int)/\gt ts 10=.int .i64 (jj:Int)/\gt ts 12=.int .i64 (y:Int)/\H=H1/\(i+1<=y)/\(SR H1 b row js)/\(js.Perm (aN1 n))/\(HW b H0 H1)) (c-(i+1)) ?_ ?_
   rotate_left
   ·refine⟨i+1,p8,H3,(by first|omega|rfl|simp),(by simp[bc,hl]),?_⟩;simp only[aZ,hl,aa,ae,g0,g1,g2,g3,g9,g10]
    iterate 8 refine cG ?_
    refine⟨?_,?_,?_,?_⟩
    ·first|omega|trivial
    ·first|exact oY|trivial
    ·first|exact lN|trivial
    ·first|exact(hW.trans nQ)|trivial
   clear hl g0 g1 g2 g3 g9 g10 ts;rintro k_ ts H ⟨y,js,H1,rfl,hl,g0,g1,g2,g3,g9,g10,g12,rfl,hy,hS,hp,hW⟩;refine VS ?_;by_cases hy2:y<c
   rotate_left
   ·have d9:decide ((y:Int)<(c:Int))=false:=bj;simp only[↓aL,aM,↓reduceIte,aa,ae,hl,g2,g10,g12,w5,d9];refine bK ?_;refine⟨_,?_,jj+1,i,js,H,rfl,(by simp[bc,hl]),?_⟩
    ·first|omega|(simp;omega)
    simp only[aZ,hl,aa,ae,g0,g1,g2,g3,g9]
    iterate 7 refine cG ?_
    refine⟨?_,?_,?_,?_,?_,?_⟩
    ·omega
    ·omega
    ·omega
    ·exact hS
    ·exact hp
    ·exact hW
   have d9:decide ((y:Int)<(c:Int))=true:=bh;have w10:=wz (z:=(y:Int)-1) (m:=y-1);have w11:=wz (z:=(y:Int)+1) (m:=y+1);obtain⟨F1,F2,H3,p8,wI,vH,l1,l2,s1,s2,e3,oY,nQ,lN⟩:=kY R hS hp (i:=y) (j:=y-1) (by omega) (by omega);have c1:=eT (i:=y) (n:=n);have c2:=eT (i:=y-1) (n:=n);have iV:=hc _ _ wI vH;generalize C2:cz (js.getD y 0) (js.getD (y-1) 0)=zz at iV;by_cases hz:zz<0
   ·have dz:decide (zz<0)=true:=bh hz;simp only[↓aL,aM,aJ,↓reduceIte,aa,ah,ae,hl,g0,hD,g2,g3,g12,d9,w10,w11,c1,c2,l1,l2,kU,iV,pr,dz,s1,s2,e3];refine bK ?_;refine⟨_,?_,y+1,p8,H3,rfl,(by simp[bc,hl]),?_⟩
    ·first|omega|(simp;omega)
    simp only[aZ,hl,aa,ae,g0,g1,g2,g3,g9,g10]
    iterate 8 refine cG ?_
    refine⟨?_,?_,?_,?_⟩
    ·omega
    ·exact oY
    ·exact lN
    ·exact hW.trans nQ
   ·have dz:decide (zz<0)=false:=bj hz;simp only[↓aL,aM,aJ,↓reduceIte,aa,ah,ae,hl,g0,hD,g2,g3,g10,g12,w5,d9,w10,c1,c2,l1,l2,kU,iV,pr,dz];refine bK ?_;refine⟨_,?_,jj+1,i,js,H,rfl,(by simp[bc,hl]),?_⟩
    ·first|omega|(simp;omega)
    simp only[aZ,hl,aa,ae,g0,g1,g2,g3,g9]
    iterate 7 refine cG ?_
    refine⟨?_,?_,?_,?_,?_,?_⟩
    ·omega
    ·omega
    ·omega
    ·exact hS
    ·exact hp
    ·exact hW
  have d6:decide (((i-a:Nat):Int)≥2)=true:=bh;simp only[↓aL,aM,aJ,↓reduceIte,aa,ah,ae,hl,g0,hD,g1,g2,g3,g9,d2,b2,w2,w4,w6,d5,d6,c1,c2,l1,l2,kU,iV,pr,dz,s1,s2,e3];refine cE (fun k_ ts H=>∃x:Nat,∃js,∃H1,k_=x+1/\ts.length=141/\gt ts 0=D/\gt ts 1=.int .i64 (a:Int)/\gt ts 2=.int .i64 (c:Int)/\gt ts 3=.func g [] []/\gt ts 9=.int .i64 (i:Int)/\gt ts 10=.int .i64 (jj:Int)/\gt ts 11=.int .i64 (x:Int)/\H=H1/\(x<i)/\(SR H1 b row js)/\(js.Perm (aN1 n))/\(HW b H0 H1)) (i-1+1) ?_ ?_
  rotate_left
  ·refine⟨i-1,p8,H3,(by first|omega|rfl|simp),(by simp[bc,hl]),?_⟩;simp only[aZ,hl,aa,ae,g0,g1,g2,g3,g9,g10]
   iterate 8 refine cG ?_
   refine⟨?_,?_,?_,?_⟩
   ·first|omega|trivial
   ·first|exact oY|trivial
   ·first|exact lN|trivial
   ·first|exact hW.trans nQ|trivial
  clear hl g0 g1 g2 g3 g9 g10 ts;rintro k_ ts H ⟨x,js,H1,rfl,hl,g0,g1,g2,g3,g9,g10,g11,rfl,hx,hS,hp,hW⟩;refine VS ?_;by_cases hx1:1<=x
  rotate_left
  ·have d7:decide ((x:Int)≥1)=false:=bj;have w8:=wz (z:=(c:Int)-(i:Int)) (m:=c-i);by_cases h3:2<=c-i
   rotate_left
   ·have d8:decide (((c-i:Nat):Int)≥2)=false:=bj;simp only[↓aL,aM,↓reduceIte,aa,ae,hl,g2,g9,g10,w5,w8,d8,g11,d7];refine bK ?_;refine⟨_,?_,jj+1,i,js,H,rfl,(by simp[bc,hl]),?_⟩
    ·first|omega|(simp;omega)
    simp only[aZ,hl,aa,ae,g0,g1,g2,g3,g9]
    iterate 7 refine cG ?_
    refine⟨?_,?_,?_,?_,?_,?_⟩
    ·omega
    ·omega
    ·omega
    ·exact hS
    ·exact hp
    ·exact hW
   have d8:decide (((c-i:Nat):Int)≥2)=true:=bh;have w9:=wz (z:=(i:Int)+1) (m:=i+1);simp only[↓aL,aM,↓reduceIte,aa,ae,hl,g2,g9,w8,w9,d8,g11,d7];refine cE (fun k_ ts H=>∃y:Nat,∃js,∃H1,k_=(c-y:Nat)/\ts.length=141/\gt ts 0=D/\gt ts 1=.int .i64 (a:Int)/\gt ts 2=.int .i64 (c:Int)/\gt ts 3=.func g [] []/\gt ts 9=.int .i64 (i:Int)/\gt ts 10=.int .i64 (jj:Int)/\gt ts 12=.int .i64 (y:Int)/\H=H1/\(i+1<=y)/\(SR H1 b row js)/\(js.Perm (aN1 n))/\(HW b H0 H1)) (c-(i+1)) ?_ ?_
   rotate_left
   ·refine⟨i+1,js,H,(by first|omega|rfl|simp),(by simp[bc,hl]),?_⟩;simp only[aZ,hl,aa,ae,g0,g1,g2,g3,g9,g10]
    iterate 8 refine cG ?_
    refine⟨?_,?_,?_,?_⟩
    ·first|omega|trivial
    ·first|exact hS|trivial
    ·first|exact hp|trivial
    ·first|exact hW|trivial
   clear hl g0 g1 g2 g3 g9 g10 g11 ts;rintro k_ ts H ⟨y,js,H1,rfl,hl,g0,g1,g2,g3,g9,g10,g12,rfl,hy,hS,hp,hW⟩;refine VS ?_;by_cases hy2:y<c
   rotate_left
   ·have d9:decide ((y:Int)<(c:Int))=false:=bj;simp only[↓aL,aM,↓reduceIte,aa,ae,hl,g2,g10,g12,w5,d9];refine bK ?_;refine⟨_,?_,jj+1,i,js,H,rfl,(by simp[bc,hl]),?_⟩
    ·first|omega|(simp;omega)
    simp only[aZ,hl,aa,ae,g0,g1,g2,g3,g9]
    iterate 7 refine cG ?_
    refine⟨?_,?_,?_,?_,?_,?_⟩
    ·omega
    ·omega
    ·omega
    ·exact hS
    ·exact hp
    ·exact hW
   have d9:decide ((y:Int)<(c:Int))=true:=bh;have w10:=wz (z:=(y:Int)-1) (m:=y-1);have w11:=wz (z:=(y:Int)+1) (m:=y+1);obtain⟨F1,F2,H3,p8,wI,vH,l1,l2,s1,s2,e3,oY,nQ,lN⟩:=kY R hS hp (i:=y) (j:=y-1) (by omega) (by omega);have c1:=eT (i:=y) (n:=n);have c2:=eT (i:=y-1) (n:=n);have iV:=hc _ _ wI vH;generalize C2:cz (js.getD y 0) (js.getD (y-1) 0)=zz at iV;by_cases hz:zz<0
   ·have dz:decide (zz<0)=true:=bh hz;simp only[↓aL,aM,aJ,↓reduceIte,aa,ah,ae,hl,g0,hD,g2,g3,g12,d9,w10,w11,c1,c2,l1,l2,kU,iV,pr,dz,s1,s2,e3];refine bK ?_;refine⟨_,?_,y+1,p8,H3,rfl,(by simp[bc,hl]),?_⟩
    ·first|omega|(simp;omega)
    simp only[aZ,hl,aa,ae,g0,g1,g2,g3,g9,g10]
    iterate 8 refine cG ?_
    refine⟨?_,?_,?_,?_⟩
    ·omega
    ·exact oY
    ·exact lN
    ·exact hW.trans nQ
   ·have dz:decide (zz<0)=false:=bj hz;simp only[↓aL,aM,aJ,↓reduceIte,aa,ah,ae,hl,g0,hD,g2,g3,g10,g12,w5,d9,w10,c1,c2,l1,l2,kU,iV,pr,dz];refine bK ?_;refine⟨_,?_,jj+1,i,js,H,rfl,(by simp[bc,hl]),?_⟩
    ·first|omega|(simp;omega)
    simp only[aZ,hl,aa,ae,g0,g1,g2,g3,g9]
    iterate 7 refine cG ?_
    refine⟨?_,?_,?_,?_,?_,?_⟩
    ·omega
    ·omega
    ·omega
    ·exact hS
    ·exact hp
    ·exact hW
  have d7:decide ((x:Int)≥1)=true:=bh;have w12:=wz (z:=(x:Int)-1) (m:=x-1);obtain⟨F1,F2,H3,p8,wI,vH,l1,l2,s1,s2,e3,oY,nQ,lN⟩:=kY R hS hp (i:=x) (j:=x-1) (by omega) (by omega);have c1:=eT (i:=x) (n:=n);have c2:=eT (i:=x-1) (n:=n);have iV:=hc _ _ wI vH;generalize hyy:cz (js.getD x 0) (js.getD (x-1) 0)=yy at iV;by_cases hz:yy<0
  rotate_left
  ·have dz:decide (yy<0)=false:=bj hz;have w8:=wz (z:=(c:Int)-(i:Int)) (m:=c-i);by_cases h3:2<=c-i
   rotate_left
   ·have d8:decide (((c-i:Nat):Int)≥2)=false:=bj;simp only[↓aL,aM,aJ,↓reduceIte,aa,ah,ae,hl,g0,hD,g2,g3,g9,g10,w5,w8,d8,g11,d7,w12,c1,c2,l1,l2,kU,iV,pr,dz];refine bK ?_;refine⟨_,?_,jj+1,i,js,H,rfl,(by simp[bc,hl]),?_⟩
    ·first|omega|(simp;omega)
    simp only[aZ,hl,aa,ae,g0,g1,g2,g3,g9]
    iterate 7 refine cG ?_
    refine⟨?_,?_,?_,?_,?_,?_⟩
    ·omega
    ·omega
    ·omega
    ·exact hS
    ·exact hp
    ·exact hW
   have d8:decide (((c-i:Nat):Int)≥2)=true:=bh;have w9:=wz (z:=(i:Int)+1) (m:=i+1);simp only[↓aL,aM,aJ,↓reduceIte,aa,ah,ae,hl,g0,hD,g2,g3,g9,w8,w9,d8,g11,d7,w12,c1,c2,l1,l2,kU,iV,pr,dz];refine cE (fun k_ ts H=>∃y:Nat,∃js,∃H1,k_=(c-y:Nat)/\ts.length=141/\gt ts 0=D/\gt ts 1=.int .i64 (a:Int)/\gt ts 2=.int .i64 (c:Int)/\gt ts 3=.func g [] []/\gt ts 9=.int .i64 (i:Int)/\gt ts 10=.int .i64 (jj:Int)/\gt ts 12=.int .i64 (y:Int)/\H=H1/\(i+1<=y)/\(SR H1 b row js)/\(js.Perm (aN1 n))/\(HW b H0 H1)) (c-(i+1)) ?_ ?_
   rotate_left
   ·refine⟨i+1,js,H,(by first|omega|rfl|simp),(by simp[bc,hl]),?_⟩;simp only[aZ,hl,aa,ae,g0,g1,g2,g3,g9,g10]
    iterate 8 refine cG ?_
    refine⟨?_,?_,?_,?_⟩
    ·first|omega|trivial
    ·first|exact hS|trivial
    ·first|exact hp|trivial
    ·first|exact hW|trivial
   clear hl g0 g1 g2 g3 g9 g10 g11 ts;rintro k_ ts H ⟨y,js,H1,rfl,hl,g0,g1,g2,g3,g9,g10,g12,rfl,hy,hS,hp,hW⟩;refine VS ?_;by_cases hy2:y<c
   rotate_left
   ·have d9:decide ((y:Int)<(c:Int))=false:=bj;simp only[↓aL,aM,↓reduceIte,aa,ae,hl,g2,g10,g12,w5,d9];refine bK ?_;refine⟨_,?_,jj+1,i,js,H,rfl,(by simp[bc,hl]),?_⟩
    ·first|omega|(simp;omega)
    simp only[aZ,hl,aa,ae,g0,g1,g2,g3,g9]
    iterate 7 refine cG ?_
    refine⟨?_,?_,?_,?_,?_,?_⟩
    ·omega
    ·omega
    ·omega
    ·exact hS
    ·exact hp
    ·exact hW
   have d9:decide ((y:Int)<(c:Int))=true:=bh;have w10:=wz (z:=(y:Int)-1) (m:=y-1);have w11:=wz (z:=(y:Int)+1) (m:=y+1);obtain⟨F1,F2,H3,p8,wI,vH,l1,l2,s1,s2,e3,oY,nQ,lN⟩:=kY R hS hp (i:=y) (j:=y-1) (by omega) (by omega);have c1:=eT (i:=y) (n:=n);have c2:=eT (i:=y-1) (n:=n);have iV:=hc _ _ wI vH;generalize C2:cz (js.getD y 0) (js.getD (y-1) 0)=zz at iV;by_cases hz:zz<0
   ·have dz:decide (zz<0)=true:=bh hz;simp only[↓aL,aM,aJ,↓reduceIte,aa,ah,ae,hl,g0,hD,g2,g3,g12,d9,w10,w11,c1,c2,l1,l2,kU,iV,pr,dz,s1,s2,e3];refine bK ?_;refine⟨_,?_,y+1,p8,H3,rfl,(by simp[bc,hl]),?_⟩
    ·first|omega|(simp;omega)
    simp only[aZ,hl,aa,ae,g0,g1,g2,g3,g9,g10]
    iterate 8 refine cG ?_
    refine⟨?_,?_,?_,?_⟩
    ·omega
    ·exact oY
    ·exact lN
    ·exact hW.trans nQ
   ·have dz:decide (zz<0)=false:=bj hz;simp only[↓aL,aM,aJ,↓reduceIte,aa,ah,ae,hl,g0,hD,g2,g3,g10,g12,w5,d9,w10,c1,c2,l1,l2,kU,iV,pr,dz];refine bK ?_;refine⟨_,?_,jj+1,i,js,H,rfl,(by simp[bc,hl]),?_⟩
    ·first|omega|(simp;omega)
    simp only[aZ,hl,aa,ae,g0,g1,g2,g3,g9]
    iterate 7 refine cG ?_
    refine⟨?_,?_,?_,?_,?_,?_⟩
    ·omega
    ·omega
    ·omega
    ·exact hS
    ·exact hp
    ·exact hW
  have dz:decide (yy<0)=true:=bh hz;simp only[↓aL,aM,aJ,↓reduceIte,aa,ah,ae,hl,g0,hD,g3,g11,d7,w12,c1,c2,l1,l2,kU,iV,pr,dz,s1,s2,e3];refine bK ?_;refine⟨_,?_,x-1,p8,H3,rfl,(by simp[bc,hl]),?_⟩
  ·first|omega|(simp;omega)
  simp only[aZ,hl,aa,ae,g0,g1,g2,g3,g9,g10]
  iterate 8 refine cG ?_
  refine⟨?_,?_,?_,?_⟩
  ·omega
  ·exact oY
  ·exact lN
  ·exact hW.trans nQ
def SB{K u0 u1 u2 u3 u4 u5 u6 u7 u8 u9 vg sH sA sB:Nat}(I:lf K u0 u1 u2 u3 u4 u5 u6 u7 u8 u9 vg sH sA sB){b n kc g:Nat}{row:Nat->List AV}{mQ:List Nat}{H0:Hp}{cz:Nat->Nat->Int}(R:qS K row)(hg:bF E g=false)(hc:∀p q,p<n->q<n->aR E g [.agg (row p),.agg (row q)]=some (.int .i64 (cz p q)))(wF:SR H0 b row mQ)(sy:mQ.Perm (aN1 n))(hn:n<=1000000){a c pv:Nat}(EC:a<c)(nu:c<=n)(xi:pv<n):
  ∃r H',cR E u5 [.aI b 0 n K kc,.int .i64 (a:Int),.int .i64 (c:Int),.int .i64 (pv:Int),.func g [] []] H0=some (r,H')/\∃m:Nat,a<m/\m<=c/\r=.int .i64 (m:Int)/\pP b n row H0 (.tuple []) H':=by
 obtain⟨D,hD⟩:∃D,D=AV.aI b 0 n K kc:=⟨_,rfl⟩;have I0:=I;cases I
 all_goals
  have kU:=fun{dr st:Bool} {bl:List AV} {H:Hp} {k:AV->cC->Prop}=>kH (E:=E) (dr:=dr) (st:=st) (f:=g) (bl:=bl) (H:=H) (k:=k) hg
  have pr:=R.pure;obtain⟨F1,F2,H3,p8,wI,vH,l1,l2,s1,s2,e3,oY,nQ,lN⟩:=kY R wF sy (i:=a) (j:=pv) (by omega) (by omega);have c1:=eT (i:=a) (n:=n);have c2:=eT (i:=pv) (n:=n);have w0:=wz (z:=(a:Int)+1) (m:=a+1);have w1:=wz (z:=(c:Int)-1) (m:=c-1);refine gi5 (fV C) (by rw[C.fn];first|with_reducible exact arQ|with_reducible exact arJ) (by decide) ?_;intro ts hl g0 g1 g2 g3 g4;rw[<-hD]at g0
  first|unfold apu|unfold apm
  simp only[↓aL,aM,aJ,↓reduceIte,aa,ah,ae,Tryz.f257,Tryz.f248,hl,g0,hD,g1,g2,g3,w0,w1,c1,c2,l1,l2,s1,s2,e3];refine cE (fun k_ ts H=>∃i:Nat,∃j:Nat,∃js,∃H1,k_=(j+2-i:Nat)/\ts.length=90/\gt ts 0=D/\gt ts 1=.int .i64 (a:Int)/\gt ts 4=.func g [] []/\gt ts 11=.int .i64 (i:Int)/\gt ts 12=.int .i64 (j:Int)/\H=H1/\(a+1<=i)/\(i<=c)/\(a<=j)/\(j<c)/\(i<=j+2)/\(SR H1 b row js)/\(js.Perm (aN1 n))/\(HW b H0 H1)) (c-1+2-(a+1)) ?_ ?_
  rotate_left
  ·refine⟨a+1,c-1,p8,H3,(by first|omega|rfl|simp),(by simp[bc,hl]),?_⟩;simp only[aZ,hl,aa,ae,g0,g1,g4]
   iterate 6 refine cG ?_
   refine⟨?_,?_,?_,?_,?_,?_,?_,?_⟩
   ·first|omega|trivial
   ·first|omega|trivial
   ·first|omega|trivial
   ·first|omega|trivial
   ·first|omega|trivial
   ·first|exact oY|trivial
   ·first|exact lN|trivial
   ·first|exact nQ|trivial
  clear hl g0 g1 g2 g3 g4 ts;rintro k_ ts H ⟨i,j,js,H1,rfl,hl,g0,g1,g4,g11,g12,rfl,hi,FE,hj,MS,tA,hS,hp,hW⟩;refine VS ?_;simp only[↓aL];obtain⟨M,hM⟩:∃M:Nat,M=j+2-i:=⟨_,rfl⟩;refine AN (id:=2) (fun k_ ts H=>∃i:Nat,∃j:Nat,∃js,∃H1,k_=(j+2-i:Nat)/\ts.length=90/\gt ts 0=D/\gt ts 1=.int .i64 (a:Int)/\gt ts 4=.func g [] []/\gt ts 11=.int .i64 (i:Int)/\gt ts 12=.int .i64 (j:Int)/\H=H1/\(a+1<=i)/\(i<=c)/\(a<=j)/\(j<c)/\(i<=j+2)/\(j+2-i<=M)/\(SR H1 b row js)/\(js.Perm (aN1 n))/\(HW b H0 H1)) (fun ts H=>∃i:Nat,∃j:Nat,∃js,∃H1,ts.length=90/\gt ts 0=D/\gt ts 1=.int .i64 (a:Int)/\gt ts 4=.func g [] []/\gt ts 11=.int .i64 (i:Int)/\gt ts 12=.int .i64 (j:Int)/\H=H1/\(a+1<=i)/\(i<=c)/\(a<=j)/\(j<c)/\(i<=j+2)/\(j+2-i<=M)/\(SR H1 b row js)/\(js.Perm (aN1 n))/\(HW b H0 H1)) (j+2-i) ?_ ?_ ?_
  rotate_left 2
  ·refine⟨i,j,js,H,(by first|omega|rfl|simp),(by simp[bc,hl]),?_⟩;simp only[aZ,g0,g1,g4,g11,g12]
   iterate 6 refine cG ?_
   refine⟨?_,?_,?_,?_,?_,?_,?_,?_,?_⟩
   ·first|omega|trivial
   ·first|omega|trivial
   ·first|omega|trivial
   ·first|omega|trivial
   ·first|omega|trivial
   ·first|omega|trivial
   ·first|exact hS|trivial
   ·first|exact hp|trivial
   ·first|exact hW|trivial
  ·clear hl g0 g1 g4 g11 g12 ts;rintro k_ ts H ⟨i,j,js,H1,rfl,hl,g0,g1,g4,g11,g12,rfl,hi,FE,hj,MS,tA,hm,hS,hp,hW⟩;refine VS ?_;by_cases hd:i<=j
   rotate_left
   ·have d1:decide ((i:Int)<=(j:Int))=false:=bj;simp only[↓aL,aM,aJ,aa,ah,ae,hl,g11,g12,d1];refine iX ?_;refine⟨i,j,js,H,(by simp[bc,hl]),?_⟩;simp only[aZ,ae,g0,g1,g4,g11,g12]
    iterate 6 refine cG ?_
    refine⟨?_,?_,?_,?_,?_,?_,?_,?_,?_⟩
    ·omega
    ·omega
    ·omega
    ·omega
    ·omega
    ·omega
    ·exact hS
    ·exact hp
    ·exact hW
   have d1:decide ((i:Int)<=(j:Int))=true:=bh;obtain⟨hx,lx⟩:=FZ R hS hp (i:=a) (by omega);obtain⟨hy,ly⟩:=FZ R hS hp (i:=i) (by omega);have c1:=eT (i:=a) (n:=n);have c2:=eT (i:=i) (n:=n);have w1:=wz (z:=(i:Int)+1) (m:=i+1);have w2:=wz (z:=(j:Int)-1) (m:=j-1);have iV:=hc _ _ hx hy;generalize C2:cz (js.getD a 0) (js.getD i 0)=zz at iV;by_cases hz:zz<0
   ·have dz:decide (zz<0)=true:=bh hz;simp only[↓aL,aM,aJ,↓reduceIte,aa,ah,ae,hl,g0,hD,g1,g4,g11,g12,d1,c1,c2,lx,ly,kU,iV,pr,dz];refine iX ?_;refine⟨i,j,js,H,(by simp[bc,hl]),?_⟩;simp only[aZ,ae,g0,g1,g4,g11,g12]
    iterate 6 refine cG ?_
    refine⟨?_,?_,?_,?_,?_,?_,?_,?_,?_⟩
    ·omega
    ·omega
    ·omega
    ·omega
    ·omega
    ·omega
    ·exact hS
    ·exact hp
    ·exact hW
   ·have dz:decide (zz<0)=false:=bj hz;simp only[↓aL,aM,aJ,↓reduceIte,aa,ah,ae,hl,g0,hD,g1,g4,g11,g12,d1,c1,c2,w1,lx,ly,kU,iV,pr,dz];refine bK ?_;refine⟨_,?_,i+1,j,js,H,rfl,(by simp[bc,hl]),?_⟩
    ·first|omega|(simp;omega)
    simp only[aZ,hl,aa,ae,g0,g1,g4,g12]
    iterate 6 refine cG ?_
    refine⟨?_,?_,?_,?_,?_,?_,?_,?_,?_⟩
    ·omega
    ·omega
    ·omega
    ·omega
    ·omega
    ·omega
    ·exact hS
    ·exact hp
    ·exact hW
  clear hl g0 g1 g4 g11 g12 ts;rintro ts H ⟨i,j,js,H1,hl,g0,g1,g4,g11,g12,rfl,hi,FE,hj,MS,tA,hm,hS,hp,hW⟩;simp only[↓aL,↓reduceIte];refine AN (id:=4) (fun k_ ts H=>∃i:Nat,∃j:Nat,∃js,∃H1,k_=(j+2-i:Nat)/\ts.length=90/\gt ts 0=D/\gt ts 1=.int .i64 (a:Int)/\gt ts 4=.func g [] []/\gt ts 11=.int .i64 (i:Int)/\gt ts 12=.int .i64 (j:Int)/\H=H1/\(a+1<=i)/\(i<=c)/\(a<=j)/\(j<c)/\(i<=j+2)/\(j+2-i<=M)/\(SR H1 b row js)/\(js.Perm (aN1 n))/\(HW b H0 H1)) (fun ts H=>∃i:Nat,∃j:Nat,∃js,∃H1,ts.length=90/\gt ts 0=D/\gt ts 1=.int .i64 (a:Int)/\gt ts 4=.func g [] []/\gt ts 11=.int .i64 (i:Int)/\gt ts 12=.int .i64 (j:Int)/\H=H1/\(a+1<=i)/\(i<=c)/\(a<=j)/\(j<c)/\(i<=j+2)/\(j+2-i<=M)/\(SR H1 b row js)/\(js.Perm (aN1 n))/\(HW b H0 H1)) (j+2-i) ?_ ?_ ?_
  rotate_left 2
  ·refine⟨i,j,js,H,(by first|omega|rfl|simp),(by simp[bc,hl]),?_⟩;simp only[aZ,g0,g1,g4,g11,g12]
   iterate 6 refine cG ?_
   refine⟨?_,?_,?_,?_,?_,?_,?_,?_,?_⟩
   ·first|omega|trivial
   ·first|omega|trivial
   ·first|omega|trivial
   ·first|omega|trivial
   ·first|omega|trivial
   ·first|omega|trivial
   ·first|exact hS|trivial
   ·first|exact hp|trivial
   ·first|exact hW|trivial
  ·clear hl g0 g1 g4 g11 g12 ts;rintro k_ ts H ⟨i,j,js,H1,rfl,hl,g0,g1,g4,g11,g12,rfl,hi,FE,hj,MS,tA,hm,hS,hp,hW⟩;refine VS ?_;by_cases hd:i<=j
   rotate_left
   ·have d1:decide ((i:Int)<=(j:Int))=false:=bj;simp only[↓aL,aM,aJ,aa,ah,ae,hl,g11,g12,d1];refine iX ?_;refine⟨i,j,js,H,(by simp[bc,hl]),?_⟩;simp only[aZ,ae,g0,g1,g4,g11,g12]
    iterate 6 refine cG ?_
    refine⟨?_,?_,?_,?_,?_,?_,?_,?_,?_⟩
    ·omega
    ·omega
    ·omega
    ·omega
    ·omega
    ·omega
    ·exact hS
    ·exact hp
    ·exact hW
   have d1:decide ((i:Int)<=(j:Int))=true:=bh;obtain⟨hx,lx⟩:=FZ R hS hp (i:=a) (by omega);obtain⟨hy,ly⟩:=FZ R hS hp (i:=j) (by omega);have c1:=eT (i:=a) (n:=n);have c2:=eT (i:=j) (n:=n);have w1:=wz (z:=(i:Int)+1) (m:=i+1);have w2:=wz (z:=(j:Int)-1) (m:=j-1);have iV:=hc _ _ hx hy;generalize C2:cz (js.getD a 0) (js.getD j 0)=zz at iV;by_cases hz:zz<0
   ·have dz:decide (zz<0)=true:=bh hz;simp only[↓aL,aM,aJ,↓reduceIte,aa,ah,ae,hl,g0,hD,g1,g4,g11,g12,d1,c1,c2,w2,lx,ly,kU,iV,pr,dz];refine bK ?_;refine⟨_,?_,i,j-1,js,H,rfl,(by simp[bc,hl]),?_⟩
    ·first|omega|(simp;omega)
    simp only[aZ,hl,aa,ae,g0,g1,g4,g11]
    iterate 6 refine cG ?_
    refine⟨?_,?_,?_,?_,?_,?_,?_,?_,?_⟩
    ·omega
    ·omega
    ·omega
    ·omega
    ·omega
    ·omega
    ·exact hS
    ·exact hp
    ·exact hW
   ·have dz:decide (zz<0)=false:=bj hz;simp only[↓aL,aM,aJ,↓reduceIte,aa,ah,ae,hl,g0,hD,g1,g4,g11,g12,d1,c1,c2,lx,ly,kU,iV,pr,dz];refine iX ?_;refine⟨i,j,js,H,(by simp[bc,hl]),?_⟩;simp only[aZ,ae,g0,g1,g4,g11,g12]
    iterate 6 refine cG ?_
    refine⟨?_,?_,?_,?_,?_,?_,?_,?_,?_⟩
    ·omega
    ·omega
    ·omega
    ·omega
    ·omega
    ·omega
    ·exact hS
    ·exact hp
    ·exact hW
  clear hl g0 g1 g4 g11 g12 ts;rintro ts H ⟨i,j,js,H1,hl,g0,g1,g4,g11,g12,rfl,hi,FE,hj,MS,tA,hm,hS,hp,hW⟩;by_cases hd:j<i
  ·have d1:decide ((i:Int)>(j:Int))=true:=bh;simp only[↓aL,aM,↓reduceIte,aa,ae,hl,g11,g12,d1];exact⟨i,by omega,by omega,rfl,rfl,hW,js,hS,hp⟩
  have d1:decide ((i:Int)>(j:Int))=false:=bj;obtain⟨F1,F2,H3,p8,wI,vH,l1,l2,s1,s2,e3,oY,nQ,lN⟩:=kY R hS hp (i:=i) (j:=j) (by omega) (by omega);have c1:=eT (i:=i) (n:=n);have c2:=eT (i:=j) (n:=n);have w2:=wz (z:=(i:Int)+1) (m:=i+1);have w3:=wz (z:=(j:Int)-1) (m:=j-1);simp only[↓aL,aM,aJ,↓reduceIte,aa,ah,ae,hl,g0,hD,g11,g12,d1,c1,c2,w2,w3,l1,l2,s1,s2,e3];refine bK ?_;refine⟨_,?_,i+1,j-1,p8,H3,rfl,(by simp[bc,hl]),?_⟩
  ·first|omega|(simp;omega)
  simp only[aZ,hl,aa,ae,g0,g1,g4]
  iterate 6 refine cG ?_
  refine⟨?_,?_,?_,?_,?_,?_,?_,?_⟩
  ·omega
  ·omega
  ·omega
  ·omega
  ·omega
  ·exact oY
  ·exact lN
  ·exact hW.trans nQ
def C7{K u0 u1 u2 u3 u4 u5 u6 u7 u8 u9 vg sH sA sB:Nat}(I:lf K u0 u1 u2 u3 u4 u5 u6 u7 u8 u9 vg sH sA sB){b n kc g:Nat}{row:Nat->List AV}{mQ:List Nat}{H0:Hp}{cz:Nat->Nat->Int}(R:qS K row)(hg:bF E g=false)(hc:∀p q,p<n->q<n->aR E g [.agg (row p),.agg (row q)]=some (.int .i64 (cz p q)))(wF:SR H0 b row mQ)(sy:mQ.Perm (aN1 n))(hn:n<=1000000){a c pv:Nat}(EC:a<c)(nu:c<=n)(xi:pv<n:=by omega):
  ∃r H',cR E u6 [.aI b 0 n K kc,.int .i64 (a:Int),.int .i64 (c:Int),.int .i64 (pv:Int),.func g [] []] H0=some (r,H')/\∃(m:Nat) (bb:Bool),a<=m/\m<c/\r=.tuple [.int .i64 (m:Int),.bool bb]/\pP b n row H0 (.tuple []) H':=by
 obtain⟨D,hD⟩:∃D,D=AV.aI b 0 n K kc:=⟨_,rfl⟩;have I0:=I;cases I
 all_goals
  have kU:=fun{dr st:Bool} {bl:List AV} {H:Hp} {k:AV->cC->Prop}=>kH (E:=E) (dr:=dr) (st:=st) (f:=g) (bl:=bl) (H:=H) (k:=k) hg
  have pr:=R.pure;obtain⟨F1,F2,H3,p8,wI,vH,l1,l2,s1,s2,e3,oY,nQ,lN⟩:=kY R wF sy (i:=a) (j:=pv) (by omega) (by omega);have c1:=eT (i:=a) (n:=n);have c2:=eT (i:=pv) (n:=n);have w0:=wz (z:=(a:Int)+1) (m:=a+1);have w1:=wz (z:=(c:Int)-1) (m:=c-1);refine gi5 (fV C) (by rw[C.fn];first|with_reducible exact arR|with_reducible exact arK) (by decide) ?_;intro ts hl g0 g1 g2 g3 g4;rw[<-hD]at g0
  first|unfold apv|unfold apn
  simp only[↓aL,aM,aJ,↓reduceIte,aa,ah,ae,Tryz.f258,Tryz.f249,hl,g0,hD,g1,g2,g3,w0,w1,c1,c2,l1,l2,s1,s2,e3];obtain⟨M,hM⟩:∃M:Nat,M=c+5:=⟨_,rfl⟩;refine AN (id:=0) (fun k_ ts H=>∃i:Nat,∃j:Nat,∃js,∃H1,k_=(j+2-i:Nat)/\ts.length=178/\gt ts 0=D/\gt ts 1=.int .i64 (a:Int)/\gt ts 4=.func g [] []/\gt ts 12=.int .i64 (i:Int)/\gt ts 13=.int .i64 (j:Int)/\H=H1/\(a+1<=i)/\(i<=c)/\(a<=j)/\(j<c)/\(i<=j+2)/\(j+2-i<=M)/\(SR H1 b row js)/\(js.Perm (aN1 n))/\(HW b H0 H1)) (fun ts H=>∃i:Nat,∃j:Nat,∃js,∃H1,ts.length=178/\gt ts 0=D/\gt ts 1=.int .i64 (a:Int)/\gt ts 4=.func g [] []/\gt ts 12=.int .i64 (i:Int)/\gt ts 13=.int .i64 (j:Int)/\H=H1/\(a+1<=i)/\(i<=c)/\(a<=j)/\(j<c)/\(i<=j+2)/\(j+2-i<=M)/\(SR H1 b row js)/\(js.Perm (aN1 n))/\(HW b H0 H1)) (c-1+2-(a+1)) ?_ ?_ ?_
  rotate_left 2
  ·refine⟨a+1,c-1,p8,H3,(by first|omega|rfl|simp),(by simp[bc,hl]),?_⟩;simp only[aZ,hl,aa,ae,g0,g1,g4]
   iterate 6 refine cG ?_
   refine⟨?_,?_,?_,?_,?_,?_,?_,?_,?_⟩
   ·first|omega|trivial
   ·first|omega|trivial
   ·first|omega|trivial
   ·first|omega|trivial
   ·first|omega|trivial
   ·first|omega|trivial
   ·first|exact oY|trivial
   ·first|exact lN|trivial
   ·first|exact nQ|trivial
  ·clear hl g0 g1 g2 g3 g4 ts;rintro k_ ts H ⟨i,j,js,H1,rfl,hl,g0,g1,g4,g12,g13,rfl,hi,FE,hj,MS,tA,hm,hS,hp,hW⟩;refine VS ?_;by_cases hd:i<=j
   rotate_left
   ·have d1:decide ((i:Int)<=(j:Int))=false:=bj;simp only[↓aL,aM,aJ,aa,ah,ae,hl,g12,g13,d1];refine iX ?_;refine⟨i,j,js,H,(by simp[bc,hl]),?_⟩;simp only[aZ,ae,g0,g1,g4,g12,g13]
    iterate 6 refine cG ?_
    refine⟨?_,?_,?_,?_,?_,?_,?_,?_,?_⟩
    ·omega
    ·omega
    ·omega
    ·omega
    ·omega
    ·omega
    ·exact hS
    ·exact hp
    ·exact hW
   have d1:decide ((i:Int)<=(j:Int))=true:=bh;obtain⟨hx,lx⟩:=FZ R hS hp (i:=i) (by omega);obtain⟨hy,ly⟩:=FZ R hS hp (i:=a) (by omega);have c1:=eT (i:=i) (n:=n);have c2:=eT (i:=a) (n:=n);have w1:=wz (z:=(i:Int)+1) (m:=i+1);have w2:=wz (z:=(j:Int)-1) (m:=j-1);have iV:=hc _ _ hx hy;generalize C2:cz (js.getD i 0) (js.getD a 0)=zz at iV;by_cases hz:zz<0
   ·have dz:decide (zz<0)=true:=bh hz;simp only[↓aL,aM,aJ,↓reduceIte,aa,ah,ae,hl,g0,hD,g1,g4,g12,g13,d1,c1,c2,w1,lx,ly,kU,iV,pr,dz];refine bK ?_;refine⟨_,?_,i+1,j,js,H,rfl,(by simp[bc,hl]),?_⟩
    ·first|omega|(simp;omega)
    simp only[aZ,hl,aa,ae,g0,g1,g4,g13]
    iterate 6 refine cG ?_
    refine⟨?_,?_,?_,?_,?_,?_,?_,?_,?_⟩
    ·omega
    ·omega
    ·omega
    ·omega
    ·omega
    ·omega
    ·exact hS
    ·exact hp
    ·exact hW
   ·have dz:decide (zz<0)=false:=bj hz;simp only[↓aL,aM,aJ,↓reduceIte,aa,ah,ae,hl,g0,hD,g1,g4,g12,g13,d1,c1,c2,lx,ly,kU,iV,pr,dz];refine iX ?_;refine⟨i,j,js,H,(by simp[bc,hl]),?_⟩;simp only[aZ,ae,g0,g1,g4,g12,g13]
    iterate 6 refine cG ?_
    refine⟨?_,?_,?_,?_,?_,?_,?_,?_,?_⟩
    ·omega
    ·omega
    ·omega
    ·omega
    ·omega
    ·omega
    ·exact hS
    ·exact hp
    ·exact hW
  clear hl g0 g1 g2 g3 g4 ts;rintro ts H ⟨i,j,js,H1,hl,g0,g1,g4,g12,g13,rfl,hi,FE,hj,MS,tA,hm,hS,hp,hW⟩;simp only[↓aL,↓reduceIte];refine AN (id:=2) (fun k_ ts H=>∃i:Nat,∃j:Nat,∃js,∃H1,k_=(j+2-i:Nat)/\ts.length=178/\gt ts 0=D/\gt ts 1=.int .i64 (a:Int)/\gt ts 4=.func g [] []/\gt ts 12=.int .i64 (i:Int)/\gt ts 13=.int .i64 (j:Int)/\H=H1/\(a+1<=i)/\(i<=c)/\(a<=j)/\(j<c)/\(i<=j+2)/\(j+2-i<=M)/\(SR H1 b row js)/\(js.Perm (aN1 n))/\(HW b H0 H1)) (fun ts H=>∃i:Nat,∃j:Nat,∃js,∃H1,ts.length=178/\gt ts 0=D/\gt ts 1=.int .i64 (a:Int)/\gt ts 4=.func g [] []/\gt ts 12=.int .i64 (i:Int)/\gt ts 13=.int .i64 (j:Int)/\H=H1/\(a+1<=i)/\(i<=c)/\(a<=j)/\(j<c)/\(i<=j+2)/\(j+2-i<=M)/\(SR H1 b row js)/\(js.Perm (aN1 n))/\(HW b H0 H1)) (j+2-i) ?_ ?_ ?_
  rotate_left 2
  ·refine⟨i,j,js,H,(by first|omega|rfl|simp),(by simp[bc,hl]),?_⟩;simp only[aZ,g0,g1,g4,g12,g13]
   iterate 6 refine cG ?_
   refine⟨?_,?_,?_,?_,?_,?_,?_,?_,?_⟩
   ·first|omega|trivial
   ·first|omega|trivial
   ·first|omega|trivial
   ·first|omega|trivial
   ·first|omega|trivial
   ·first|omega|trivial
   ·first|exact hS|trivial
   ·first|exact hp|trivial
   ·first|exact hW|trivial
  ·clear hl g0 g1 g4 g12 g13 ts;rintro k_ ts H ⟨i,j,js,H1,rfl,hl,g0,g1,g4,g12,g13,rfl,hi,FE,hj,MS,tA,hm,hS,hp,hW⟩;refine VS ?_;by_cases hd:i<=j
   rotate_left
   ·have d1:decide ((i:Int)<=(j:Int))=false:=bj;simp only[↓aL,aM,aJ,aa,ah,ae,hl,g12,g13,d1];refine iX ?_;refine⟨i,j,js,H,(by simp[bc,hl]),?_⟩;simp only[aZ,ae,g0,g1,g4,g12,g13]
    iterate 6 refine cG ?_
    refine⟨?_,?_,?_,?_,?_,?_,?_,?_,?_⟩
    ·omega
    ·omega
    ·omega
    ·omega
    ·omega
    ·omega
    ·exact hS
    ·exact hp
    ·exact hW
   have d1:decide ((i:Int)<=(j:Int))=true:=bh;obtain⟨hx,lx⟩:=FZ R hS hp (i:=j) (by omega);obtain⟨hy,ly⟩:=FZ R hS hp (i:=a) (by omega);have c1:=eT (i:=j) (n:=n);have c2:=eT (i:=a) (n:=n);have w1:=wz (z:=(i:Int)+1) (m:=i+1);have w2:=wz (z:=(j:Int)-1) (m:=j-1);have iV:=hc _ _ hx hy;generalize C2:cz (js.getD j 0) (js.getD a 0)=zz at iV;by_cases hz:zz<0
   ·have dz:decide (zz<0)=true:=bh hz;simp only[↓aL,aM,aJ,↓reduceIte,aa,ah,ae,hl,g0,hD,g1,g4,g12,g13,d1,c1,c2,lx,ly,kU,iV,pr,dz];refine iX ?_;refine⟨i,j,js,H,(by simp[bc,hl]),?_⟩;simp only[aZ,ae,g0,g1,g4,g12,g13]
    iterate 6 refine cG ?_
    refine⟨?_,?_,?_,?_,?_,?_,?_,?_,?_⟩
    ·omega
    ·omega
    ·omega
    ·omega
    ·omega
    ·omega
    ·exact hS
    ·exact hp
    ·exact hW
   ·have dz:decide (zz<0)=false:=bj hz;simp only[↓aL,aM,aJ,↓reduceIte,aa,ah,ae,hl,g0,hD,g1,g4,g12,g13,d1,c1,c2,w2,lx,ly,kU,iV,pr,dz];refine bK ?_;refine⟨_,?_,i,j-1,js,H,rfl,(by simp[bc,hl]),?_⟩
    ·first|omega|(simp;omega)
    simp only[aZ,hl,aa,ae,g0,g1,g4,g12]
    iterate 6 refine cG ?_
    refine⟨?_,?_,?_,?_,?_,?_,?_,?_,?_⟩
    ·omega
    ·omega
    ·omega
    ·omega
    ·omega
    ·omega
    ·exact hS
    ·exact hp
    ·exact hW
  clear hl g0 g1 g4 g12 g13 ts;rintro ts H ⟨i,j,js,H1,hl,g0,g1,g4,g12,g13,rfl,hi,FE,hj,MS,tA,hm,hS,hp,hW⟩;by_cases hd:j<i
  ·have d1:decide ((i:Int)>(j:Int))=true:=bh;obtain⟨F1,F2,H3,p8,wI,vH,l1,l2,s1,s2,e3,oY,nQ,lN⟩:=kY R hS hp (i:=j) (j:=a) (by omega) (by omega);have c1:=eT (i:=j) (n:=n);have c2:=eT (i:=a) (n:=n);simp only[↓aL,aM,aJ,↓reduceIte,aa,ah,ae,hl,g0,hD,g1,g12,g13,d1,c1,c2,l1,l2,s1,s2,e3];exact⟨j,_,by omega,by omega,rfl,rfl,hW.trans nQ,p8,oY,lN⟩
  have d1:decide ((i:Int)>(j:Int))=false:=bj;obtain⟨F1,F2,H3,p8,wI,vH,l1,l2,s1,s2,e3,oY,nQ,lN⟩:=kY R hS hp (i:=i) (j:=j) (by omega) (by omega);have c1:=eT (i:=i) (n:=n);have c2:=eT (i:=j) (n:=n);have w2:=wz (z:=(i:Int)+1) (m:=i+1);have w3:=wz (z:=(j:Int)-1) (m:=j-1);simp only[↓aL,aM,aJ,↓reduceIte,aa,ah,ae,hl,g0,hD,g12,g13,d1,c1,c2,w2,w3,l1,l2,s1,s2,e3];refine AN (id:=4) (fun k_ ts H=>∃i2:Nat,∃j2:Nat,∃js,∃H1,k_=(j2+2-i2:Nat)/\ts.length=178/\gt ts 0=D/\gt ts 1=.int .i64 (a:Int)/\gt ts 4=.func g [] []/\gt ts 12=.int .i64 (i2:Int)/\gt ts 13=.int .i64 (j2:Int)/\H=H1/\(a+1<=i2)/\(i2<=c)/\(a<=j2)/\(j2<c)/\(i2<=j2+2)/\(SR H1 b row js)/\(js.Perm (aN1 n))/\(HW b H0 H1)) (fun ts H=>∃i2:Nat,∃j2:Nat,∃js,∃H1,ts.length=178/\gt ts 0=D/\gt ts 1=.int .i64 (a:Int)/\gt ts 4=.func g [] []/\gt ts 12=.int .i64 (i2:Int)/\gt ts 13=.int .i64 (j2:Int)/\H=H1/\(a+1<=i2)/\(i2<=c)/\(a<=j2)/\(j2<c)/\(i2<=j2+2)/\(SR H1 b row js)/\(js.Perm (aN1 n))/\(HW b H0 H1)) (j-1+2-(i+1)) ?_ ?_ ?_
  rotate_left 2
  ·refine⟨i+1,j-1,p8,H3,(by first|omega|rfl|simp),(by simp[bc,hl]),?_⟩;simp only[aZ,hl,aa,ae,g0,g1,g4]
   iterate 6 refine cG ?_
   refine⟨?_,?_,?_,?_,?_,?_,?_,?_⟩
   ·first|omega|trivial
   ·first|omega|trivial
   ·first|omega|trivial
   ·first|omega|trivial
   ·first|omega|trivial
   ·first|exact oY|trivial
   ·first|exact lN|trivial
   ·first|exact hW.trans nQ|trivial
  ·clear hl g0 g1 g4 g12 g13 ts;rintro k_ ts H ⟨i2,j2,js,H1,rfl,hl,g0,g1,g4,g12,g13,rfl,hi,FE,hj,MS,tA,hS,hp,hW⟩;refine VS ?_;clear hM;obtain⟨M,hM⟩:∃M:Nat,M=j2+2-i2:=⟨_,rfl⟩;obtain⟨i,hi0⟩:∃i:Nat,i=i2:=⟨_,rfl⟩;obtain⟨j,hj0⟩:∃j:Nat,j=j2:=⟨_,rfl⟩;rw[<-hi0]at g12 hi FE tA;rw[<-hj0]at g13 hj MS tA;simp only[↓aL];refine AN (id:=6) (fun k_ ts H=>∃i:Nat,∃j:Nat,∃js,∃H1,k_=(j+2-i:Nat)/\ts.length=178/\gt ts 0=D/\gt ts 1=.int .i64 (a:Int)/\gt ts 4=.func g [] []/\gt ts 12=.int .i64 (i:Int)/\gt ts 13=.int .i64 (j:Int)/\H=H1/\(a+1<=i)/\(i<=c)/\(a<=j)/\(j<c)/\(i<=j+2)/\(j+2-i<=M)/\(SR H1 b row js)/\(js.Perm (aN1 n))/\(HW b H0 H1)) (fun ts H=>∃i:Nat,∃j:Nat,∃js,∃H1,ts.length=178/\gt ts 0=D/\gt ts 1=.int .i64 (a:Int)/\gt ts 4=.func g [] []/\gt ts 12=.int .i64 (i:Int)/\gt ts 13=.int .i64 (j:Int)/\H=H1/\(a+1<=i)/\(i<=c)/\(a<=j)/\(j<c)/\(i<=j+2)/\(j+2-i<=M)/\(SR H1 b row js)/\(js.Perm (aN1 n))/\(HW b H0 H1)) (j+2-i) ?_ ?_ ?_
   rotate_left 2
   ·refine⟨i,j,js,H,(by first|omega|rfl|simp),(by simp[bc,hl]),?_⟩;simp only[aZ,g0,g1,g4,g12,g13]
    iterate 6 refine cG ?_
    refine⟨?_,?_,?_,?_,?_,?_,?_,?_,?_⟩
    ·first|omega|trivial
    ·first|omega|trivial
    ·first|omega|trivial
    ·first|omega|trivial
    ·first|omega|trivial
    ·first|omega|trivial
    ·first|exact hS|trivial
    ·first|exact hp|trivial
    ·first|exact hW|trivial
   ·clear hl g0 g1 g4 g12 g13 ts;rintro k_ ts H ⟨i,j,js,H1,rfl,hl,g0,g1,g4,g12,g13,rfl,hi,FE,hj,MS,tA,hm,hS,hp,hW⟩;refine VS ?_;by_cases hd:i<=j
    rotate_left
    ·have d1:decide ((i:Int)<=(j:Int))=false:=bj;simp only[↓aL,aM,aJ,aa,ah,ae,hl,g12,g13,d1];refine iX ?_;refine⟨i,j,js,H,(by simp[bc,hl]),?_⟩;simp only[aZ,ae,g0,g1,g4,g12,g13]
     iterate 6 refine cG ?_
     refine⟨?_,?_,?_,?_,?_,?_,?_,?_,?_⟩
     ·omega
     ·omega
     ·omega
     ·omega
     ·omega
     ·omega
     ·exact hS
     ·exact hp
     ·exact hW
    have d1:decide ((i:Int)<=(j:Int))=true:=bh;obtain⟨hx,lx⟩:=FZ R hS hp (i:=i) (by omega);obtain⟨hy,ly⟩:=FZ R hS hp (i:=a) (by omega);have c1:=eT (i:=i) (n:=n);have c2:=eT (i:=a) (n:=n);have w1:=wz (z:=(i:Int)+1) (m:=i+1);have w2:=wz (z:=(j:Int)-1) (m:=j-1);have iV:=hc _ _ hx hy;generalize C2:cz (js.getD i 0) (js.getD a 0)=zz at iV;by_cases hz:zz<0
    ·have dz:decide (zz<0)=true:=bh hz;simp only[↓aL,aM,aJ,↓reduceIte,aa,ah,ae,hl,g0,hD,g1,g4,g12,g13,d1,c1,c2,w1,lx,ly,kU,iV,pr,dz];refine bK ?_;refine⟨_,?_,i+1,j,js,H,rfl,(by simp[bc,hl]),?_⟩
     ·first|omega|(simp;omega)
     simp only[aZ,hl,aa,ae,g0,g1,g4,g13]
     iterate 6 refine cG ?_
     refine⟨?_,?_,?_,?_,?_,?_,?_,?_,?_⟩
     ·omega
     ·omega
     ·omega
     ·omega
     ·omega
     ·omega
     ·exact hS
     ·exact hp
     ·exact hW
    ·have dz:decide (zz<0)=false:=bj hz;simp only[↓aL,aM,aJ,↓reduceIte,aa,ah,ae,hl,g0,hD,g1,g4,g12,g13,d1,c1,c2,lx,ly,kU,iV,pr,dz];refine iX ?_;refine⟨i,j,js,H,(by simp[bc,hl]),?_⟩;simp only[aZ,ae,g0,g1,g4,g12,g13]
     iterate 6 refine cG ?_
     refine⟨?_,?_,?_,?_,?_,?_,?_,?_,?_⟩
     ·omega
     ·omega
     ·omega
     ·omega
     ·omega
     ·omega
     ·exact hS
     ·exact hp
     ·exact hW
   clear hl g0 g1 g4 g12 g13 ts;rintro ts H ⟨i,j,js,H1,hl,g0,g1,g4,g12,g13,rfl,hi,FE,hj,MS,tA,hm,hS,hp,hW⟩;simp only[↓aL,↓reduceIte];refine AN (id:=8) (fun k_ ts H=>∃i:Nat,∃j:Nat,∃js,∃H1,k_=(j+2-i:Nat)/\ts.length=178/\gt ts 0=D/\gt ts 1=.int .i64 (a:Int)/\gt ts 4=.func g [] []/\gt ts 12=.int .i64 (i:Int)/\gt ts 13=.int .i64 (j:Int)/\H=H1/\(a+1<=i)/\(i<=c)/\(a<=j)/\(j<c)/\(i<=j+2)/\(j+2-i<=M)/\(SR H1 b row js)/\(js.Perm (aN1 n))/\(HW b H0 H1)) (fun ts H=>∃i:Nat,∃j:Nat,∃js,∃H1,ts.length=178/\gt ts 0=D/\gt ts 1=.int .i64 (a:Int)/\gt ts 4=.func g [] []/\gt ts 12=.int .i64 (i:Int)/\gt ts 13=.int .i64 (j:Int)/\H=H1/\(a+1<=i)/\(i<=c)/\(a<=j)/\(j<c)/\(i<=j+2)/\(j+2-i<=M)/\(SR H1 b row js)/\(js.Perm (aN1 n))/\(HW b H0 H1)) (j+2-i) ?_ ?_ ?_
   rotate_left 2
   ·refine⟨i,j,js,H,(by first|omega|rfl|simp),(by simp[bc,hl]),?_⟩;simp only[aZ,g0,g1,g4,g12,g13]
    iterate 6 refine cG ?_
    refine⟨?_,?_,?_,?_,?_,?_,?_,?_,?_⟩
    ·first|omega|trivial
    ·first|omega|trivial
    ·first|omega|trivial
    ·first|omega|trivial
    ·first|omega|trivial
    ·first|omega|trivial
    ·first|exact hS|trivial
    ·first|exact hp|trivial
    ·first|exact hW|trivial
   ·clear hl g0 g1 g4 g12 g13 ts;rintro k_ ts H ⟨i,j,js,H1,rfl,hl,g0,g1,g4,g12,g13,rfl,hi,FE,hj,MS,tA,hm,hS,hp,hW⟩;refine VS ?_;by_cases hd:i<=j
    rotate_left
    ·have d1:decide ((i:Int)<=(j:Int))=false:=bj;simp only[↓aL,aM,aJ,aa,ah,ae,hl,g12,g13,d1];refine iX ?_;refine⟨i,j,js,H,(by simp[bc,hl]),?_⟩;simp only[aZ,ae,g0,g1,g4,g12,g13]
     iterate 6 refine cG ?_
     refine⟨?_,?_,?_,?_,?_,?_,?_,?_,?_⟩
     ·omega
     ·omega
     ·omega
     ·omega
     ·omega
     ·omega
     ·exact hS
     ·exact hp
     ·exact hW
    have d1:decide ((i:Int)<=(j:Int))=true:=bh;obtain⟨hx,lx⟩:=FZ R hS hp (i:=j) (by omega);obtain⟨hy,ly⟩:=FZ R hS hp (i:=a) (by omega);have c1:=eT (i:=j) (n:=n);have c2:=eT (i:=a) (n:=n);have w1:=wz (z:=(i:Int)+1) (m:=i+1);have w2:=wz (z:=(j:Int)-1) (m:=j-1);have iV:=hc _ _ hx hy;generalize C2:cz (js.getD j 0) (js.getD a 0)=zz at iV;by_cases hz:zz<0
    ·have dz:decide (zz<0)=true:=bh hz;simp only[↓aL,aM,aJ,↓reduceIte,aa,ah,ae,hl,g0,hD,g1,g4,g12,g13,d1,c1,c2,lx,ly,kU,iV,pr,dz];refine iX ?_;refine⟨i,j,js,H,(by simp[bc,hl]),?_⟩;simp only[aZ,ae,g0,g1,g4,g12,g13]
     iterate 6 refine cG ?_
     refine⟨?_,?_,?_,?_,?_,?_,?_,?_,?_⟩
     ·omega
     ·omega
     ·omega
     ·omega
     ·omega
     ·omega
     ·exact hS
     ·exact hp
     ·exact hW
    ·have dz:decide (zz<0)=false:=bj hz;simp only[↓aL,aM,aJ,↓reduceIte,aa,ah,ae,hl,g0,hD,g1,g4,g12,g13,d1,c1,c2,w2,lx,ly,kU,iV,pr,dz];refine bK ?_;refine⟨_,?_,i,j-1,js,H,rfl,(by simp[bc,hl]),?_⟩
     ·first|omega|(simp;omega)
     simp only[aZ,hl,aa,ae,g0,g1,g4,g12]
     iterate 6 refine cG ?_
     refine⟨?_,?_,?_,?_,?_,?_,?_,?_,?_⟩
     ·omega
     ·omega
     ·omega
     ·omega
     ·omega
     ·omega
     ·exact hS
     ·exact hp
     ·exact hW
   clear hl g0 g1 g4 g12 g13 ts;rintro ts H ⟨i,j,js,H1,hl,g0,g1,g4,g12,g13,rfl,hi,FE,hj,MS,tA,hm,hS,hp,hW⟩;by_cases hd:j<i
   ·have d1:decide ((i:Int)>(j:Int))=true:=bh;simp only[↓aL,aM,↓reduceIte,aa,ae,hl,g12,g13,d1];refine iX ?_;refine⟨i,j,js,H,(by simp[bc,hl]),?_⟩;simp only[aZ,ae,g0,g1,g4,g12,g13]
    iterate 6 refine cG ?_
    refine⟨?_,?_,?_,?_,?_,?_,?_,?_⟩
    ·omega
    ·omega
    ·omega
    ·omega
    ·omega
    ·exact hS
    ·exact hp
    ·exact hW
   have d1:decide ((i:Int)>(j:Int))=false:=bj;obtain⟨F1,F2,H3,p8,wI,vH,l1,l2,s1,s2,e3,oY,nQ,lN⟩:=kY R hS hp (i:=i) (j:=j) (by omega) (by omega);have c1:=eT (i:=i) (n:=n);have c2:=eT (i:=j) (n:=n);have w2:=wz (z:=(i:Int)+1) (m:=i+1);have w3:=wz (z:=(j:Int)-1) (m:=j-1);simp only[↓aL,aM,aJ,↓reduceIte,aa,ah,ae,hl,g0,hD,g12,g13,d1,c1,c2,w2,w3,l1,l2,s1,s2,e3];refine bK ?_;refine⟨_,?_,i+1,j-1,p8,H3,rfl,(by simp[bc,hl]),?_⟩
   ·first|omega|(simp;omega)
   simp only[aZ,hl,aa,ae,g0,g1,g4]
   iterate 6 refine cG ?_
   refine⟨?_,?_,?_,?_,?_,?_,?_,?_⟩
   ·omega
   ·omega
   ·omega
   ·omega
   ·omega
   ·exact oY
   ·exact lN
   ·exact hW.trans nQ
  clear hl g0 g1 g4 g12 g13 ts;rintro ts H ⟨i2,j2,js,H1,hl,g0,g1,g4,g12,g13,rfl,hi,FE,hj,MS,tA,hS,hp,hW⟩;obtain⟨F1,F2,H3,p8,wI,vH,l1,l2,s1,s2,e3,oY,nQ,lN⟩:=kY R hS hp (i:=j2) (j:=a) (by omega) (by omega);have c1:=eT (i:=j2) (n:=n);have c2:=eT (i:=a) (n:=n);simp only[↓aL,aM,aJ,↓reduceIte,aa,ah,ae,hl,g0,hD,g1,g13,c1,c2,l1,l2,s1,s2,e3];exact⟨j2,_,by omega,by omega,rfl,rfl,hW.trans nQ,p8,oY,lN⟩
def bl(m:Nat):Nat:=if m=0 then 0 else Nat.log2 m+1
def adN(o:Nat->List AV->Option AV):(aN1 128).map (fun m=>call (EN o) 20 210 [.int .u64 ((m:Nat):Int)])=(aN1 128).map (fun m=>some (.int .i64 ((bl m:Nat):Int))):=by kernel_rfl
def Dd{m:Nat}(h:m<128):aR E 210 [.int .u64 (m:Int)]=some (.int .i64 ((bl m:Nat):Int)):=by
 refine IZ (n:=20) (by kernel_rfl) fun o=>?_
 have:=congrArg (fun l=>l[m]?) (adN o)
 simpa[h]using this
def an6{m:Nat}(h:m<128):bl m<=7:=by
 have:∀m:Fin 128,bl m.1<=7:=by decide+kernel
 exact this ⟨m,h⟩
def ah4{m:Nat}(h:m<128)(h0:0<m):2^bl m<=2*m:=by
 have:∀m:Fin 128,0<m.1->2^bl m.1<=2*m.1:=by decide+kernel
 exact this ⟨m,h⟩ h0
def S6{m:Nat}(h:m<128):aR E 283 [.int .i64 (m:Int)]=some (.int .u64 ((2^bl m:Nat):Int)):=by
 suffices hh:∃r,aR E 283 [.int .i64 (m:Int)]=some r/\r=.int .u64 ((2^bl m:Nat):Int)by obtain⟨r,h1,rfl⟩:=hh;exact h1
 have zO:=Dd (E:=E) h;have hb:=an6 h;have w1:aW .u64 (m:Int)=(m:Int):=wrap_u64;have hp:2^bl m<=2^7:=Nat.pow_le_pow_right (by omega) hb;have r8:∀{c:Bool} {t:Nat},cd E c .shl t (.int .u64 1) (.int .i64 ((bl m:Nat):Int))=some (.int .u64 ((2^bl m:Nat):Int)):=by
  intro c t
  have:=xR (E:=E) (c:=c) (t:=t) (k:=.u64) (k':=.i64) (a:=1) (n:=bl m) (by have:IntKind.u64.bits=64:=rfl;omega)
  rw[Nat.one_mul,wrap_u64]at this;exact this
 refine qj arV ?_;intro ts hl g0;unfold apy;simp only[↓aL,aM,↓aT,aJ,aa,ae,Tryz.f283,↓eh Up yp,hl,g0,w1,zO,r8]
def SY{H0:Hp}{b:Nat}{z:Int}(h:H0[b]?=some (.cells .live [.int .u64 z])):
  ∃r H',cR E 284 [.bI b 0] H0=some (r,H')/\∃z',r=.int .u64 z'/\H'=cJ H0 b (.cells .live [.int .u64 z']):=by
 have ek:b<H0.length:=(aKB.1 h).1;have Im:∀{z:Int} {H:Hp},H[b]?=some (.cells .live [.int .u64 z])->cellAt H b 0=some (.int .u64 z):=fun hh=>by rw[bX,hh];rfl
 have dp:∀{z y:Int} {H:Hp},H[b]?=some (.cells .live [.int .u64 z])->gT 1 [.int .u64 y] H b 0=some (.cells .live [.int .u64 y]):=fun hh=>by rw[dX,hh];rfl
 have Sr:∀{y:Int},(cJ H0 b (.cells .live [.int .u64 y]))[b]?=some (.cells .live [.int .u64 y]):=by intro y;unfold cJ;rw[if_pos ek,aNv ek]
 have hpp:∀{x y:ct},cJ (cJ H0 b x) b y=cJ H0 b y:=by intro x y;unfold cJ;rw[if_pos ek,aPI,if_pos ek,if_pos ek,List.set_set]
 have akQ:∀{x y:Int},∃w,∀{c:Bool} {t:Nat},cd E c .xor t (.int .u64 x) (.int .u64 y)=some (.int .u64 w):=⟨_,rfl⟩;have atD:∀{x:Int} {n:Nat},∃w,∀{c:Bool} {t:Nat},cd E c .shl t (.int .u64 x) (.int .u64 (n:Int))=some (.int .u64 w):=fun{x n}=>⟨aW .u64 (x*2^(min (n:Int).toNat IntKind.u64.bits)),by
  intro c t;unfold cd;simp only[if_neg (show¬(n:Int)<0 by omega)]⟩
 have ado:∀{x:Int} {n:Nat},∃w,∀{c:Bool} {t:Nat},cd E c .shr t (.int .u64 x) (.int .u64 (n:Int))=some (.int .u64 w):=fun{x n}=>⟨x.fdiv (2^(min (n:Int).toNat IntKind.u64.bits)),by
  intro c t;unfold cd;simp only[if_neg (show¬(n:Int)<0 by omega)]⟩
 obtain⟨a1,vE⟩:=atD (x:=z) (n:=13);obtain⟨a2,CU⟩:=akQ (x:=z) (y:=a1);obtain⟨a3,ha3⟩:=ado (x:=a2) (n:=7);obtain⟨a4,ha4⟩:=akQ (x:=a2) (y:=a3);obtain⟨a5,ha5⟩:=atD (x:=a4) (n:=17);obtain⟨a6,ha6⟩:=akQ (x:=a4) (y:=a5);rw[show(((13:Nat):Int))=13 from rfl]at vE;rw[show(((7:Nat):Int))=7 from rfl]at ha3;rw[show(((17:Nat):Int))=17 from rfl]at ha5;have l0:=Im h;have s0:=dp (y:=a2) h;have l1:=Im (Sr (y:=a2));have s1:=dp (y:=a4) (Sr (y:=a2));have l2:=Im (Sr (y:=a4));have s2:=dp (y:=a6) (Sr (y:=a4));have l3:=Im (Sr (y:=a6));refine gi1 (fV C) (by rw[C.fn];exact arW) (by decide) ?_;intro ts hl g0;unfold apz;simp only[↓aL,aM,aJ,aa,ah,ae,Tryz.f284,hl,g0,l0,s0,l1,s1,l2,s2,l3,vE,CU,ha3,ha4,ha5,ha6,hpp,Oe];exact⟨_,rfl,rfl⟩
def zW{K u0 u1 u2 u3 u4 u5 u6 u7 u8 u9 vg sH sA sB:Nat}(I:lf K u0 u1 u2 u3 u4 u5 u6 u7 u8 u9 vg sH sA sB){b n kc g:Nat}{row:Nat->List AV}{mQ:List Nat}{H0:Hp}{cz:Nat->Nat->Int}(R:qS K row)(hg:bF E g=false)(hc:∀p q,p<n->q<n->aR E g [.agg (row p),.agg (row q)]=some (.int .i64 (cz p q)))(wF:SR H0 b row mQ)(sy:mQ.Perm (aN1 n))(hn:n<=1000000){i j L:Nat}{z:Int}(hi:i<n)(hj:j<n)(hL:b≠L)(hB:H0[L]?=some (.cells .live [.int .i64 z])):
  ∃r H',cR E u7 [.aI b 0 n K kc,.int .i64 (i:Int),.int .i64 (j:Int),.bI L 0,.func g [] []] H0=some (r,H')/\∃p q:Nat,((p=i/\q=j)∨(p=j/\q=i))/\r=.tuple [.int .i64 (p:Int),.int .i64 (q:Int)]/\BX L H0 H':=by
 obtain⟨D,hD⟩:∃D,D=AV.aI b 0 n K kc:=⟨_,rfl⟩;have I0:=I;cases I
 all_goals
  have kU:=fun{dr st:Bool} {bl:List AV} {H:Hp} {k:AV->cC->Prop}=>kH (E:=E) (dr:=dr) (st:=st) (f:=g) (bl:=bl) (H:=H) (k:=k) hg
  have pr:=R.pure;have ek:L<H0.length:=(aKB.1 hB).1;have l0:cellAt H0 L 0=some (.int .i64 z):=by rw[bX,hB];rfl
  have s0:∀{y:Int},gT 1 [.int .i64 y] H0 L 0=some (.cells .live [.int .i64 y]):=by intro y;rw[dX,hB];rfl
  obtain⟨hx,lx⟩:=FZ R wF sy (i:=i) (by omega);obtain⟨hy,ly⟩:=FZ R wF sy (i:=j) (by omega);have c1:=eT (i:=i) (n:=n);have c2:=eT (i:=j) (n:=n);have iV:=hc _ _ hy hx;generalize C2:cz (mQ.getD j 0) (mQ.getD i 0)=zz at iV;refine gi5 (fV C) (by rw[C.fn];first|with_reducible exact ar5|with_reducible exact ar4) (by decide) ?_;intro ts hl g0 g1 g2 g3 g4;rw[<-hD]at g0
  first|unfold apN|unfold apM
  by_cases hz:zz<0
  ·have dz:decide (zz<0)=true:=bh hz;simp only[↓aL,aM,aJ,↓reduceIte,aa,ah,ae,Tryz.f310,Tryz.f309,hl,g0,hD,g1,g2,g3,g4,c1,c2,lx,ly,kU,iV,pr,dz,l0,s0,Oe];refine⟨j,i,.inr ⟨rfl,rfl⟩,rfl,?_,?_,?_⟩
   ·unfold cJ;rw[if_pos ek,aPI]
   ·intro c hc;unfold cJ;rw[if_pos ek,aNt (Ne.symm hc)]
   ·exact⟨_,by unfold cJ;rw[if_pos ek,aNv ek]⟩
  ·have dz:decide (zz<0)=false:=bj hz;simp only[↓aL,aM,aJ,↓reduceIte,aa,ah,ae,Tryz.f310,Tryz.f309,hl,g0,hD,g1,g2,g4,c1,c2,lx,ly,kU,iV,pr,dz];exact⟨i,j,.inl ⟨rfl,rfl⟩,rfl,.refl hB⟩
def zU{K u0 u1 u2 u3 u4 u5 u6 u7 u8 u9 vg sH sA sB:Nat}(I:lf K u0 u1 u2 u3 u4 u5 u6 u7 u8 u9 vg sH sA sB){b n kc g:Nat}{row:Nat->List AV}{mQ:List Nat}{H0:Hp}{cz:Nat->Nat->Int}(R:qS K row)(hg:bF E g=false)(hc:∀p q,p<n->q<n->aR E g [.agg (row p),.agg (row q)]=some (.int .i64 (cz p q)))(wF:SR H0 b row mQ)(sy:mQ.Perm (aN1 n))(hn:n<=1000000){i j k L:Nat}{z:Int}(hi:i<n)(hj:j<n)(hk:k<n)(hL:b≠L)(hB:H0[L]?=some (.cells .live [.int .i64 z])):
  ∃r H',cR E u8 [.aI b 0 n K kc,.int .i64 (i:Int),.int .i64 (j:Int),.int .i64 (k:Int),.bI L 0,.func g [] []] H0=some (r,H')/\∃m:Nat,(m=i∨m=j∨m=k)/\r=.int .i64 (m:Int)/\BX L H0 H':=by
 obtain⟨D,hD⟩:∃D,D=AV.aI b 0 n K kc:=⟨_,rfl⟩;have I0:=I;cases I
 all_goals
  obtain⟨r1,H1,e1,p1,q1,o1,rfl,b1⟩:=zW (E:=E) (kc:=kc) I0 R hg hc wF sy hn hi hj hL hB;obtain⟨z1,Um⟩:=b1.box;obtain⟨r2,H2,e2,p2,q2,o2,rfl,b2⟩:=zW (E:=E) (kc:=kc) I0 R hg hc (b1.sr hL wF) sy hn (i:=q1) (j:=k) (by omega) hk hL Um;obtain⟨z2,Uo⟩:=b2.box;obtain⟨r3,H3,e3,p3,q3,o3,rfl,b3⟩:=zW (E:=E) (kc:=kc) I0 R hg hc (b2.sr hL (b1.sr hL wF)) sy hn (i:=p1) (j:=p2) (by omega) (by omega) hL Uo;refine gi6 (fV C) (by rw[C.fn];first|with_reducible exact ar1|with_reducible exact arY) (by decide) ?_;intro ts hl g0 g1 g2 g3 g4 g5;rw[<-hD]at g0
  first|unfold apE|unfold apB
  simp only[↓aL,aM,↓aT,aJ,aa,ae,Tryz.f289,Tryz.f286,hl,g0,hD,g1,g2,g3,g4,g5,e1,e2,e3];exact⟨q3,by omega,rfl,(b1.trans b2).trans b3⟩
def wL{K u0 u1 u2 u3 u4 u5 u6 u7 u8 u9 vg sH sA sB:Nat}(I:lf K u0 u1 u2 u3 u4 u5 u6 u7 u8 u9 vg sH sA sB){b n kc g:Nat}{row:Nat->List AV}{mQ:List Nat}{H0:Hp}{cz:Nat->Nat->Int}(R:qS K row)(hg:bF E g=false)(hc:∀p q,p<n->q<n->aR E g [.agg (row p),.agg (row q)]=some (.int .i64 (cz p q)))(wF:SR H0 b row mQ)(sy:mQ.Perm (aN1 n))(hn:n<=1000000){i L:Nat}{z:Int}(h1:1<=i)(hi:i+1<n)(hL:b≠L)(hB:H0[L]?=some (.cells .live [.int .i64 z])):
  ∃r H',cR E u9 [.aI b 0 n K kc,.int .i64 (i:Int),.bI L 0,.func g [] []] H0=some (r,H')/\∃m:Nat,(i<=m+1/\m<=i+1)/\r=.int .i64 (m:Int)/\BX L H0 H':=by
 obtain⟨D,hD⟩:∃D,D=AV.aI b 0 n K kc:=⟨_,rfl⟩;have I0:=I;cases I
 all_goals
  obtain⟨r1,H1,e1,m,o1,rfl,b1⟩:=zU (E:=E) (kc:=kc) I0 R hg hc wF sy hn (i:=i-1) (j:=i) (k:=i+1) (by omega) (by omega) hi hL hB;have w1:=wz (z:=(i:Int)-1) (m:=i-1);have w2:=wz (z:=(i:Int)+1) (m:=i+1);refine gi4 (fV C) (by rw[C.fn];first|with_reducible exact ar0|with_reducible exact arX) (by decide) ?_;intro ts hl g0 g1 g2 g3;rw[<-hD]at g0
  first|unfold apD|unfold apA
  simp only[↓aL,aM,↓aT,aJ,aa,ae,Tryz.f288,Tryz.f285,hl,g0,hD,g1,g2,g3,w1,w2,e1];exact⟨m,by omega,rfl,b1⟩
def SC{K u0 u1 u2 u3 u4 u5 u6 u7 u8 u9 vg sH sA sB:Nat}(I:lf K u0 u1 u2 u3 u4 u5 u6 u7 u8 u9 vg sH sA sB){b n kc g:Nat}{row:Nat->List AV}{mQ:List Nat}{H0:Hp}{cz:Nat->Nat->Int}(R:qS K row)(hg:bF E g=false)(hc:∀p q,p<n->q<n->aR E g [.agg (row p),.agg (row q)]=some (.int .i64 (cz p q)))(wF:SR H0 b row mQ)(sy:mQ.Perm (aN1 n))(hn:n<=1000000){a c:Nat}(EC:a+12<c)(nu:c<=n):
  ∃r H',cR E vg [.aI b 0 n K kc,.int .i64 (a:Int),.int .i64 (c:Int),.func g [] []] H0=some (r,H')/\∃(m:Nat) (h:Int),a<=m/\m<c/\(h=0∨h=1∨h=2)/\r=.tuple [.int .i64 (m:Int),.int .i64 h]/\HW b H0 H'/\SR H' b row mQ:=by
 obtain⟨D,hD⟩:∃D,D=AV.aI b 0 n K kc:=⟨_,rfl⟩;have I0:=I;cases I
 all_goals
  obtain⟨l,rfl⟩:∃l,c=a+l:=⟨c-a,by omega⟩;have aj3:=wF.lt;have hS1:SR (H0++[.cells .live [.int .i64 0]]) b row mQ:=by unfold SR;rw[aNB aj3];exact wF
  have hB1:(H0++[ct.cells .live [.int .i64 0]])[H0.length]?=some (.cells .live [.int .i64 0]):=by rw[aTh (Nat.le_refl _)];simp
  have w0:=wz (z:=((a+l:Nat):Int)-(a:Int)) (m:=l);have q1:∀{cc:Bool} {t:Nat},cd E cc .quo t (.int .i64 (l:Int)) (.int .i64 4)=some (.int .i64 ((l/4:Nat):Int)):=fun{cc t}=>aek (d:=4)
  obtain⟨s,hs⟩:∃s,s=l/4:=⟨_,rfl⟩;rw[<-hs]at q1;have u1:=wz (z:=(s:Int)*1) (m:=s);have u2:=wz (z:=(s:Int)*2) (m:=s*2);have u3:=wz (z:=(s:Int)*3) (m:=s*3);have v1:=wz (z:=(a:Int)+(s:Int)) (m:=a+s);have v2:=wz (z:=(a:Int)+((s*2:Nat):Int)) (m:=a+s*2);have v3:=wz (z:=(a:Int)+((s*3:Nat):Int)) (m:=a+s*3);have d8:decide ((l:Int)≥8)=true:=bh;refine gi4 (fV C) (by rw[C.fn];first|with_reducible exact arN|with_reducible exact arG) (by decide) ?_;intro ts hl g0 g1 g2 g3;rw[<-hD]at g0
  first|unfold apr|unfold apj
  by_cases h50:50<=l
  ·have d50:decide ((l:Int)≥50)=true:=bh;obtain⟨r1,H1,e1,m1,o1,rfl,b1⟩:=wL (E:=E) (kc:=kc) I0 R hg hc hS1 sy hn (i:=a+s) (by omega) (by omega) (by omega) hB1;obtain⟨z1,Um⟩:=b1.box;obtain⟨r2,H2,e2,m2,o2,rfl,b2⟩:=wL (E:=E) (kc:=kc) I0 R hg hc (b1.sr (by omega) hS1) sy hn (i:=a+s*2) (by omega) (by omega) (by omega) Um;obtain⟨z2,Uo⟩:=b2.box;obtain⟨r3,H3,e3,m3,o3,rfl,b3⟩:=wL (E:=E) (kc:=kc) I0 R hg hc ((b1.trans b2).sr (by omega) hS1) sy hn (i:=a+s*3) (by omega) (by omega) (by omega) Uo;obtain⟨z3,hz3⟩:=b3.box;obtain⟨r4,Hf,hf,m,o4,rfl,b4⟩:=zU (E:=E) (kc:=kc) I0 R hg hc (((b1.trans b2).trans b3).sr (by omega) hS1) sy hn (i:=m1) (j:=m2) (k:=m3) (by omega) (by omega) (by omega) (by omega) hz3;have bf:=((b1.trans b2).trans b3).trans b4;obtain⟨zb,hzb⟩:=bf.box;have l0:cellAt Hf H0.length 0=some (.int .i64 zb):=by rw[bX,hzb];rfl
   have hHW:HW b H0 Hf:=⟨by rw[bf.le,aLk];omega,fun x hx eQ=>by rw[bf.get x (by omega),aNB hx]⟩;have hSf:SR Hf b row mQ:=bf.sr (by omega) hS1;by_cases h0:zb=0
   ·have b0:(zb==0)=true:=by simp[h0]
    simp only[↓aL,aM,↓aT,aJ,aa,ae,Tryz.f254,Tryz.f245,hl,g0,hD,g1,g2,g3,w0,q1,u1,u2,u3,v1,v2,v3,d8,l0,b0,hf,d50,e1,e2,e3,DE];exact⟨m,1,by omega,by omega,by omega,rfl,hHW,hSf⟩
   have b0:(zb==0)=false:=by simp[h0]
   by_cases h12:zb=12
   ·have b12:(zb==12)=true:=by simp[h12]
    simp only[↓aL,aM,↓aT,aJ,aa,ae,Tryz.f254,Tryz.f245,hl,g0,hD,g1,g2,g3,w0,q1,u1,u2,u3,v1,v2,v3,d8,l0,b0,b12,hf,d50,e1,e2,e3,DE];exact⟨m,2,by omega,by omega,by omega,rfl,hHW,hSf⟩
   have b12:(zb==12)=false:=by simp[h12]
   simp only[↓aL,aM,↓aT,aJ,aa,ae,Tryz.f254,Tryz.f245,hl,g0,hD,g1,g2,g3,w0,q1,u1,u2,u3,v1,v2,v3,d8,l0,b0,b12,hf,d50,e1,e2,e3,DE];exact⟨m,0,by omega,by omega,by omega,rfl,hHW,hSf⟩
  ·have d50:decide ((l:Int)≥50)=false:=bj;obtain⟨r4,Hf,hf,m,o4,rfl,bf⟩:=zU (E:=E) (kc:=kc) I0 R hg hc hS1 sy hn (i:=a+s) (j:=a+s*2) (k:=a+s*3) (by omega) (by omega) (by omega) (by omega) hB1;obtain⟨zb,hzb⟩:=bf.box;have l0:cellAt Hf H0.length 0=some (.int .i64 zb):=by rw[bX,hzb];rfl
   have hHW:HW b H0 Hf:=⟨by rw[bf.le,aLk];omega,fun x hx eQ=>by rw[bf.get x (by omega),aNB hx]⟩;have hSf:SR Hf b row mQ:=bf.sr (by omega) hS1;by_cases h0:zb=0
   ·have b0:(zb==0)=true:=by simp[h0]
    simp only[↓aL,aM,↓aT,aJ,aa,ae,Tryz.f254,Tryz.f245,hl,g0,hD,g1,g2,g3,w0,q1,u1,u2,u3,v1,v2,v3,d8,l0,b0,hf,d50,DE];exact⟨m,1,by omega,by omega,by omega,rfl,hHW,hSf⟩
   have b0:(zb==0)=false:=by simp[h0]
   by_cases h12:zb=12
   ·have b12:(zb==12)=true:=by simp[h12]
    simp only[↓aL,aM,↓aT,aJ,aa,ae,Tryz.f254,Tryz.f245,hl,g0,hD,g1,g2,g3,w0,q1,u1,u2,u3,v1,v2,v3,d8,l0,b0,b12,hf,d50,DE];exact⟨m,2,by omega,by omega,by omega,rfl,hHW,hSf⟩
   have b12:(zb==12)=false:=by simp[h12]
   simp only[↓aL,aM,↓aT,aJ,aa,ae,Tryz.f254,Tryz.f245,hl,g0,hD,g1,g2,g3,w0,q1,u1,u2,u3,v1,v2,v3,d8,l0,b0,b12,hf,d50,DE];exact⟨m,0,by omega,by omega,by omega,rfl,hHW,hSf⟩
def Sx{K u0 u1 u2 u3 u4 u5 u6 u7 u8 u9 vg sH sA sB:Nat}(I:lf K u0 u1 u2 u3 u4 u5 u6 u7 u8 u9 vg sH sA sB){b n kc g:Nat}{row:Nat->List AV}{mQ:List Nat}{H0:Hp}{cz:Nat->Nat->Int}(R:qS K row)(hg:bF E g=false)(hc:∀p q,p<n->q<n->aR E g [.agg (row p),.agg (row q)]=some (.int .i64 (cz p q)))(wF:SR H0 b row mQ)(sy:mQ.Perm (aN1 n))(hn:n<=1000000){a c:Nat}(EC:a+12<c)(nu:c<=n)(xh:n<128):
  ∃r H',cR E sH [.aI b 0 n K kc,.int .i64 (a:Int),.int .i64 (c:Int),.func g [] []] H0=some (r,H')/\pP b n row H0 r H':=by
 obtain⟨D,hD⟩:∃D,D=AV.aI b 0 n K kc:=⟨_,rfl⟩;have I0:=I;cases I
 all_goals
  obtain⟨l,rfl⟩:∃l,c=a+l:=⟨c-a,by omega⟩;have aj3:=wF.lt;have w0:=wz (z:=((a+l:Nat):Int)-(a:Int)) (m:=l);have q1:∀{cc:Bool} {t:Nat},cd E cc .quo t (.int .i64 (l:Int)) (.int .i64 4)=some (.int .i64 ((l/4:Nat):Int)):=fun{cc t}=>aek (d:=4)
  obtain⟨s,hs⟩:∃s,s=l/4:=⟨_,rfl⟩;rw[<-hs]at q1;have u2:=wz (z:=(s:Int)*2) (m:=s*2);have v2:=wz (z:=(a:Int)+((s*2:Nat):Int)) (m:=a+s*2);have v3:=wz (z:=((a+s*2:Nat):Int)-1) (m:=a+s*2-1);have v4:=wz (z:=((a+s*2:Nat):Int)+1) (m:=a+s*2+1);have d8:decide ((l:Int)≥8)=true:=bh;have x1:aW .u64 (l:Int)=(l:Int):=wrap_u64;have hnp:=S6 (E:=E) (m:=l) (by omega);have hpw:=ah4 (m:=l) (by omega) (by omega);have hpp:0<2^bl l:=Nat.pow_pos (by omega);generalize hP:2^bl l=P at hnp hpw hpp;refine gi4 (fV C) (by rw[C.fn];first|with_reducible exact arM|with_reducible exact arF) (by decide) ?_;intro ts hl g0 g1 g2 g3;rw[<-hD]at g0
  first|unfold apq|unfold api
  simp only[↓aL,aM,↓aT,aJ,cH,↓reduceIte,aa,ae,Tryz.f253,Tryz.f244,↓eh Up auh,hl,g1,g2,w0,d8,x1,hnp,q1,u2,v2,v3];have azz:∀{z:Int},SR (H0++[.cells .live [.int .u64 z]]) b row mQ:=by intro z;unfold SR;rw[aNB aj3];exact wF
  refine cE (fun k_ ts H=>∃x:Nat,∃z,∃js,∃H1,k_=(a+s*2+2-x:Nat)/\ts.length=67/\gt ts 0=D/\gt ts 1=.int .i64 (a:Int)/\gt ts 8=.int .i64 (l:Int)/\gt ts 9=.bI H0.length 0/\gt ts 10=.int .u64 (P:Int)/\gt ts 11=.int .i64 (x:Int)/\H=H1/\(x<=a+s*2+2)/\(H1[H0.length]?=some (.cells .live [.int .u64 z]))/\(SR H1 b row js)/\(js.Perm (aN1 n))/\(HW b H0 H1)) (a+s*2+2-(a+s*2-1)) ?_ ?_
  rotate_left
  ·refine⟨a+s*2-1,(l:Int),mQ,(H0++[.cells .live [.int .u64 (l:Int)]]),(by first|omega|rfl|simp),(by simp[bc,hl]),?_⟩;simp only[aZ,hl,aa,ae,g0,g1]
   iterate 7 refine cG ?_
   refine⟨?_,?_,?_,?_,?_⟩
   ·first|omega|trivial
   ·first|(rw[aTh (Nat.le_refl _)];simp)|trivial
   ·first|exact azz|trivial
   ·first|exact sy|trivial
   ·first|(exact⟨by rw[aLk];omega,fun c hc eQ=>by rw[aNB hc]⟩)|trivial
  clear hl g0 g1 g2 g3 ts;rintro k_ ts H ⟨x,z,js,H1,rfl,hl,g0,g1,g8,g9,g10,g11,rfl,hx,hB,hS,hp,hW⟩;refine VS ?_;by_cases hd:x<=a+s*2+1
  rotate_left
  ·have d1:decide ((x:Int)<=((a+s*2+1:Nat):Int))=false:=bj;simp only[↓aL,aM,↓reduceIte,aa,ae,hl,g1,g8,g11,q1,u2,v2,v4,d1];exact⟨rfl,hW,js,hS,hp⟩
  have d1:decide ((x:Int)<=((a+s*2+1:Nat):Int))=true:=bh;have ac2:H0.length<H.length:=(aKB.1 hB).1;obtain⟨r2,H2,wH,z2,rfl,yW⟩:=SY (E:=E) hB;have hB2:H2[H0.length]?=some (.cells .live [.int .u64 z2]):=by rw[yW];unfold cJ;rw[if_pos ac2,aNv ac2]
  have hg2:∀c,c≠H0.length->H2[c]?=H[c]?:=fun c hc=>by rw[yW];unfold cJ;rw[if_pos ac2,aNt (Ne.symm hc)]
  have azw:H2.length=H.length:=by rw[yW];unfold cJ;rw[if_pos ac2,aPI]
  have zK:SR H2 b row js:=by unfold SR;rw[hg2 b (by omega)];exact hS
  have Bg:HW b H0 H2:=⟨by rw[azw];exact hW.le,fun c hc eQ=>(hg2 c (by omega)).trans (hW.get c hc eQ)⟩;have y1:aW .u64 ((P:Int)-1)=((P-1:Nat):Int):=by rw[show(P:Int)-1=((P-1:Nat):Int)by omega];exact wrap_u64
  obtain⟨o,ho,hand⟩:∃o:Nat,o<=P-1/\∀{cc:Bool} {t:Nat},cd E cc .and t (.int .u64 z2) (.int .u64 ((P-1:Nat):Int))=some (.int .u64 (o:Int)):=by
   refine⟨(BitVec.ofInt 64 z2&&&BitVec.ofInt 64 ((P-1:Nat):Int)).toNat,?_,fun{cc t}=>?_⟩
   ·rw[BitVec.toNat_and];refine Nat.le_trans Nat.and_le_right ?_;rw[BitVec.toNat_ofInt];omega
   ·show some (AV.int .u64 (aW .u64 ((BitVec.ofInt 64 z2&&&BitVec.ofInt 64 ((P-1:Nat):Int)).toNat:Int)))=_
    rw[wrap_u64 (BitVec.isLt _)]
  have y2:=wz (z:=(o:Int)) (m:=o) rfl;have x2:=wz (z:=(x:Int)+1) (m:=x+1);by_cases hol:l<=o
  ·have d2:decide ((o:Int)≥(l:Int))=true:=bh;have y3:=wz (z:=(o:Int)-(l:Int)) (m:=o-l);have y4:=wz (z:=(a:Int)+((o-l:Nat):Int)) (m:=a+(o-l));obtain⟨F1,F2,H3,p8,wI,vH,l1,l2,s1,s2,e3,oY,nQ,lN⟩:=kY R zK hp (i:=x) (j:=a+(o-l)) (by omega) (by omega);have c1:=eT (i:=x) (n:=n);have c2:=eT (i:=a+(o-l)) (n:=n);simp only[↓aL,aM,↓aT,aJ,↓reduceIte,aa,ah,ae,↓eh yp Up,hl,g0,hD,g1,g8,g9,g10,g11,q1,u2,v2,v4,d1,d2,wH,y1,hand,y2,y3,y4,x2,c1,c2,l1,l2,s1,s2,e3];refine bK ?_;refine⟨_,?_,x+1,z2,p8,H3,rfl,(by simp[bc,hl]),?_⟩
   ·first|omega|(simp;omega)
   simp only[aZ,hl,aa,ae,g0,g1,g8,g9,g10]
   iterate 7 refine cG ?_
   refine⟨?_,?_,?_,?_,?_⟩
   ·omega
   ·rw[nQ.get _ (by omega) (by omega)];exact hB2
   ·exact oY
   ·exact lN
   ·exact Bg.trans nQ
  ·have d2:decide ((o:Int)≥(l:Int))=false:=bj;have y4:=wz (z:=(a:Int)+(o:Int)) (m:=a+o);obtain⟨F1,F2,H3,p8,wI,vH,l1,l2,s1,s2,e3,oY,nQ,lN⟩:=kY R zK hp (i:=x) (j:=a+o) (by omega) (by omega);have c1:=eT (i:=x) (n:=n);have c2:=eT (i:=a+o) (n:=n);simp only[↓aL,aM,↓aT,aJ,↓reduceIte,aa,ah,ae,↓eh yp Up,hl,g0,hD,g1,g8,g9,g10,g11,q1,u2,v2,v4,d1,d2,wH,y1,hand,y2,y4,x2,c1,c2,l1,l2,s1,s2,e3];refine bK ?_;refine⟨_,?_,x+1,z2,p8,H3,rfl,(by simp[bc,hl]),?_⟩
   ·first|omega|(simp;omega)
   simp only[aZ,hl,aa,ae,g0,g1,g8,g9,g10]
   iterate 7 refine cG ?_
   refine⟨?_,?_,?_,?_,?_⟩
   ·omega
   ·rw[nQ.get _ (by omega) (by omega)];exact hB2
   ·exact oY
   ·exact lN
   ·exact Bg.trans nQ
end Go.Proofs.YtmkjgfnicfpjpaaGreatDoor
