/- Lemmas for AssemblyRefuses; no condition. -/
import Derived.Test.YtmkjgfnicfpjpaaGreatDoorRbg
import Derived.Test.YtmkjgfnicfpjpaaGreatDoorRay
set_option linter.all false
set_option maxHeartbeats 100000000
set_option maxRecDepth 100000
noncomputable section
open List renaming getElem_mem->aMg,not_mem_nil->aV0,getElem?_eq_getElem->aL6,map_eq_cons_iff->aXB,ext_getElem->aXC,getD_eq_getElem?_getD->aT1,mem_cons->aNe,length_append->aL9,append_assoc->aUi,length->aXD,mem_append_left->aOu,map_eq_nil_iff->aXE,getElem_map->aOV,cons_append->aRk
open Nat renaming lt_or_eq_of_le->aUh,le_of_lt_succ->aUl,reduceLT->aa,reduceEqDiff->ae,reduceAdd->ah,reduceBEq->aj
open Option renaming some->aLS,map_some->aMi
open Bool renaming and_eq_true->aM6
namespace Go.Proofs.YtmkjgfnicfpjpaaGreatDoor
open Go Dv Dv.dk
variable{E:Env}[C:Ctx E]
def gU(p:qu):List UInt8×Int×List (List I3):=(p.nm,p.dn,p.cl.map (·.2))
deriving instance DecidableEq for I3
def II{c:Bool}{a b:I3}:cp E c .neq 89 (.agg [.int .i64 a.x,.int .i64 a.y,.int .i64 a.z]) (.agg [.int .i64 b.x,.int .i64 b.y,.int .i64 b.z])=some (.bool (!decide (a=b))):=by
 have h:GP E 89 3 3=true:=Cx C;have e1:=yu (E:=E) (m:=18) (t:=89) (n:=3) h (Ba C) (xs:=[a.x,a.y,a.z]) (ys:=[b.x,b.y,b.z]) rfl rfl;have e:decide ([a.x,a.y,a.z]=[b.x,b.y,b.z])=decide (a=b):=by
  obtain⟨a1,a2,a3⟩:=a;obtain⟨b1,b2,b3⟩:=b
  rw[decide_eq_decide];simp
 rw[e]at e1;unfold GP at h;cases hi:E.ty 89 with
 |none=>rw[hi]at h;cases h
 |some i=>
  rw[hi]at h;obtain⟨cD,jA,jS,jB,jZ,dK⟩:=i;cases cD<;>first|(cases h;done)|skip
  simp only[aM6]at h;obtain⟨h1,-⟩:=h;subst h1;have e2:nP E 20 89 (.agg [.int .i64 a.x,.int .i64 a.y,.int .i64 a.z]) (.agg [.int .i64 b.x,.int .i64 b.y,.int .i64 b.z])=some (decide (a=b)):=e1;simp[cp,cp.sa,hi,e2]
def Hs{α β:Type}{f:α->β}{l k:List α}{i:Nat}(h1:i<l.length)(h2:i<k.length)(h:f l[i]≠f k[i]):l.map f≠k.map f:=by
 intro e
 have:=congrArg (fun x=>x[i]?) e
 simp only[List.getElem?_map,aL6 h1,aL6 h2,aMi,aLS.injEq]at this;exact h this
def uN{α β:Type}{f:α->β}{l k:List α}(hl:l.length=k.length)(h:∀i (h1:i<l.length) (h2:i<k.length),f l[i]=f k[i]):l.map f=k.map f:=by
 refine aXC (by simpa using hl) fun i h1 h2=>?_
 rw[aOV,aOV];exact h i (by simpa using h1) (by simpa using h2)
def Tt{l k:List I3}(hl:l.length=k.length)(h:∀i,i<l.length->eU l i=eU k i):l=k:=by
 refine aXC hl fun i h1 h2=>?_
 have:=h i h1
 unfold eU at this;rw[aT1,aT1,aL6 h1,aL6 h2]at this;simpa using this
def TN{v w:AV}{l k:pX}(hv:SV v (AR l) l.length)(hw:SV w (AR k) k.length)(qp:∀p∈l,BW p)(hk:∀p∈k,BW p)(hn:l.length<=4611686018427387904)(hc:∀p∈l,p.cl.length<=4611686018427387904/\∀c∈p.cl,c.2.length<=4611686018427387904):
  aP E 14 [v,w]=some (.bool (decide (l.map gU=k.map gU))):=by
 suffices hh:∃r,aP E 14 [v,w]=some r/\r=.bool (decide (l.map gU=k.map gU))by obtain⟨r,h1,rfl⟩:=hh;exact h1
 obtain⟨D,hD⟩:∃D,D=decide (l.map gU=k.map gU):=⟨_,rfl⟩;rw[<-hD];have lv:=hv.len;have lw:=hw.len;have rv:=hv.root;have rw':=hw.root;refine oA ayh ?_;intro ts hl g0 g1;unfold c14;by_cases hlen:l.length=k.length
 rotate_left
 ·have b0:((l.length:Int)!=(k.length:Int))=true:=by
   have:(l.length:Int)≠(k.length:Int):=by omega
   simpa using this
  simp only[↓aL,aM,aJ,aa,ae,Tryz.f14,hl,g0,g1,lv,lw,b0];rw[hD,bh (fun e=>hlen (by simpa using congrArg aXD e))]
 have b0:((l.length:Int)!=(k.length:Int))=false:=by simp[hlen]
 simp only[↓aL,aM,aJ,aa,ae,Tryz.f14,hl,g0,g1,lv,lw,b0];refine cC (fun k_ ts H=>∃i:Nat,k_=(l.length-i:Nat)/\ts.length=108/\gt ts 0=v/\gt ts 1=w/\gt ts 5=.int .i64 (i:Int)/\H=[]/\(i<=l.length)/\(∀j (h1:j<l.length) (h2:j<k.length),j<i->gU l[j]=gU k[j])) (l.length) ?_ ?_
 rotate_left
 ·refine⟨0,(by first|omega|rfl|simp),(by simp[bc,hl]),?_⟩;simp only[aY,hl,aa,ae,g0,g1]
  iterate 4 refine cI ?_
  refine⟨?_,?_⟩
  ·first|omega|trivial
  ·first|(intro j _ _ hj;omega)|trivial
 clear hl g0 g1 ts;rintro k_ ts H ⟨i,rfl,hl,g0,g1,g5,rfl,hi,hq⟩;refine VS ?_;by_cases hd:i<l.length
 rotate_left
 ·have d1:decide ((i:Int)<(l.length:Int))=false:=bh (by omega);simp only[↓aL,aM,aJ,↓reduceIte,aa,ae,hl,g0,g5,lv,d1];rw[hD,bj (uN hlen fun j h1 h2=>hq j h1 h2 (by omega))]
 have wN:i<k.length:=by omega
 have d1:decide ((i:Int)<(l.length:Int))=true:=bj;have C4:AV.aK (AR l) l.length=v:=(hv.pos (by omega)).symm;have Iv:AV.aK (AR k) k.length=w:=(hw.pos (by omega)).symm;have ci:=eP (i:=i) (n:=l.length) hd;have Es:=eP (i:=i) (n:=k.length) wN;have lP:=wz (z:=(i:Int)+1) (m:=i+1);have p0:=KU (q:=0) hd (x:=.str (l[i]).nm) rfl;have p1:=KU (q:=1) hd (x:=.int .i64 (l[i]).dn) rfl;have p2:=KU (q:=2) hd (x:=(l[i]).cv) rfl;have q0:=KU (q:=0) wN (x:=.str (k[i]).nm) rfl;have q1:=KU (q:=1) wN (x:=.int .i64 (k[i]).dn) rfl;have q2:=KU (q:=2) wN (x:=(k[i]).cv) rfl;rw[Nat.add_zero]at p0 q0;have Bg:gU l[i]≠gU k[i]->D=false:=fun h=>by rw[hD];exact bh (Hs hd wN h)
 have qo:gU l[i]=gU k[i]->∀j (h1:j<l.length) (h2:j<k.length),j<i+1->gU l[j]=gU k[j]:=by
  intro h j h1 h2 xj;rcases aUh (aUl xj)with h3|rfl
  ·exact hq j h1 h2 h3
  ·exact h
 have hP:=qp _ (aMg hd);have hQ:=hk _ (aMg wN);have hcc:=hc _ (aMg hd);have AA:=hP.cv.sv.len;have hrc:=hP.cv.sv.root;have LU:=hP.cv.sv;have FD:=hP.cl;have klc:=hQ.cv.sv.len;have krc:=hQ.cv.sv.root;have ksc:=hQ.cv.sv;have kic:=hQ.cl;unfold gU at Bg qo;generalize l[i]=lp at*;generalize k[i]=kp at*;obtain⟨nm,dn,cv,cl⟩:=lp;obtain⟨nm',dn',cv',Fl⟩:=kp
 dsimp only at p0 p1 p2 q0 q1 q2 Bg qo hcc AA hrc LU FD klc krc ksc kic
 have BI:=fun{c:Bool}=>aeR (E:=E) (c:=c) (a:=nm) (b:=nm')
 subst C4;subst Iv;by_cases e1:nm=nm'
 rotate_left
 ·rw[bh e1]at BI;simp only[↓aL,aM,aJ,↓reduceIte,aa,ah,ae,hl,g0,g1,g5,lv,ci,Es,p0,q0,BI];rw[Bg (fun e=>e1 (by simp only[Prod.mk.injEq]at e;exact e.1))]
 rw[bj e1]at BI;by_cases e2:dn=dn'
 rotate_left
 ·have b2:(dn !=dn')=true:=by simpa using e2
  simp only[↓aL,aM,aJ,↓reduceIte,aa,ah,ae,hl,g0,g1,g5,lv,ci,Es,p0,p1,q0,q1,BI,b2];rw[Bg (fun e=>e2 (by simp only[Prod.mk.injEq]at e;exact e.2.1))]
 have b2:(dn !=dn')=false:=by simp[e2]
 by_cases e3:cl.length=Fl.length
 rotate_left
 ·have b3:((cl.length:Int)!=(Fl.length:Int))=true:=by
   have:(cl.length:Int)≠(Fl.length:Int):=by omega
   simpa using this
  simp only[↓aL,aM,aJ,↓reduceIte,aa,ah,ae,hl,g0,g1,g5,lv,ci,Es,p0,p1,p2,q0,q1,q2,BI,AA,klc,b2,b3];rw[Bg (fun e=>e3 (by simp only[Prod.mk.injEq]at e;simpa using congrArg aXD e.2.2))]
 have b3:((cl.length:Int)!=(Fl.length:Int))=false:=by simp[e3]
 simp only[↓aL,aM,aJ,↓reduceIte,aa,ah,ae,hl,g0,g1,g5,lv,ci,Es,p0,p1,p2,q0,q1,q2,BI,AA,klc,b2,b3];clear p0 p1 q0 q1;refine cC (fun k_ ts H=>∃j:Nat,k_=(cl.length-j:Nat)/\ts.length=108/\gt ts 0=.aK (AR l) l.length/\gt ts 1=.aK (AR k) k.length/\gt ts 5=.int .i64 (i:Int)/\gt ts 6=.int .i64 (j:Int)/\H=[]/\(j<=cl.length)/\(∀q (h1:q<cl.length) (h2:q<Fl.length),q<j->(cl[q]).2=(Fl[q]).2)) (cl.length) ?_ ?_
 rotate_left
 ·refine⟨0,(by first|omega|rfl|simp),(by simp[bc,hl]),?_⟩;simp only[aY,hl,aa,ae,g0,g1,g5]
  iterate 5 refine cI ?_
  refine⟨?_,?_⟩
  ·first|omega|trivial
  ·first|(intro q _ _ hj;omega)|trivial
 clear hl g0 g1 g5 ts;rintro k_ ts H ⟨j,rfl,hl,g0,g1,g5,g6,rfl,hj,hqj⟩;refine VS ?_;by_cases hdj:j<cl.length
 rotate_left
 ·have e5:decide ((j:Int)<(cl.length:Int))=false:=bh (by omega);simp only[↓aL,aM,aJ,↓reduceIte,aa,ae,hl,g0,g5,g6,ci,lP,p2,AA,e5];refine bI ?_;refine⟨_,?_,i+1,rfl,(by simp[bc,hl]),?_⟩
  ·first|omega|(simp;omega)
  simp only[aY,hl,aa,ae,g0,g1]
  iterate 4 refine cI ?_
  refine⟨?_,?_⟩
  ·omega
  ·refine qo ?_;rw[e1,e2,uN e3 fun q h1 h2=>hqj q h1 h2 (by omega)]
 have ada:j<Fl.length:=by omega
 have e5:decide ((j:Int)<(cl.length:Int))=true:=bj;have hcx:AV.aK (cl.map (·.1)) cl.length=cv:=(LU.pos (by omega)).symm;have hkx:AV.aK (Fl.map (·.1)) Fl.length=cv':=(ksc.pos (by omega)).symm;have cj:=eP (i:=j) (n:=cl.length) hdj;have cj':=eP (i:=j) (n:=Fl.length) ada;have wj1:=wz (z:=(j:Int)+1) (m:=j+1);have pj:=aje hdj;have pj':=aje ada;have adk:(cl[j]).2≠(Fl[j]).2->D=false:=fun h=>Bg fun e=>by
  simp only[Prod.mk.injEq]at e;exact Hs hdj ada h e.2.2
 have akC:(cl[j]).2=(Fl[j]).2->∀q (h1:q<cl.length) (h2:q<Fl.length),q<j+1->(cl[q]).2=(Fl[q]).2:=by
  intro h q h1 h2 aAc;rcases aUh (aUl aAc)with h3|rfl
  ·exact hqj q h1 h2 h3
  ·exact h
 have hx:=(FD _ (aMg hdj)).sv;have hy:=(kic _ (aMg ada)).sv;have nh:=hcc.2 _ (aMg hdj);generalize(cl[j]).1=vx at pj hx;generalize(Fl[j]).1=vy at pj' hy;generalize(cl[j]).2=xs at adk akC hx nh;generalize(Fl[j]).2=ys at adk akC hy;have lx:=hx.len;have ly:=hy.len;have rx:=hx.root;have ry:=hy.root;subst hcx;subst hkx;by_cases e6:xs.length=ys.length
 rotate_left
 ·have b6:((xs.length:Int)!=(ys.length:Int))=true:=by
   have:(xs.length:Int)≠(ys.length:Int):=by omega
   simpa using this
  simp only[↓aL,aM,aJ,↓reduceIte,aa,ah,ae,hl,g0,g1,g5,g6,ci,Es,p2,q2,AA,cj,cj',pj,pj',lx,ly,b6];rw[adk (fun e=>e6 (by rw[e]))]
 have b6:((xs.length:Int)!=(ys.length:Int))=false:=by simp[e6]
 simp only[↓aL,aM,aJ,↓reduceIte,aa,ah,ae,hl,g0,g1,g5,g6,ci,Es,p2,q2,AA,cj,cj',pj,pj',lx,ly,b6];refine cC (fun k_ ts H=>∃n:Nat,k_=(xs.length-n:Nat)/\ts.length=108/\gt ts 0=.aK (AR l) l.length/\gt ts 1=.aK (AR k) k.length/\gt ts 5=.int .i64 (i:Int)/\gt ts 6=.int .i64 (j:Int)/\gt ts 7=vx/\gt ts 8=vy/\gt ts 9=.int .i64 (n:Int)/\H=[]/\(n<=xs.length)/\(∀q,q<n->eU xs q=eU ys q)) (xs.length) ?_ ?_
 rotate_left
 ·refine⟨0,(by first|omega|rfl|simp),(by simp[bc,hl]),?_⟩;simp only[aY,hl,aa,ae,g0,g1,g5,g6]
  iterate 8 refine cI ?_
  refine⟨?_,?_⟩
  ·first|omega|trivial
  ·first|(intro q hq;omega)|trivial
 clear hl g0 g1 g5 g6 ts;rintro k_ ts H ⟨n,rfl,hl,g0,g1,g5,g6,g7,g8,g9,rfl,hnn,vQ⟩;refine VS ?_;by_cases Sv:n<xs.length
 rotate_left
 ·have e7:decide ((n:Int)<(xs.length:Int))=false:=bh (by omega);simp only[↓aL,aM,aJ,↓reduceIte,aa,ae,hl,g6,g7,g9,lx,e7,wj1];refine bI ?_;refine⟨_,?_,j+1,rfl,(by simp[bc,hl]),?_⟩
  ·first|omega|(simp;omega)
  simp only[aY,hl,aa,ae,g0,g1,g5]
  iterate 5 refine cI ?_
  refine⟨?_,?_⟩
  ·omega
  ·exact akC (Tt e6 fun q hq=>vQ q (by omega))
 have asU:n<ys.length:=by omega
 have e7:decide ((n:Int)<(xs.length:Int))=true:=bj;have hxx:AV.aK (oZ xs) xs.length=vx:=(hx.pos (by omega)).symm;have hyy:AV.aK (oZ ys) ys.length=vy:=(hy.pos (by omega)).symm;have cn:=eP (i:=n) (n:=xs.length) Sv;have cn':=eP (i:=n) (n:=ys.length) asU;have wn1:=wz (z:=(n:Int)+1) (m:=n+1);have px:=lU (bG:=xs) Sv;have py:=lU (bG:=ys) asU;have az1:eU xs n=eU ys n->∀q,q<n+1->eU xs q=eU ys q:=by
  intro h q hq;rcases aUh (aUl hq)with h3|rfl
  ·exact vQ q h3
  ·exact h
 have ej:=fun{c:Bool}=>II (E:=E) (c:=c) (a:=eU xs n) (b:=eU ys n)
 simp only[v3]at px py;subst hxx;subst hyy;by_cases e8:eU xs n=eU ys n
 ·rw[bj e8]at ej;simp only[↓aL,aM,aJ,↓reduceIte,aa,ah,ae,hl,g7,g8,g9,lx,cn,cn',px,py,ej,wn1];refine bI ?_;refine⟨_,?_,n+1,rfl,(by simp[bc,hl]),?_⟩
  ·first|omega|(simp;omega)
  simp only[aY,hl,aa,ae,g0,g1,g5,g6,g7,g8]
  iterate 8 refine cI ?_
  refine⟨?_,?_⟩
  ·omega
  ·exact az1 e8
 ·rw[bh e8]at ej;simp only[↓aL,aM,aJ,↓reduceIte,aa,ah,ae,hl,g7,g8,g9,lx,cn,cn',px,py,ej];rw[adk (fun e=>e8 (by rw[e]))]
def Cp(s:Nat)(H0:Nat)(v:AV)(H:Hp)(n:Nat)(cs:List AV):Prop:=(v=.aH/\n=0)∨∃b,v=.aI b 0 n s n/\H0<=b/\H[b]?=some (.cells .live cs)
def Cp.app{s H0 n:Nat}{v:AV}{H T:Hp}{cs:List AV}(h:Cp s H0 v H n cs):Cp s H0 v (H++T) n cs:=by
 rcases h with h|⟨b,h1,h2,h3⟩
 ·exact .inl h
 ·exact .inr ⟨b,h1,h2,by rw[List.getElem?_append_left (List.getElem?_eq_some_iff.1 h3).1];exact h3⟩
def Cp.set{s H0 n b0:Nat}{v:AV}{H:Hp}{x:cE}{cs:List AV}(h:Cp s H0 v H n cs)(hb:b0<H0):Cp s H0 v (H.set b0 x) n cs:=by
 rcases h with h|⟨b,h1,h2,h3⟩
 ·exact .inl h
 ·exact .inr ⟨b,h1,h2,by rw[List.getElem?_set_ne (by omega)];exact h3⟩
def Cp.inv{H:Hp}{H0:Nat}{v:AV}{bG:List I3}(h:Cp 3 H0 v H bG.length (oZ bG)):∃w',Ij w' bG/\∃bs,Fr H 2 v w' bs:=by
 rcases h with⟨rfl,h0⟩|⟨b,rfl,_,hb⟩
 ·exact⟨.aH,.inr ⟨List.length_eq_zero_iff.1 h0,.inl rfl⟩,[],(Fr.flat CK).up (by omega)⟩
 ·exact⟨kO bG,.inl rfl,_,Fr.hsA hb (by decide) (by
   unfold oZ;rw[jL (s:=3) (fun r hr=>by obtain⟨p,_,rfl⟩:=List.mem_map.1 hr;rfl),List.length_map]) (ft.flat (fun c hc=>by
   unfold oZ at hc;obtain⟨r,hr,EA⟩:=List.mem_flatten.1 hc;obtain⟨p,_,rfl⟩:=List.mem_map.1 hr;simp only[pZ,aNe,aV0,or_false]at EA;rcases EA with rfl|rfl|rfl<;>exact iX))⟩
def Cp.facts{s H0 n:Nat}{v:AV}{H:Hp}{cs:List AV}(h:Cp s H0 v H n cs):lH v=some (n:Int)/\cN v=true/\v.cells=[v]:=by
 rcases h with⟨rfl,rfl⟩|⟨b,rfl,_,_⟩<;>exact⟨rfl,rfl,rfl⟩
def Cp.low{s H0 H1 n:Nat}{v:AV}{H:Hp}{cs:List AV}(h:Cp s H0 v H n cs)(hl:H1<=H0):Cp s H1 v H n cs:=by
 rcases h with h|⟨b,e1,e2,e3⟩
 ·exact .inl h
 ·exact .inr ⟨b,e1,by omega,e3⟩
def We{l:pX}{m:Ins}(hp:∀p∈l,BW p)(hF:IA l m):∃K,xC E K l m:=by
 have h1:∀p:qu,∃c:Int,p∈l->aP E 33 [.agg (AS p)]=some (.int .i64 c):=by
  intro p;by_cases h:p∈l
  ·have hP:=hp p h;have h2:=hF.p2 p h;obtain⟨c,hc⟩:=Lg (E:=E) (nm:=p.nm) (dn:=p.dn) hP.cv (fun c hc=>⟨hP.cl c hc,h2.2 c hc⟩) (by omega);exact⟨c,fun _=>hc⟩
  ·exact⟨0,fun h'=>absurd h' h⟩
 have h2:∀x:pE,∃c:Int,x∈m->aP E 34 [.agg [.int .i64 x.t0,.int .i64 x.t1,.int .i64 x.t2,.int .i64 x.t3,.str x.s0,.str x.s1,.str x.s2]]=some (.int .i64 c):=by
  intro x;by_cases h:x∈m
  ·have h3:=hF.i20 x h;obtain⟨c,hc,-⟩:=KC (E:=E) (t0:=x.t0) (t1:=x.t1) (t2:=x.t2) (t3:=x.t3) (s0:=x.s0) (s1:=x.s1) (s2:=x.s2) (by omega) (by omega) (by omega);exact⟨c,fun _=>hc⟩
  ·exact⟨0,fun h'=>absurd h' h⟩
 exact⟨⟨fun p=>Classical.choose (h1 p),fun x=>Classical.choose (h2 x)⟩,fun p hp=>Classical.choose_spec (h1 p) hp,fun x hx=>Classical.choose_spec (h2 x) hx⟩
end Go.Proofs.YtmkjgfnicfpjpaaGreatDoor
namespace Go.Proofs.YtmkjgfnicfpjpaaGreatDoor
open Go Go.RowKit Dv
variable{E:Env}[C:Ctx E]
theorem aqv(o:Nat->List AV->Option AV):Ctx (EN o) where
 fn:=rfl
 ty:=rfl
 rH:=rfl
 pairs:=rfl
 glob:=rfl
 ov:=fun f l hf=>by
  show(if f=5∨f=98 then o f l else iC Bo f l)=none
  simp only[MG,N2,Ja,aRk,List.nil_append,aNe,aV0,or_false,not_or]at hf;obtain⟨h0,h0',h1,h2,h3,h4,h5,h6,h7,h8,h9,h10⟩:=hf;rw[if_neg (by omega)];simp[iC,Bo,h1,h2,h3,h4,h5,h6,h7,h8,h9,h10]
 ovX:=fun f l hf=>by
  show(if f=5∨f=98 then o f l else iC Bo f l)=iC Bo f l
  simp only[Ja,aNe,aV0,or_false]at hf;rw[if_neg (by omega)]
def IQ{E:Env}{f:Nat}{al:List AV}{r:AV}{L:Nat->Prop}{w:World}{vs:Array Value}(V:Valid E Tryz.prog)(O:o5 E Tryz.prog)(hf:(E0.fn f).isSome=true)(hr:aP E f al=some r)(hl:∀l,L l->l<w.heap.size)(hg:xG E L w)(ha:Rs cg w L al vs.toList):Calls Tryz.prog f vs w (LK (gn w L r)):=by
 obtain⟨-,n,hn⟩:=wF hr;have gy:=GJ V O n f al r hn L w vs hl hg ha;have hcf:=V8 hf vs w;rcases gy with⟨v,w',h1,_⟩|⟨f',args,w1,h1,h2⟩|⟨l,f',tmps,assign,body,w1,h1,_⟩
 ·rw[hcf]at h1;cases h1
 ·rw[hcf]at h1;cases h1;exact callsIn_wide.1 h2
 ·rw[hcf]at h1;cases h1
def knO:Nat->List AV->Option AV:=fun f l=>if f=5 then(match l with|[]=>some (.bool true)|_=>none)else none
def EK:Env:=EN knO
theorem axX:Ctx EK:=aqv _
def au4:o5 EK Tryz.prog:=agY fun f l r h L w vs hl hg ha=>by
 have h':(if f=5∨f=98 then knO f l else none)=some r:=h;split at h'
 ·unfold knO at h';split at h'
  ·rename_i hf;subst hf;split at h'
   ·cases h';exact N4 L w vs hl hg ha
   ·cases h'
  ·cases h'
 ·cases h'
def N3:aP EK 5 []=some (.bool true):=by
 refine dB ⟨fun fi hf=>?_,0,rfl⟩;have h:(E0.fn 5).map (·.pure)=some true:=by kernel_rfl
 have hf':E0.fn 5=some fi:=hf;rw[hf']at h;simpa using h
def amq:Valid EK Tryz.prog:=by
 have V:=Valid.ov fq EK.ov EK.rH;have e:EK={E0 with ov:=EK.ov,rH:=EK.rH}:=by simp only[EK,E0,EN]
 rw[e];exact V
end Go.Proofs.YtmkjgfnicfpjpaaGreatDoor
namespace Go.Proofs.YtmkjgfnicfpjpaaGreatDoor
open Go Dv Dv.dk
variable{E:Env}[C:Ctx E]
deriving instance DecidableEq for pE
def Qd(t:Nat):List (Nat×Nat×Bool):=match E0.ty t with
 |some i=>if i.dK then(match i.cD with|.struct fs=>fs.toList.map fun f=>(f.type,f.offset,decide (f.name= "_"))|_=>[])else []
 |none=>[]
def Ft{t m:Nat}{p:Nat×Nat×Bool}{ps:List (Nat×Nat×Bool)}(h:Qd t=p::ps):∃(i:sk) (fs:Array Field),E.ty t=some i/\i.dK=true/\i.cD=.struct fs/\fs.toList.map (fun f=>(f.type,f.offset,decide (f.name= "_")))=p::ps:=by
 unfold Qd at h;rw[<-C.ty]at h;split at h
 ·rename_i i hi;split at h
  ·rename_i he;split at h
   ·rename_i fs hu;exact⟨i,fs,hi,he,hu,h⟩
   ·cases h
  ·cases h
 ·cases h
def tk{E:Env}{eq:Nat->AV->AV->Option Bool}{xs ys:List AV}{f:Field}{fs:List Field}{t o:Nat}{a b:AV}{r:Bool}(hf:(f.type,f.offset,decide (f.name= "_"))=(t,o,false))(ha:eS E t xs o=some a)(hb:eS E t ys o=some b)(hr:eq t a b=some r):
  eqFields E eq xs ys (f::fs)=if r then eqFields E eq xs ys fs else some false:=by
 simp only[Prod.mk.injEq,decide_eq_false_iff_not]at hf;obtain⟨rfl,rfl,h⟩:=hf
 conv=>lhs;unfold eqFields
 rw[if_neg h,ha,hb];simp only[hr];cases r<;>rfl
def PY{E:Env}{m t:Nat}{i:sk}{fs:Array Field}{xs ys:List AV}(hi:E.ty t=some i)(he:i.dK=true)(hu:i.cD=.struct fs):nP E (m+1) t (.agg xs) (.agg ys)=eqFields E (nP E m) xs ys fs.toList:=by
 obtain⟨cD,jA,jS,jB,jZ,dK⟩:=i;simp only at hu he;subst hu he;unfold nP;simp only[hi]
 simp
def uc{t o:Nat}{cs:List AV}{x:AV}(h:(E0.ty t).map (·.isAgg)=some false)(hx:cs[o]?=some x):eS E t cs o=some x:=by
 rw[<-C.ty]at h;unfold eS;cases hi:E.ty t with
 |none=>rw[hi]at h;cases h
 |some i=>rw[hi]at h;simp only[aMi,aLS.injEq]at h;simp[h,hx]
def qN{t o s:Nat}{cs:List AV}(h:(E0.ty t).map (fun i=>(i.isAgg,i.size))=some (true,s):=by kernel_rfl)(hl:o+s<=cs.length:=by simp):eS E t cs o=some (.agg ((cs.drop o).take s)):=by
 rw[<-C.ty]at h;unfold eS;cases hi:E.ty t with
 |none=>rw[hi]at h;cases h
 |some i=>
  rw[hi]at h;simp only[aMi,aLS.injEq,Prod.mk.injEq]at h;obtain⟨h1,rfl⟩:=h;simp[h1,hl]
def DW{t m:Nat}(h:(E0.ty t).map (·.cD)=some .string)(a b:List UInt8):nP E (m+1) t (.str a) (.str b)=some (decide (a=b)):=by
 rw[<-C.ty]at h;unfold nP;cases hi:E.ty t with
 |none=>rw[hi]at h;cases h
 |some i=>
  rw[hi]at h;obtain⟨cD,jA,jS,jB,jZ,dK⟩:=i;simp only[aMi,aLS.injEq]at h;subst h
  simp
  by_cases e:a=b<;>simp[e]
def Za{m:Nat}{a0 a1 a2 b0 b1 b2:List UInt8}:nP E (m+2) 43 (.agg [.str a0,.str a1,.str a2]) (.agg [.str b0,.str b1,.str b2])=some (decide (a0=b0/\a1=b1/\a2=b2)):=by
 have h:(E.ty 43).map (·.cD)=some (.array 3 41):=by rw[C.ty];kernel_rfl
 have h2:(E.ty 41).map (·.size)=some 1:=by rw[C.ty];kernel_rfl
 have hs:=fun a b=>DW (E:=E) (t:=41) (m:=m) (by kernel_rfl) a b
 have hp:∀(cs:List AV) (o:Nat) (x:AV),cs[o]?=some x->eS E 41 cs o=some x:=fun cs o x hx=>uc (by kernel_rfl) hx
 cases hi:E.ty 43 with
 |none=>rw[hi]at h;cases h
 |some i=>
  rw[hi]at h;cases he:E.ty 41 with
  |none=>rw[he]at h2;cases h2
  |some ei=>
   rw[he]at h2;obtain⟨cD,jA,jS,jB,jZ,dK⟩:=i;simp only[aMi,aLS.injEq]at h h2;subst h;unfold nP;simp only[hi,he,h2];simp only[lz];rw[hp _ (0*1) (.str a0) rfl,hp _ (0*1) (.str b0) rfl];simp only[hs];by_cases e0:a0=b0
   ·simp only[e0,decide_true,true_and];rw[hp _ ((0+1)*1) (.str a1) rfl,hp _ ((0+1)*1) (.str b1) rfl];simp only[hs];by_cases e1:a1=b1
    ·simp only[e1,decide_true,true_and];rw[hp _ ((0+1+1)*1) (.str a2) rfl,hp _ ((0+1+1)*1) (.str b2) rfl];simp only[hs];by_cases e2:a2=b2<;>simp[e2]
    ·simp[e1]
   ·simp[e0]
def Tq{m:Nat}{s0 s1 s2 s3 t0 t1 t2 t3:Int}{a0 a1 a2 b0 b1 b2:List UInt8}:
  nP E (m+3) 45 (.agg [.int .i64 s0,.int .i64 s1,.int .i64 s2,.int .i64 s3,.str a0,.str a1,.str a2]) (.agg [.int .i64 t0,.int .i64 t1,.int .i64 t2,.int .i64 t3,.str b0,.str b1,.str b2])=some (decide ((s0=t0/\s1=t1/\s2=t2/\s3=t3)/\a0=b0/\a1=b1/\a2=b2)):=by
 obtain⟨i,fs,hi,he,hu,hm⟩:=Ft (E:=E) (m:=0) (show Qd 45=[(40,0,false),(43,4,false)]by kernel_rfl);rw[PY hi he hu];obtain⟨f0,l0,e0,m0,hm⟩:=aXB.1 hm;obtain⟨f1,l1,e1,m1,hm⟩:=aXB.1 hm;rw[aXE]at hm;subst hm e1;rw[e0];have h4:=yu (E:=E) (m:=m) (t:=40) (n:=4) (Cx C) (Ba C) (xs:=[s0,s1,s2,s3]) (ys:=[t0,t1,t2,t3]) rfl rfl;rw[tk m0 (qN (s:=4)) (qN (s:=4)) (r:=decide ([s0,s1,s2,s3]=[t0,t1,t2,t3])) h4];by_cases e:[s0,s1,s2,s3]=[t0,t1,t2,t3]
 ·rw[bj e,if_pos rfl,tk m1 (qN (s:=3)) (qN (s:=3)) (r:=decide (a0=b0/\a1=b1/\a2=b2)) Za];simp at e;by_cases e2:a0=b0/\a1=b1/\a2=b2
  ·rw[bj e2,if_pos rfl];simp[eqFields,e,e2]
  ·rw[bh e2,if_neg (by simp)];simp only[aLS.injEq];exact(bh fun h=>e2 h.2).symm
 ·rw[bh e,if_neg (by simp)];simp only[aLS.injEq];refine(bh fun h=>e ?_).symm;simp[h.1]
def Jy{c:Bool}{x y:pE}:cp E c .neq 78 (.agg (yt x)) (.agg (yt y))=some (.bool (!decide (x=y))):=by
 obtain⟨i,fs,hi,he,hu,hm⟩:=Ft (E:=E) (m:=0) (show Qd 78=[(9,0,false),(9,1,false),(45,2,false)]by kernel_rfl);have key:nP E 20 78 (.agg (yt x)) (.agg (yt y))=some (decide (x=y)):=by
  rw[PY hi he hu];obtain⟨f0,l0,e0,m0,hm⟩:=aXB.1 hm;obtain⟨f1,l1,e1,m1,hm⟩:=aXB.1 hm;obtain⟨f2,l2,e2,m2,hm⟩:=aXB.1 hm;rw[aXE]at hm;subst hm e2 e1;rw[e0];obtain⟨n,p,t0,t1,t2,t3,s0,s1,s2⟩:=x;obtain⟨n',p',t0',t1',t2',t3',s0',s1',s2'⟩:=y;rw[tk m0 (uc (by kernel_rfl) rfl) (uc (by kernel_rfl) rfl) (DW (by kernel_rfl) n n')];by_cases a0:n=n'
  ·rw[bj a0,if_pos rfl,tk m1 (uc (by kernel_rfl) rfl) (uc (by kernel_rfl) rfl) (DW (by kernel_rfl) p p')];by_cases a1:p=p'
   ·rw[bj a1,if_pos rfl,tk m2 (qN (s:=7) (by kernel_rfl) (by simp[yt])) (qN (s:=7) (by kernel_rfl) (by simp[yt])) (r:=decide ((t0=t0'/\t1=t1'/\t2=t2'/\t3=t3')/\s0=s0'/\s1=s1'/\s2=s2')) Tq];by_cases a2:(t0=t0'/\t1=t1'/\t2=t2'/\t3=t3')/\s0=s0'/\s1=s1'/\s2=s2'
    ·rw[bj a2,if_pos rfl];simp[eqFields,a0,a1,a2]
    ·rw[bh a2,if_neg (by simp)];simp only[aLS.injEq];refine(bh fun h=>a2 ?_).symm;simp only[pE.mk.injEq]at h;simp[h]
   ·rw[bh a1,if_neg (by simp)];simp only[aLS.injEq];refine(bh fun h=>a1 ?_).symm;simp only[pE.mk.injEq]at h;exact h.2.1
  ·rw[bh a0,if_neg (by simp)];simp only[aLS.injEq];refine(bh fun h=>a0 ?_).symm;simp only[pE.mk.injEq]at h;exact h.1
 simp[cp,cp.sa,hi,he,key]
def ahn{bG:List I3}{i:Nat}(hi:i<bG.length):eW true 3 (oZ bG) (i*3)=some (.agg (pZ bG[i])):=by
 have:=lU (bG:=bG) hi
 have e:eU bG i=bG[i]:=by unfold eU;rw[aT1,aL6 hi];rfl
 rw[e]at this;exact this
def aar{v w:AV}{l k:List I3}(hv:SV v (oZ l) l.length)(hw:SV w (oZ k) k.length)(hn:l.length<=4611686018427387904):
  aP E 41 [v,w]=some (.bool (decide (l=k))):=by
 suffices hh:∃r,aP E 41 [v,w]=some r/\r=.bool (decide (l=k))by obtain⟨r,h1,rfl⟩:=hh;exact h1
 obtain⟨D,hD⟩:∃D,D=decide (l=k):=⟨_,rfl⟩;rw[<-hD];have lv:=hv.len;have lw:=hw.len;have rv:=hv.root;have rw':=hw.root;refine oA ayE ?_;intro ts hl g0 g1;unfold c41;by_cases hlen:l.length=k.length
 rotate_left
 ·have b0:((l.length:Int)!=(k.length:Int))=true:=by
   have:(l.length:Int)≠(k.length:Int):=by omega
   simpa using this
  simp only[↓aL,aM,aJ,aa,ae,Tryz.f41,hl,g0,g1,lv,lw,b0];rw[hD,bh (fun e=>hlen (by simpa using congrArg aXD e))]
 have b0:((l.length:Int)!=(k.length:Int))=false:=by simp[hlen]
 simp only[↓aL,aM,aJ,aa,ae,Tryz.f41,hl,g0,g1,lv,lw,b0];refine cC (fun k_ ts H=>∃i:Nat,k_=(l.length-i:Nat)/\ts.length=26/\gt ts 0=v/\gt ts 1=w/\gt ts 12=.int .i64 (l.length:Int)/\gt ts 13=.int .i64 (i:Int)/\H=[]/\(i<=l.length)/\(∀j (h1:j<l.length) (h2:j<k.length),j<i->l[j]=k[j])) (l.length) ?_ ?_
 rotate_left
 ·refine⟨0,(by first|omega|rfl|simp),(by simp[bc,hl]),?_⟩;simp only[aY,hl,aa,ae,g0,g1]
  iterate 5 refine cI ?_
  refine⟨?_,?_⟩
  ·first|omega|trivial
  ·first|(intro j _ _ hj;omega)|trivial
 clear hl g0 g1 ts;rintro k_ ts H ⟨i,rfl,hl,g0,g1,g12,g13,rfl,hi,hq⟩;refine VS ?_;by_cases hd:i<l.length
 rotate_left
 ·have d1:decide ((i:Int)<(l.length:Int))=false:=bh (by omega);simp only[↓aL,aM,↓reduceIte,aa,hl,g12,g13,d1];rw[hD,bj (aXC hlen fun j h1 h2=>hq j h1 h2 (by omega))]
 have wN:i<k.length:=by omega
 have d1:decide ((i:Int)<(l.length:Int))=true:=bj;have C4:AV.aK (oZ l) l.length=v:=(hv.pos (by omega)).symm;have Iv:AV.aK (oZ k) k.length=w:=(hw.pos (by omega)).symm;have ci:=eP (i:=i) (n:=l.length) hd;have Es:=eP (i:=i) (n:=k.length) wN;have lP:=wz (z:=(i:Int)+1) (m:=i+1);have px:=ahn (bG:=l) hd;have py:=ahn (bG:=k) wN;have Bg:l[i]≠k[i]->D=false:=fun h=>by rw[hD];exact bh (fun e=>h (by subst e;rfl))
 have qo:l[i]=k[i]->∀j (h1:j<l.length) (h2:j<k.length),j<i+1->l[j]=k[j]:=by
  intro h j h1 h2 xj;rcases aUh (aUl xj)with h3|rfl
  ·exact hq j h1 h2 h3
  ·exact h
 have ej:=fun{c:Bool}=>II (E:=E) (c:=c) (a:=l[i]) (b:=k[i])
 simp only[pZ]at px py;subst C4;subst Iv;by_cases e8:l[i]=k[i]
 ·rw[bj e8]at ej;simp only[↓aL,aM,aJ,↓reduceIte,aa,ah,ae,hl,g0,g1,g12,g13,ci,Es,px,py,ej,lP];refine bI ?_;refine⟨_,?_,i+1,rfl,(by simp[bc,hl]),?_⟩
  ·first|omega|(simp;omega)
  simp only[aY,hl,aa,ae,g0,g1,g12]
  iterate 5 refine cI ?_
  refine⟨?_,?_⟩
  ·omega
  ·exact qo e8
 ·rw[bh e8]at ej;simp only[↓aL,aM,aJ,↓reduceIte,aa,ah,ae,hl,g0,g1,g12,g13,ci,Es,px,py,ej];rw[Bg e8]
def XT{v w:AV}{l k:Ins}(hv:SV v (C5 l) l.length)(hw:SV w (C5 k) k.length)(hn:l.length<=4611686018427387904):
  aP E 36 [v,w]=some (.bool (decide (l=k))):=by
 suffices hh:∃r,aP E 36 [v,w]=some r/\r=.bool (decide (l=k))by obtain⟨r,h1,rfl⟩:=hh;exact h1
 obtain⟨D,hD⟩:∃D,D=decide (l=k):=⟨_,rfl⟩;rw[<-hD];have lv:=hv.len;have lw:=hw.len;have rv:=hv.root;have rw':=hw.root;refine oA ayz ?_;intro ts hl g0 g1;unfold c36;by_cases hlen:l.length=k.length
 rotate_left
 ·have b0:((l.length:Int)!=(k.length:Int))=true:=by
   have:(l.length:Int)≠(k.length:Int):=by omega
   simpa using this
  simp only[↓aL,aM,aJ,aa,ae,Tryz.f36,hl,g0,g1,lv,lw,b0];rw[hD,bh (fun e=>hlen (by simpa using congrArg aXD e))]
 have b0:((l.length:Int)!=(k.length:Int))=false:=by simp[hlen]
 simp only[↓aL,aM,aJ,aa,ae,Tryz.f36,hl,g0,g1,lv,lw,b0];refine cC (fun k_ ts H=>∃i:Nat,k_=(l.length-i:Nat)/\ts.length=26/\gt ts 0=v/\gt ts 1=w/\gt ts 12=.int .i64 (l.length:Int)/\gt ts 13=.int .i64 (i:Int)/\H=[]/\(i<=l.length)/\(∀j (h1:j<l.length) (h2:j<k.length),j<i->l[j]=k[j])) (l.length) ?_ ?_
 rotate_left
 ·refine⟨0,(by first|omega|rfl|simp),(by simp[bc,hl]),?_⟩;simp only[aY,hl,aa,ae,g0,g1]
  iterate 5 refine cI ?_
  refine⟨?_,?_⟩
  ·first|omega|trivial
  ·first|(intro j _ _ hj;omega)|trivial
 clear hl g0 g1 ts;rintro k_ ts H ⟨i,rfl,hl,g0,g1,g12,g13,rfl,hi,hq⟩;refine VS ?_;by_cases hd:i<l.length
 rotate_left
 ·have d1:decide ((i:Int)<(l.length:Int))=false:=bh (by omega);simp only[↓aL,aM,↓reduceIte,aa,hl,g12,g13,d1];rw[hD,bj (aXC hlen fun j h1 h2=>hq j h1 h2 (by omega))]
 have wN:i<k.length:=by omega
 have d1:decide ((i:Int)<(l.length:Int))=true:=bj;have C4:AV.aK (C5 l) l.length=v:=(hv.pos (by omega)).symm;have Iv:AV.aK (C5 k) k.length=w:=(hw.pos (by omega)).symm;have ci:=eP (i:=i) (n:=l.length) hd;have Es:=eP (i:=i) (n:=k.length) wN;have lP:=wz (z:=(i:Int)+1) (m:=i+1);have px:=zT (l:=l) hd;have py:=zT (l:=k) wN;have Bg:l[i]≠k[i]->D=false:=fun h=>by rw[hD];exact bh (fun e=>h (by subst e;rfl))
 have qo:l[i]=k[i]->∀j (h1:j<l.length) (h2:j<k.length),j<i+1->l[j]=k[j]:=by
  intro h j h1 h2 xj;rcases aUh (aUl xj)with h3|rfl
  ·exact hq j h1 h2 h3
  ·exact h
 have ej:=fun{c:Bool}=>Jy (E:=E) (c:=c) (x:=l[i]) (y:=k[i])
 have hdu:=hd;subst C4;subst Iv;by_cases e8:l[i]=k[i]
 ·rw[bj e8]at ej;simp only[↓aL,aM,aJ,↓reduceIte,aa,ah,ae,hl,g0,g1,g12,g13,ci,Es,px,py,ej,lP];refine bI ?_;refine⟨_,?_,i+1,rfl,(by simp[bc,hl]),?_⟩
  ·first|omega|(simp;omega)
  simp only[aY,hl,aa,ae,g0,g1,g12]
  iterate 5 refine cI ?_
  refine⟨?_,?_⟩
  ·omega
  ·exact qo e8
 ·rw[bh e8]at ej;simp only[↓aL,aM,aJ,↓reduceIte,aa,ah,ae,hl,g0,g1,g12,g13,ci,Es,px,py,ej];rw[Bg e8]
def Ce{a b:Nat}(h:a≠b):((a:Int)!=(b:Int))=true:=by
 have:(a:Int)≠(b:Int):=by omega
 simpa using this
def V7{v w:AV}{l k:List I3}(hv:Ij v l)(hw:Ij w k)(hn:l.length<=4611686018427387904):
  aP E 40 [.agg [v],.agg [w]]=some (.bool (decide (l=k))):=by
 suffices hh:∃r,aP E 40 [.agg [v],.agg [w]]=some r/\r=.bool (decide (l=k))by obtain⟨r,h1,rfl⟩:=hh;exact h1
 have hc:=aar (E:=E) hv.sv hw.sv hn;have ov:=hv.one;have ow:=hw.one;have pv:=hv.pure;have pw:=hw.pure;refine oA ayD ?_;intro ts hl g0 g1;unfold c40;simp only[↓aL,aM,↓aS,aJ,aa,ae,Tryz.f40,hl,g0,g1,pv,pw,hc]
def R6{v w:AV}{l k:List Cl}(hv:InC v l)(hw:InC w k)(o8:∀c∈l,Ij c.1 c.2)(hkv:∀c∈k,Ij c.1 c.2)(hn:l.length<=4611686018427387904)(hc:∀c∈l,c.2.length<=4611686018427387904):
  aP E 39 [v,w,.func 40 [] []]=some (.bool (decide (l.map (·.2)=k.map (·.2)))):=by
 suffices hh:∃r,aP E 39 [v,w,.func 40 [] []]=some r/\r=.bool (decide (l.map (·.2)=k.map (·.2)))by obtain⟨r,h1,rfl⟩:=hh;exact h1
 obtain⟨D,hD⟩:∃D,D=decide (l.map (·.2)=k.map (·.2)):=⟨_,rfl⟩;have kg:=fun{dr st:Bool} {bl:List AV} {H:Hp} {k:AV->cF->Prop}=>jy (E:=E) (dr:=dr) (st:=st) (f:=40) (bl:=bl) (H:=H) (k:=k) (bO C)
 rw[<-hD];have lv:=hv.sv.len;have lw:=hw.sv.len;have rv:=hv.sv.root;have rw':=hw.sv.root;refine gw3 ayC ?_;intro ts hl g0 g1 g2;unfold c39;by_cases hlen:l.length=k.length
 rotate_left
 ·have b0:=Ce hlen;simp only[↓aL,aM,aJ,aa,ae,Tryz.f39,hl,g0,g1,lv,lw,b0];rw[hD,bh (fun e=>hlen (by simpa using congrArg aXD e))]
 have b0:((l.length:Int)!=(k.length:Int))=false:=by simp[hlen]
 simp only[↓aL,aM,aJ,aa,ae,Tryz.f39,hl,g0,g1,lv,lw,b0];refine cC (fun k_ ts H=>∃i:Nat,∃H1:Hp,k_=(l.length-i:Nat)/\ts.length=32/\gt ts 1=w/\gt ts 2=.func 40 [] []/\gt ts 15=v/\gt ts 16=.int .i64 (l.length:Int)/\gt ts 17=.int .i64 (i:Int)/\H=H1/\(i<=l.length)/\(∀j (h1:j<l.length) (h2:j<k.length),j<i->(l[j]).2=(k[j]).2)) (l.length) ?_ ?_
 rotate_left
 ·refine⟨0,[],(by first|omega|rfl|simp),(by simp[bc,hl]),?_⟩;simp only[aY,hl,aa,ae,g1,g2]
  iterate 6 refine cI ?_
  refine⟨?_,?_⟩
  ·first|omega|trivial
  ·first|(intro j _ _ hj;omega)|trivial
 clear hl g0 g1 g2 ts;rintro k_ ts H ⟨i,H1,rfl,hl,g1,g2,g15,g16,g17,rfl,hi,hq⟩;refine VS ?_;by_cases hd:i<l.length
 rotate_left
 ·have d1:decide ((i:Int)<(l.length:Int))=false:=bh (by omega);simp only[↓aL,aM,↓reduceIte,aa,hl,g16,g17,d1];rw[hD,bj (uN hlen fun j h1 h2=>hq j h1 h2 (by omega))]
 have wN:i<k.length:=by omega
 have d1:decide ((i:Int)<(l.length:Int))=true:=bj;have C4:AV.aK (l.map (·.1)) l.length=v:=(hv.sv.pos (by omega)).symm;have Iv:AV.aK (k.map (·.1)) k.length=w:=(hw.sv.pos (by omega)).symm;have ci:=eP (i:=i) (n:=l.length) hd;have Es:=eP (i:=i) (n:=k.length) wN;have lP:=wz (z:=(i:Int)+1) (m:=i+1);have px:eW true 1 (l.map (·.1)) (i*1)=some (.agg [(l[i]).1]):=Wc hd;have py:eW true 1 (k.map (·.1)) (i*1)=some (.agg [(k[i]).1]):=Wc wN;rw[Nat.mul_one]at px py;have Bg:(l[i]).2≠(k[i]).2->D=false:=fun h=>by rw[hD];exact bh (Hs hd wN h)
 have qo:(l[i]).2=(k[i]).2->∀j (h1:j<l.length) (h2:j<k.length),j<i+1->(l[j]).2=(k[j]).2:=by
  intro h j h1 h2 xj;rcases aUh (aUl xj)with h3|rfl
  ·exact hq j h1 h2 h3
  ·exact h
 have hx:=o8 _ (aMg hd);have hy:=hkv _ (aMg wN);have oB:=V7 (E:=E) hx hy (hc _ (aMg hd));have ox:=hx.one;have oy:=hy.one;generalize(l[i]).1=vx at px hx oB ox;generalize(k[i]).1=vy at py hy oB oy;generalize(l[i]).2=xs at Bg qo hx oB;generalize(k[i]).2=ys at Bg qo hy oB;have pux:=hx.pure;have puy:=hy.pure;subst C4;subst Iv;by_cases e8:xs=ys
 ·rw[bj e8]at oB;simp only[↓aL,aM,aJ,ct,↓reduceIte,aa,ae,hl,g1,g2,g15,g16,g17,ci,Es,px,py,kg,oB,ox,oy,pux,puy,lP,aUi,aL9];refine bI ?_;refine⟨_,?_,i+1,(H++[.cells .live [vx],.cells .live [vy]]),rfl,(by simp[bc,hl]),?_⟩
  ·first|omega|(simp;omega)
  simp only[aY,hl,aa,ae,g1,g2,g15,g16]
  iterate 6 refine cI ?_
  refine⟨?_,?_⟩
  ·omega
  ·exact qo e8
 ·rw[bh e8]at oB;simp only[↓aL,aM,aJ,ct,↓reduceIte,aa,ae,hl,g1,g2,g15,g16,g17,ci,Es,px,py,kg,oB,ox,oy,pux,puy,aUi,aL9];rw[Bg e8]
def Zx{p q:qu}(hp:BW p)(hq:BW q)(hn:p.cl.length<=4611686018427387904)(hc:∀c∈p.cl,c.2.length<=4611686018427387904):
  aP E 38 [.agg (AS p),.agg (AS q)]=some (.bool (decide (gU p=gU q))):=by
 suffices hh:∃r,aP E 38 [.agg (AS p),.agg (AS q)]=some r/\r=.bool (decide (gU p=gU q))by obtain⟨r,h1,rfl⟩:=hh;exact h1
 obtain⟨D,hD⟩:∃D,D=decide (gU p=gU q):=⟨_,rfl⟩;rw[<-hD];have pN:=R6 (E:=E) hp.cv hq.cv hp.cl hq.cl hn hc;have hvo:=hp.Uy.facts;have hwo:=hq.Uy.facts;unfold gU at hD;obtain⟨nm,dn,cv,cl⟩:=p;obtain⟨nm',dn',cv',Fl⟩:=q
 dsimp only at hD pN hvo hwo
 have BI:=fun{c:Bool}=>HZ (E:=E) (c:=c) (a:=nm) (b:=nm')
 have tO:bQ (.int .i64 dn)=true:=rfl;refine oA ayB ?_;intro ts hl g0 g1;simp only[AS]at g0 g1;unfold c38;by_cases e1:nm=nm'
 rotate_left
 ·rw[bh e1]at BI;rw[bh (fun e=>e1 (by simp only[Prod.mk.injEq]at e;exact e.1))]at hD;simp only[↓aL,aM,aJ,aa,ae,Tryz.f38,hl,g0,g1,BI];rw[hD]
 rw[bj e1]at BI;by_cases e2:dn=dn'
 rotate_left
 ·have b2:(dn==dn')=false:=by simpa using e2
  rw[bh (fun e=>e2 (by simp only[Prod.mk.injEq]at e;exact e.2.1))]at hD;simp only[↓aL,aM,aJ,aa,ae,Tryz.f38,hl,g0,g1,BI,b2];rw[hD]
 have b2:(dn==dn')=true:=by simpa using e2
 have e3:D=decide (cl.map (·.2)=Fl.map (·.2)):=by rw[hD,decide_eq_decide];simp[e1,e2]
 rw[<-e3]at pN;simp only[↓aL,aM,↓aS,aJ,aa,ae,Tryz.f38,hl,g0,g1,hvo,hwo,BI,b2,pN]
def Tp{v w:AV}{l k:pX}(hv:SV v (AR l) l.length)(hw:SV w (AR k) k.length)(o8:∀p∈l,BW p)(hkv:∀p∈k,BW p)(hn:l.length<=4611686018427387904)(hc:∀p∈l,p.cl.length<=4611686018427387904/\∀c∈p.cl,c.2.length<=4611686018427387904):
  aP E 37 [v,w,.func 38 [] []]=some (.bool (decide (l.map gU=k.map gU))):=by
 suffices hh:∃r,aP E 37 [v,w,.func 38 [] []]=some r/\r=.bool (decide (l.map gU=k.map gU))by obtain⟨r,h1,rfl⟩:=hh;exact h1
 obtain⟨D,hD⟩:∃D,D=decide (l.map gU=k.map gU):=⟨_,rfl⟩;have kg:=fun{dr st:Bool} {bl:List AV} {H:Hp} {k:AV->cF->Prop}=>jy (E:=E) (dr:=dr) (st:=st) (f:=38) (bl:=bl) (H:=H) (k:=k) (bO C)
 rw[<-hD];have lv:=hv.len;have lw:=hw.len;have rv:=hv.root;have rw':=hw.root;refine gw3 ayA ?_;intro ts hl g0 g1 g2;unfold c37;by_cases hlen:l.length=k.length
 rotate_left
 ·have b0:=Ce hlen;simp only[↓aL,aM,aJ,aa,ae,Tryz.f37,hl,g0,g1,lv,lw,b0];rw[hD,bh (fun e=>hlen (by simpa using congrArg aXD e))]
 have b0:((l.length:Int)!=(k.length:Int))=false:=by simp[hlen]
 simp only[↓aL,aM,aJ,aa,ae,Tryz.f37,hl,g0,g1,lv,lw,b0];refine cC (fun k_ ts H=>∃i:Nat,∃H1:Hp,k_=(l.length-i:Nat)/\ts.length=32/\gt ts 1=w/\gt ts 2=.func 38 [] []/\gt ts 15=v/\gt ts 16=.int .i64 (l.length:Int)/\gt ts 17=.int .i64 (i:Int)/\H=H1/\(i<=l.length)/\(∀j (h1:j<l.length) (h2:j<k.length),j<i->gU l[j]=gU k[j])) (l.length) ?_ ?_
 rotate_left
 ·refine⟨0,[],(by first|omega|rfl|simp),(by simp[bc,hl]),?_⟩;simp only[aY,hl,aa,ae,g1,g2]
  iterate 6 refine cI ?_
  refine⟨?_,?_⟩
  ·first|omega|trivial
  ·first|(intro j _ _ hj;omega)|trivial
 clear hl g0 g1 g2 ts;rintro k_ ts H ⟨i,H1,rfl,hl,g1,g2,g15,g16,g17,rfl,hi,hq⟩;refine VS ?_;by_cases hd:i<l.length
 rotate_left
 ·have d1:decide ((i:Int)<(l.length:Int))=false:=bh (by omega);simp only[↓aL,aM,↓reduceIte,aa,hl,g16,g17,d1];rw[hD,bj (uN hlen fun j h1 h2=>hq j h1 h2 (by omega))]
 have wN:i<k.length:=by omega
 have d1:decide ((i:Int)<(l.length:Int))=true:=bj;have C4:AV.aK (AR l) l.length=v:=(hv.pos (by omega)).symm;have Iv:AV.aK (AR k) k.length=w:=(hw.pos (by omega)).symm;have ci:=eP (i:=i) (n:=l.length) hd;have Es:=eP (i:=i) (n:=k.length) wN;have lP:=wz (z:=(i:Int)+1) (m:=i+1);have px:=DK hd;have py:=DK wN;have Bg:gU l[i]≠gU k[i]->D=false:=fun h=>by rw[hD];exact bh (Hs hd wN h)
 have qo:gU l[i]=gU k[i]->∀j (h1:j<l.length) (h2:j<k.length),j<i+1->gU l[j]=gU k[j]:=by
  intro h j h1 h2 xj;rcases aUh (aUl xj)with h3|rfl
  ·exact hq j h1 h2 h3
  ·exact h
 have hx:=o8 _ (aMg hd);have hy:=hkv _ (aMg wN);have hcc:=hc _ (aMg hd);have oB:=Zx (E:=E) hx hy hcc.1 hcc.2;have ox:=hx.Uy.facts;have oy:=hy.Uy.facts;generalize l[i]=lp at px Bg qo oB ox;generalize k[i]=kp at py Bg qo oB oy;subst C4;subst Iv;by_cases e8:gU lp=gU kp
 ·rw[bj e8]at oB;obtain⟨nm,dn,cv,cl⟩:=lp;obtain⟨nm',dn',cv',Fl⟩:=kp;simp only[AS]at px py oB
  dsimp only at ox oy
  simp only[↓aL,aM,aJ,ct,↓reduceIte,aa,ah,ae,hl,g1,g2,g15,g16,g17,ci,Es,px,py,kg,oB,ox,oy,lP,aUi,aL9];refine bI ?_;refine⟨_,?_,i+1,(H++[.cells .live [.str nm,.int .i64 dn,cv],.cells .live [.str nm',.int .i64 dn',cv']]),rfl,(by simp[bc,hl]),?_⟩
  ·first|omega|(simp;omega)
  simp only[aY,hl,aa,ae,g1,g2,g15,g16]
  iterate 6 refine cI ?_
  refine⟨?_,?_⟩
  ·omega
  ·exact qo e8
 ·rw[bh e8]at oB;have Sp:=Bg e8;obtain⟨nm,dn,cv,cl⟩:=lp;obtain⟨nm',dn',cv',Fl⟩:=kp;simp only[AS]at px py oB
  dsimp only at ox oy
  simp only[↓aL,aM,aJ,ct,↓reduceIte,aa,ah,ae,hl,g1,g2,g15,g16,g17,ci,Es,px,py,kg,oB,ox,oy,aUi,aL9];rw[Sp]
def MC(l:pX)(m:Ins)(k:pX)(n:Ins):Bool:=decide (m=n)&&decide (l.map gU=k.map gU)
def I7(l:pX)(m:Ins):MC l m l m=true:=by simp[MC]
def IE{pv iv pw iw:AV}{l k:pX}{m n:Ins}(hA:kS pv iv l m)(hB:kS pw iw k n)(hc:∀p∈l,p.cl.length<=4611686018427387904/\∀c∈p.cl,c.2.length<=4611686018427387904):
  aP E 15 [.agg [pv,iv],.agg [pw,iw]]=some (.bool (MC l m k n)):=by
 suffices hh:∃r,aP E 15 [.agg [pv,iv],.agg [pw,iw]]=some r/\r=.bool (MC l m k n)by obtain⟨r,h1,rfl⟩:=hh;exact h1
 have hi:=XT (E:=E) hA.iv hB.iv hA.nm;have hp:=Tp (E:=E) hA.pv hB.pv hA.pt hB.pt hA.nl hc;have o1:=hA.pv.one;have o2:=hA.iv.one;have o3:=hB.pv.one;have o4:=hB.iv.one;have p1:=hA.pv.pure;have p2:=hA.iv.pure;have p3:=hB.pv.pure;have p4:=hB.iv.pure;unfold MC;refine oA ayi ?_;intro ts hl g0 g1;unfold c15;by_cases e:m=n
 ·rw[bj e]at hi;simp only[↓aL,aM,↓aS,aJ,aa,ae,Tryz.f15,hl,g0,g1,p1,p2,p3,p4,hi,hp];rw[bj e,Bool.true_and]
 ·rw[bh e]at hi;simp only[↓aL,aM,↓aS,aJ,aa,ae,Tryz.f15,hl,g0,g1,p2,p4,hi];rw[bh e,Bool.false_and]
def Dj{pv iv pw iw:AV}{l k:pX}{m n:Ins}(hA:kS pv iv l m)(hB:kS pw iw k n)(hc:∀p∈l,p.cl.length<=4611686018427387904/\∀c∈p.cl,c.2.length<=4611686018427387904):
  aP E 16 [.agg [pv,iv],.agg [pw,iw]]=some (.bool (MC l m k n)):=by
 suffices hh:∃r,aP E 16 [.agg [pv,iv],.agg [pw,iw]]=some r/\r=.bool (MC l m k n)by obtain⟨r,h1,rfl⟩:=hh;exact h1
 obtain⟨D,hD⟩:∃D,D=MC l m k n:=⟨_,rfl⟩;rw[<-hD];have hp:=TN (E:=E) hA.pv hB.pv hA.pt hB.pt hA.nl hc;have o1:=hA.pv.one;have o2:=hA.iv.one;have o3:=hB.pv.one;have o4:=hB.iv.one;have p1:=hA.pv.pure;have p2:=hA.iv.pure;have p3:=hB.pv.pure;have p4:=hB.iv.pure;have li:=hA.iv.len;have lj:=hB.iv.len;have ri:=hA.iv.root;have rj:=hB.iv.root;have rp:=hA.pv.root;have rq:=hB.pv.root;have hA':=hA.iv;have Sn:=hB.iv;have yn:=hA.nm;refine oA ayj ?_;intro ts hl g0 g1;unfold c16;by_cases hlen:m.length=n.length
 rotate_left
 ·have b0:=Ce hlen;simp only[↓aL,aM,aJ,aa,ah,ae,Tryz.f16,hl,g0,g1,li,lj,b0];rw[hD];unfold MC;rw[bh (fun e=>hlen (by rw[e])),Bool.false_and]
 have b0:((m.length:Int)!=(n.length:Int))=false:=by simp[hlen]
 by_cases hk:l.map gU=k.map gU
 rotate_left
 ·rw[bh hk]at hp;simp only[↓aL,aM,↓aS,aJ,aa,ah,ae,Tryz.f16,hl,g0,g1,p1,p3,li,lj,b0,hp];rw[hD];unfold MC;rw[bh hk,Bool.and_false]
 rw[bj hk]at hp;simp only[↓aL,aM,↓aS,aJ,aa,ah,ae,Tryz.f16,hl,g0,g1,p1,p3,li,lj,b0,hp];have hDk:D=decide (m=n):=by rw[hD];unfold MC;rw[bj hk,Bool.and_true]
 clear hD hp;refine cC (fun k_ ts H=>∃i:Nat,k_=(m.length-i:Nat)/\ts.length=39/\gt ts 2=.bK 0 0/\gt ts 3=.bK 1 0/\gt ts 5=.int .i64 (i:Int)/\H=[.cells .live [pv,iv],.cells .live [pw,iw]]/\(i<=m.length)/\(∀j (h1:j<m.length) (h2:j<n.length),j<i->m[j]=n[j])) (m.length) ?_ ?_
 rotate_left
 ·refine⟨0,(by first|omega|rfl|simp),(by simp[bc,hl]),?_⟩;simp only[aY,hl,aa,ae]
  iterate 4 refine cI ?_
  refine⟨?_,?_⟩
  ·first|omega|trivial
  ·first|(intro j _ _ hj;omega)|trivial
 clear hl g0 g1 ts;rintro k_ ts H ⟨i,rfl,hl,g2,g3,g5,rfl,hi,hq⟩;refine VS ?_;by_cases hd:i<m.length
 rotate_left
 ·have d1:decide ((i:Int)<(m.length:Int))=false:=bh (by omega);simp only[↓aL,aM,aJ,↓reduceIte,aa,ah,ae,hl,g2,g5,li,d1];rw[hDk,bj (aXC hlen fun j h1 h2=>hq j h1 h2 (by omega))]
 have wN:i<n.length:=by omega
 have d1:decide ((i:Int)<(m.length:Int))=true:=bj;have C4:AV.aK (C5 m) m.length=iv:=(hA'.pos (by omega)).symm;have Iv:AV.aK (C5 n) n.length=iw:=(Sn.pos (by omega)).symm;have ci:=eP (i:=i) (n:=m.length) hd;have Es:=eP (i:=i) (n:=n.length) wN;have lP:=wz (z:=(i:Int)+1) (m:=i+1);have px:=zT hd;have py:=zT wN;have Bg:m[i]≠n[i]->D=false:=fun h=>by rw[hDk];exact bh (fun e=>h (by subst e;rfl))
 have qo:m[i]=n[i]->∀j (h1:j<m.length) (h2:j<n.length),j<i+1->m[j]=n[j]:=by
  intro h j h1 h2 xj;rcases aUh (aUl xj)with h3|rfl
  ·exact hq j h1 h2 h3
  ·exact h
 have ej:=fun{c:Bool}=>Jy (E:=E) (c:=c) (x:=m[i]) (y:=n[i])
 by_cases e8:m[i]=n[i]
 ·rw[bj e8]at ej;have qo:=qo e8;generalize yt m[i]=rx at px ej;generalize yt n[i]=ry at py ej;subst C4;subst Iv;simp only[↓aL,aM,aJ,↓reduceIte,aa,ah,ae,hl,g2,g3,g5,li,ci,Es,px,py,ej,lP];refine bI ?_;refine⟨_,?_,i+1,rfl,(by simp[bc,hl]),?_⟩
  ·first|omega|(simp;omega)
  simp only[aY,hl,aa,ae,g2,g3]
  iterate 4 refine cI ?_
  refine⟨?_,?_⟩
  ·omega
  ·exact qo
 ·rw[bh e8]at ej;have Sp:=Bg e8;generalize yt m[i]=rx at px ej;generalize yt n[i]=ry at py ej;subst C4;subst Iv;simp only[↓aL,aM,aJ,↓reduceIte,aa,ah,ae,hl,g2,g3,g5,li,ci,Es,px,py,ej];rw[Sp]
section
variable{E:Env} [C:Ctx E]{pv iv:AV}{l:pX}{m:Ins}{d:Int}
def E2:List AV:=[.aH,.aH]
def uP(hA:kS pv iv l m)(uK:aP E 12 [.agg [pv,iv]]=some (.int .i64 d))(hd:d≠0):aP E 17 [.agg [pv,iv]]=some (.tuple [.aH,.int .i64 d]):=by
 suffices hh:∃r,aP E 17 [.agg [pv,iv]]=some r/\r=.tuple [.aH,.int .i64 d]by obtain⟨r,h1,rfl⟩:=hh;exact h1
 have o1:=hA.pv.one;have o2:=hA.iv.one;have p1:=hA.pv.pure;have p2:=hA.iv.pure;have b0:(d !=0)=true:=by simpa using hd
 have tO:bQ (.int .i64 d)=true:=rfl;refine nY ayk ?_;intro ts hl g0;unfold c17;simp only[↓aL,aM,↓aS,aJ,↓reduceIte,aa,ah,ae,Tryz.f17,hl,g0,p1,p2,uK,b0]
def OL(hA:kS pv iv l m)(uK:aP E 12 [.agg [pv,iv]]=some (.int .i64 d))(hd:d≠0){v:AV}(hv:aU v=true):aP E 22 [.agg [pv,iv],v]=some (.tuple [.agg E2,.int .i64 d]):=by
 suffices hh:∃r,aP E 22 [.agg [pv,iv],v]=some r/\r=.tuple [.agg E2,.int .i64 d]by obtain⟨r,h1,rfl⟩:=hh;exact h1
 have o1:=hA.pv.one;have o2:=hA.iv.one;have p1:=hA.pv.pure;have p2:=hA.iv.pure;have b0:(d !=0)=true:=by simpa using hd
 have tO:bQ (.int .i64 d)=true:=rfl;refine oA ayp ?_;intro ts hl g0 g1;unfold R0 E2;simp only[↓aL,aM,↓aS,aJ,ct,↓reduceIte,aa,ah,ae,Tryz.f22,hl,g0,p1,p2,uK,b0]
def Y2(hA:kS pv iv l m)(uK:aP E 12 [.agg [pv,iv]]=some (.int .i64 d))(hd:d≠0){a b c e:Int}{s0 s1 s2:List UInt8}:aP E 23 [.agg [pv,iv],.agg [.int .i64 a,.int .i64 b,.int .i64 c,.int .i64 e,.str s0,.str s1,.str s2]]=some (.tuple [.agg E2,.int .i64 d]):=by
 suffices hh:∃r,aP E 23 [.agg [pv,iv],.agg [.int .i64 a,.int .i64 b,.int .i64 c,.int .i64 e,.str s0,.str s1,.str s2]]=some r/\r=.tuple [.agg E2,.int .i64 d]by obtain⟨r,h1,rfl⟩:=hh;exact h1
 have o1:=hA.pv.one;have o2:=hA.iv.one;have p1:=hA.pv.pure;have p2:=hA.iv.pure;have b0:(d !=0)=true:=by simpa using hd
 have tO:bQ (.int .i64 d)=true:=rfl;refine oA ayq ?_;intro ts hl g0 g1;unfold c23 E2;simp only[↓aL,aM,↓aS,aJ,ct,↓reduceIte,aa,ah,ae,Tryz.f23,hl,g0,g1,p1,p2,uK,b0]
def K6(hA:kS pv iv l m)(uK:aP E 12 [.agg [pv,iv]]=some (.int .i64 d))(hd:d≠0){z a b c e:Int}{s0 s1 s2:List UInt8}:aP E 24 [.agg [pv,iv],.int .i64 z,.agg [.int .i64 a,.int .i64 b,.int .i64 c,.int .i64 e,.str s0,.str s1,.str s2]]=some (.tuple [.agg E2,.int .i64 d]):=by
 suffices hh:∃r,aP E 24 [.agg [pv,iv],.int .i64 z,.agg [.int .i64 a,.int .i64 b,.int .i64 c,.int .i64 e,.str s0,.str s1,.str s2]]=some r/\r=.tuple [.agg E2,.int .i64 d]by obtain⟨r,h1,rfl⟩:=hh;exact h1
 have o1:=hA.pv.one;have o2:=hA.iv.one;have p1:=hA.pv.pure;have p2:=hA.iv.pure;have b0:(d !=0)=true:=by simpa using hd
 have tO:bQ (.int .i64 d)=true:=rfl;refine gw3 ayr ?_;intro ts hl g0 g1 g2;unfold c24 E2;simp only[↓aL,aM,↓aS,aJ,ct,↓reduceIte,aa,ah,ae,Tryz.f24,hl,g0,g2,p1,p2,uK,b0]
end
section
variable{E:Env} [C:Ctx E]{pv iv:AV}{l:pX}{m:Ins}{d:Int}
def Ll(hA:kS pv iv l m)(uK:aP E 12 [.agg [pv,iv]]=some (.int .i64 d))(hd:d≠0):aP E 45 [.agg [pv,iv]]=some (.tuple [.aH,.int .i64 d]):=by
 suffices hh:∃r,aP E 45 [.agg [pv,iv]]=some r/\r=.tuple [.aH,.int .i64 d]by obtain⟨r,h1,rfl⟩:=hh;exact h1
 have qp:=uP (E:=E) hA uK hd;have o1:=hA.pv.one;have o2:=hA.iv.one;have p1:=hA.pv.pure;have p2:=hA.iv.pure;have b0:(d==0)=false:=by simpa using hd
 have tO:bQ (.int .i64 d)=true:=rfl;refine nY ayH ?_;intro ts hl g0;unfold c45;simp only[↓aL,aM,↓aS,aJ,↓reduceIte,aa,ah,ae,Tryz.f45,hl,g0,p1,p2,qp,b0]
def Mm(hA:kS pv iv l m)(uK:aP E 12 [.agg [pv,iv]]=some (.int .i64 d))(hd:d≠0):aP E 20 [.agg [pv,iv]]=some (.tuple [.str [],.agg [.str [],.str [],.str []],.int .i64 d]):=by
 suffices hh:∃r,aP E 20 [.agg [pv,iv]]=some r/\r=.tuple [.str [],.agg [.str [],.str [],.str []],.int .i64 d]by obtain⟨r,h1,rfl⟩:=hh;exact h1
 have qp:=Ll (E:=E) hA uK hd;have o1:=hA.pv.one;have o2:=hA.iv.one;have p1:=hA.pv.pure;have p2:=hA.iv.pure;have b0:(d !=0)=true:=by simpa using hd
 have tO:bQ (.int .i64 d)=true:=rfl;refine nY ayn ?_;intro ts hl g0;unfold c20;simp only[↓aL,aM,↓aS,aJ,ct,↓reduceIte,aa,ah,ae,Tryz.f20,hl,g0,p1,p2,qp,b0]
def Ug:List AV:=[.bool false,.aH,.bool false,.aH,.bool false,.aH,.bool false,.aH,.bool false,.aH,.bool false,.aH]
def aby(hA:kS pv iv l m)(uK:aP E 12 [.agg [pv,iv]]=some (.int .i64 d))(hd:d≠0):aP E 21 [.agg [pv,iv]]=some (.tuple [.agg Ug,.agg Ug,.int .i64 d]):=by
 suffices hh:∃r,aP E 21 [.agg [pv,iv]]=some r/\r=.tuple [.agg Ug,.agg Ug,.int .i64 d]by obtain⟨r,h1,rfl⟩:=hh;exact h1
 have qp:=Ll (E:=E) hA uK hd;have o1:=hA.pv.one;have o2:=hA.iv.one;have p1:=hA.pv.pure;have p2:=hA.iv.pure;have b0:(d !=0)=true:=by simpa using hd
 have tO:bQ (.int .i64 d)=true:=rfl;refine nY ayo ?_;intro ts hl g0;unfold c21 Ug;simp only[↓aL,aM,↓aS,aJ,ct,↓reduceIte,aa,ah,ae,Tryz.f21,hl,g0,p1,p2,qp,b0]
def Gc:aP E 44 [.aH]=some (.func 67 [] [.cS [.aH] 0]):=by
 suffices hh:∃r,aP E 44 [.aH]=some r/\r=.func 67 [] [.cS [.aH] 0]by obtain⟨r,h1,rfl⟩:=hh;exact h1
 obtain⟨u,gH⟩:∃u,sI false [.cells .live [.aH]] [.func 67 [] [.bK 0 0]]=some ([.func 67 [] [.cS [.aH] 0]],u):=
  ⟨_,nk (m:=3) (ft.cons (Fr.func (ft.cons (Fr.hp (st:=.live) rfl (by decide) (ft.flat (fun c hc=>by simp only[aNe,aV0,or_false]at hc;subst hc;exact fun _ _=>rfl))) ft.nil)) ft.nil) (by omega) (by simp[aV,aU])⟩
 refine nY ayG ?_;intro ts hl g0;unfold c44;have cnl:AV.aH.cells=[.aH]:=rfl;simp only[↓aL,aM,aa,ae,Tryz.f44,hl,g0,cnl,Cz,gH]
def JC{lp:Nat}{H:Hp}{tr:List AV}{ps:List Nat}{ac bd:Code}{tq ts:List AV}{Q:Ex->List AV->Hp->Prop}(hl:ts.length=40)(g0:gt ts 0=.yield lp)(g1:gt ts 1=.cS [.aH] 0)
  (zN:H[lp]?=some (.loop .ready none tr ps ac bd)) (hQ:Q .normal tq (H.set lp (.loop .exhausted none tr ps ac bd))):V E c67 ts H (o6 E [] fun _ H2=>Gy E lp tq Q H2):=by
 obtain⟨HS,Sq⟩:∃HS,HS=H:=⟨_,rfl⟩;rw[<-Sq];unfold c67;refine VS ?_;simp only[↓aL,aM,aJ,aa,Tryz.f67,hl,g1];refine cC (fun k_ ts H=>∃j:Nat,∃H1:Hp,k_=(0-j:Nat)/\ts.length=40/\gt ts 7=.aH/\gt ts 8=.int .i64 0/\gt ts 9=.int .i64 (j:Int)/\H=H1/\(j=0)/\(H1=HS)) (0) ?_ ?_
 rotate_left
 ·refine⟨0,HS,(by first|omega|rfl|simp),(by simp[bc,hl]),?_⟩;simp only[aY,hl,aa,ae]
  iterate 4 refine cI ?_
  refine⟨?_,?_⟩
  ·first|rfl|trivial
  ·first|rfl|trivial
 clear hl g0 g1 ts;rintro k_ ts H ⟨j,H1,rfl,hl,g7,g8,g9,rfl,hj,hh1⟩;refine VS ?_;have d2:decide ((j:Int)<0)=false:=bh (by omega);simp only[↓aL,aM,↓reduceIte,aa,hl,g8,g9,d2];rw[hh1,Sq];exact⟨.ready,none,tr,ps,ac,bd,zN,by decide,hQ⟩
end
def aBz{a x y:cE}:[a,x].set 1 y=[a,y]:=rfl
def aBA{a b c e x y:cE}:[a,b,c,e,x].set 4 y=[a,b,c,e,y]:=rfl
section
variable{E:Env} [C:Ctx E]{pv iv:AV}{l:pX}{m:Ins}{d:Int}
def L9:∃H',cV E 66 [.aH,.func 67 [] [.cS [.aH] 0]] []=some (.aH,H'):=by
 suffices hh:∃r H',cV E 66 [.aH,.func 67 [] [.cS [.aH] 0]] []=some (r,H')/\r=.aH by obtain⟨r,H',h1,rfl⟩:=hh;exact⟨H',h1⟩
 refine gi2 (gd C) (by rw[C.fn];exact ayN) (by decide) ?_;intro ts hl g0 g1;unfold c66;have cnl:AV.aH.cells=[.aH]:=rfl;simp only[↓aL,aM,ae,Tryz.f66,g0,g1,cnl];have LO:=hl;refine xJ (f:=67) (first:=[]) (cap:=[.cS [.aH] 0]) (by simp only[aY,aQ,LO,aa]) (by rw[C.fn];exact ase) ?_;intro ac bd tr CV Su Na tz yp;refine JC (tr:=tr) (ps:=[7]) (ac:=ac) (bd:=bd) (by rw[yp];rfl) (by rw[yp];rfl) (by rw[yp];rfl) (by rfl) ?_
 dsimp only
 simp only[↓aL,aM,aJ,aa,ae,hl,aBz]
def IX:aP E 43 [.func 67 [] [.cS [.aH] 0]]=some .aH:=by
 suffices hh:∃r,aP E 43 [.func 67 [] [.cS [.aH] 0]]=some r/\r=.aH by obtain⟨r,h1,rfl⟩:=hh;exact h1
 obtain⟨H',hap⟩:=L9 (E:=E);have hpf:aU (AV.func 67 [] [.cS [.aH] 0])=true:=by simp[aU,aV]
 refine nY ayF ?_;intro ts hl g0;unfold c43;simp only[↓aL,aM,↓aS,aJ,aa,ae,Tryz.f43,hl,g0,hap]
def Tm(hA:kS pv iv l m)(uK:aP E 12 [.agg [pv,iv]]=some (.int .i64 d))(hd:d≠0):aP E 18 [.agg [pv,iv]]=some (.tuple [.aH,.int .i64 d]):=by
 suffices hh:∃r,aP E 18 [.agg [pv,iv]]=some r/\r=.tuple [.aH,.int .i64 d]by obtain⟨r,h1,rfl⟩:=hh;exact h1
 have qp:=uP (E:=E) hA uK hd;have tL:=Gc (E:=E);have nh:=IX (E:=E);have hpf:aU (AV.func 67 [] [.cS [.aH] 0])=true:=by simp[aU,aV]
 have o1:=hA.pv.one;have o2:=hA.iv.one;have p1:=hA.pv.pure;have p2:=hA.iv.pure;have tO:bQ (.int .i64 d)=true:=rfl;refine nY ayl ?_;intro ts hl g0;unfold c18;simp only[↓aL,aM,↓aS,aJ,↓reduceIte,aa,ah,ae,Tryz.f18,hl,g0,p1,p2,qp,tL,nh,hpf]
def TS(hA:kS pv iv l m)(uK:aP E 12 [.agg [pv,iv]]=some (.int .i64 d))(hd:d≠0):aP E 19 [.agg [pv,iv]]=some (.tuple [.int .i64 0,.int .i64 0,.int .i64 d]):=by
 suffices hh:∃r,aP E 19 [.agg [pv,iv]]=some r/\r=.tuple [.int .i64 0,.int .i64 0,.int .i64 d]by obtain⟨r,h1,rfl⟩:=hh;exact h1
 have qp:=uP (E:=E) hA uK hd;have tL:=Gc (E:=E);have hpf:aU (AV.func 67 [] [.cS [.aH] 0])=true:=by simp[aU,aV]
 have o1:=hA.pv.one;have o2:=hA.iv.one;have p1:=hA.pv.pure;have p2:=hA.iv.pure;have tO:bQ (.int .i64 d)=true:=rfl;refine nY aym ?_;intro ts hl g0;unfold c19;simp only[↓aL,aM,↓aS,aJ,ct,↓reduceIte,aa,ah,ae,Tryz.f19,hl,g0,p1,p2,qp,tL];have LO:=hl;refine xJ (f:=67) (first:=[]) (cap:=[.cS [.aH] 0]) (by simp only[aY,aQ,LO,aa]) (by rw[C.fn];exact ase) ?_;intro ac bd tr CV Su Na tz yp;refine JC (tr:=tr) (ps:=[14]) (ac:=ac) (bd:=bd) (by rw[yp];rfl) (by rw[yp];rfl) (by rw[yp];rfl) (by rfl) ?_
 dsimp only
 simp only[↓aL,aM,aJ,↓reduceIte,aa,ah,ae,aj,hl,aBA]
end
def an9:kS .aH .aH [] []:=
 ⟨.inr ⟨rfl,.inl rfl⟩,.inr ⟨rfl,.inl rfl⟩,fun _ h=>absurd h aV0,by simp,by simp,fun _ h=>absurd h aV0,fun _ h=>absurd h aV0,fun _ h=>absurd h aV0⟩
def K3(hk:aP E 5 []=some (.bool true)){pv iv pw iw:AV}{l k:pX}{m n:Ins}(hA:kS pv iv l m)(hB:kS pw iw k n):
  aP E 4 [.agg [pv,iv],.agg [pw,iw]]=some (.bool true):=by
 suffices hh:∃r,aP E 4 [.agg [pv,iv],.agg [pw,iw]]=some r/\r=.bool true by obtain⟨r,h1,rfl⟩:=hh;exact h1
 have o1:=hA.pv.one;have o2:=hA.iv.one;have o3:=hB.pv.one;have o4:=hB.iv.one;have p1:=hA.pv.pure;have p2:=hA.iv.pure;have p3:=hB.pv.pure;have p4:=hB.iv.pure;obtain⟨bf,adb,hF⟩:=Jb (E:=E) hA;obtain⟨bg,ako,hG⟩:=Jb (E:=E) hB;refine oA fn4 ?_;intro ts hl g0 g1;unfold c4;cases bf with
 |false=>simp only[↓aL,aM,↓aS,aJ,↓reduceIte,aa,ah,ae,Tryz.f4,hl,g0,g1,p1,p2,hk,adb]
 |true=>
  cases bg with
  |false=>simp only[↓aL,aM,↓aS,aJ,↓reduceIte,aa,ah,ae,Tryz.f4,hl,g0,g1,p1,p2,p3,p4,hk,adb,ako]
  |true=>
   have hF:=hF rfl;have hc:∀p∈l,p.cl.length<=4611686018427387904/\∀c∈p.cl,c.2.length<=4611686018427387904:=fun p hp=>by
    have h:=hF.p2 p hp;exact⟨by omega,fun c hc=>by have:=h.2 c hc;omega⟩
   have hab:=IE (E:=E) hA hB hc;have hls:=Dj (E:=E) hA hB hc;have haa:=IE (E:=E) hA hA hc;rw[I7]at haa;have hz:=Dj (E:=E) an9 an9 (fun _ h=>absurd h aV0);rw[I7]at hz;have Um:(MC l m k n !=MC l m k n)=false:=by simp
   have hsx:∀p∈l,L5 p.cv:=fun p hp=>(hA.pt p hp).Uy
   obtain⟨K,hK⟩:=We (E:=E) hA.pt hF;have hO:UL pv iv l m:=⟨hA.pv,hA.iv,hsx,by have:=hF.l5;omega,by have:=hF.m14;omega,hA.ps,fun x hx=>(hA.is x hx).1⟩;have uK:=IC hO (.inr hK);have AA:=Kn hO (.inr hK);generalize wG K l m=d at uK AA;have Xg:=fun{c:Bool}=>IM (E:=E) (c:=c) (a:=MC l m k n) (b:=MC l m k n)
   by_cases hd:d=0
   ·have b0:(d==0)=true:=by simpa using hd
    simp only[↓aL,aM,↓aS,aJ,↓reduceIte,aa,ah,ae,Tryz.f4,pI bo4,hl,g0,g1,p1,p2,p3,p4,hk,adb,ako,hab,hls,haa,Um,AA,b0]
   have b0:(d==0)=false:=by simpa using hd
   have r17:=uP (E:=E) hA uK hd;have r18:=Tm (E:=E) hA uK hd;have r19:=TS (E:=E) hA uK hd;have r20:=Mm (E:=E) hA uK hd;have r21:=aby (E:=E) hA uK hd;have r22:=OL (E:=E) hA uK hd (v:=.aK [.int .i64 9] 1) (by simp[aU]);have r23:=Y2 (E:=E) hA uK hd (a:=0) (b:=0) (c:=0) (e:=0) (s0:=[]) (s1:=[]) (s2:=[]);have r24:=K6 (E:=E) hA uK hd (z:=9) (a:=0) (b:=0) (c:=0) (e:=0) (s0:=[]) (s1:=[]) (s2:=[]);unfold E2 at r22 r23 r24;unfold Ug at r21;have tO:bQ (.int .i64 d)=true:=rfl;have bd:(d==d)=true:=by simp
   have fl0:∀v∈[pv,iv],Flat v:=by
    intro v hv;simp only[aNe,aV0,or_false]at hv;rcases hv with rfl|rfl
    ·exact hA.pv.flat
    ·exact hA.iv.flat
   have fl9:∀v∈[AV.int .i64 9],Flat v:=by intro v hv;simp only[aNe,aV0,or_false]at hv;subst hv;exact iX
   obtain⟨u,gH⟩:∃u,∀{a b c e f g:cE},sI false [a,b,c,e,f,g,.cells .live [.int .i64 9]] [.agg [pv,iv],.aI 6 0 1 1 1]=some ([.agg [pv,iv],.aK [.int .i64 9] 1],u):=
    ⟨_,fun{a b c e f g}=>nk (m:=2) (ft.cons (Fr.agg (ft.flat fl0)) (ft.cons (Fr.hsA (st:=.live) rfl (by decide) rfl (ft.flat fl9)) ft.nil)) (by omega) (by simp[aV,aU])⟩
   have hrt:bQ (AV.tuple [AV.agg [AV.aH,AV.aH],AV.int .i64 d])=true:=rfl;have aAh:∀c:Bool,cp E c .eql 41 (.str []) (.str [])=some (.bool true):=fun c=>by simp[cp,Lr]
   have BG:∀aR,bZ E aR 67 1 [(0,AV.int .i64 9)]=some (.aI aR 0 1 1 1,[(aR,.cells .live [.int .i64 9])]):=fun aR=>lk HL rfl (by decide) (by decide) rfl
   simp only[↓aL,aM,↓aS,aJ,ct,↓reduceIte,aa,ah,ae,Tryz.f4,pI bo4,hl,g0,g1,p1,p2,p3,p4,hk,adb,ako,hab,hls,haa,Um,AA,b0,r17,r18,r19,r20,r21,r22,r23,r24,hz,aAh,BG,gH,hrt]
end Go.Proofs.YtmkjgfnicfpjpaaGreatDoor
namespace Go.Proofs.YtmkjgfnicfpjpaaGreatDoor
open Go Go.ChangeShapes Go.WideShapes Go.ChangeAt Go.RowKit Go.ChangeMaps Dv
variable{E:Env}[C:Ctx E]
def OF{W:World}{args:Array Value}(hg:xG E0 (fun _=>False) W){pv iv pw iw:AV}{l k:pX}{m n:Ins}(hA:kS pv iv l m)(hB:kS pw iw k n){cs0 cs1:Array Value}(qE:args=#[.agg cs0,.agg cs1])(hR:Rs cg W (fun _=>False) [pv,iv] cs0.toList)(hS:Rs cg W (fun _=>False) [pw,iw] cs1.toList):
  Calls Tryz.prog 4 args W (LK fun v w'=>Go.RowKit.Below W.heap.size W w'/\R cg w' (fun _=>False) (.bool true) v):=by
 have:=axX
 have hr:=K3 (E:=EK) N3 hA hB;have atF:Rs cg W (fun _=>False) [.agg [pv,iv],.agg [pw,iw]] args.toList:=by subst qE;simp only[Rs,R];exact⟨_,_,rfl,⟨cs0,rfl,by simpa only[Rs]using hR⟩,_,_,rfl,⟨cs1,rfl,by simpa only[Rs]using hS⟩,rfl⟩
 exact IQ amq au4 (by kernel_rfl) hr (fun _ h=>h.elim) hg atF
def aex(os:Os)(started:os.Started)(H:Type)(enc:TypeId×Value->H):
  ReturnsInHanded {} Tryz.checked os 4 .any (fun w args=>(Rows.assemblyRefusesSpec.pre enc Tryz.prog Tryz.f4 [] false w args/\laidMetH Tryz.prog Rows.assemblyRefusesRow.laid w)/\sizedMet enc Tryz.prog Tryz.f4 (OpenSpec.ofChange Rows.assemblyRefusesSpec) false w args)
   (Rows.assemblyRefusesSpec.post enc Tryz.prog Tryz.f4 false true false false):=by
 refine returnsInHanded_of_change_and (C:=Tryz.checked) (X:=fun w _=>laidMetH Tryz.prog Rows.assemblyRefusesRow.laid w) (fun _ _ _ hh h=>h.of_heap hh) own started (by kernel_rfl) Tryz.func4
  (ChangeSpec.witness_shaped (enc:=enc) (C:=Tryz.checked) (os:=os) (X:=fun w _=>laidMetH Tryz.prog Rows.assemblyRefusesRow.laid w) false (zY os)
   #[.agg #[.slice none 0 0,.slice none 0 0],.agg #[.slice none 0 0,.slice none 0 0]] 8 rfl (World.shaped_of_RefB (by kernel_rfl) (by kernel_rfl)) (by kernel_rfl) (by kernel_rfl) (by kernel_rfl) (EM os _)) ?_
 intro W base args ds gs before agM hW _ hwt hL _;have C3:∀(j:Nat) t v,Tryz.f4.params[j]?=some t->args[j]?=some v->Value.okWide Tryz.prog W .any base t v:=agM;have Xd:=hW;have eh:=hW.lt;have adA:(DataW.weightsEach Tryz.prog (Tryz.f4.params.toList++Rows.assemblyRefusesSpec.plain.varTypes Tryz.prog) (ds++gs)).all (·<=reachBytes)=true:=hwt;rw[Tryz.params4,show(#[25,25]:Array TypeId).toList=[25,25]from rfl]at adA;clear hwt;obtain⟨p,q,hA0,hV,rfl,gH,hnd⟩:=hW;have hA:DataW.TrodAll enc Tryz.prog W 0 (fun _=>true) true Tryz.f4.params.toList args.toList ds p:=hA0;rw[Tryz.params4]at hA C3;obtain⟨v0,v1,d0,d1,p0,p1,rfl,rfl,rfl,h0,h1⟩:=trodAll_two hA;obtain⟨rfl,rfl⟩:=trodVars_none hV;obtain⟨f0,f1,atP,-⟩:=GU (show fieldsOf 25=[(22,0),(23,1)]by kernel_rfl);obtain⟨cs0,rfl,-⟩:=okWide_struct atP (C3 0 25 v0 rfl rfl);obtain⟨cs1,rfl,-⟩:=okWide_struct atP (C3 1 25 v1 rfl rfl);obtain⟨n0,h0⟩:=h0;obtain⟨n1,h1⟩:=h1;have Bj:xK 25 d0/\xK 25 d1:=by simp only[aRk,List.nil_append,DataW.weightsEach,List.all_append,aM6]at adA;exact⟨adA.1,adA.2.1⟩
 obtain⟨pv,iv,l,m,hAs,hRs⟩:=KZ (cs:=cs0.toList) h0 Bj.1;obtain⟨pw,iw,k,n,hBs,hSs⟩:=KZ (cs:=cs1.toList) h1 Bj.2;clear hA0 agM C3 h0 h1 hA;refine(OF (GV hL) hAs hBs rfl hRs hSs).mono fun e W' he=>?_
 cases e with
 |panicked _=>exact he.elim
 |outgrown=>exact he.elim
 |returned v=>
  obtain⟨hb,hv⟩:=he;simp only[R]at hv;subst hv;obtain⟨p',q',hA1,hV1,hpq,-,-⟩:=id Xd;have az6:∀t∈Tryz.f4.params.toList,Tryz.prog.readableRec t=true/\t<Tryz.prog.types.size:=by
   intro t ht;rw[Tryz.params4]at ht;have hm:t∈[25,25]:=by simpa using ht
   have qd:([25,25].all fun u=>Tryz.prog.readableRec u&&decide (u<Tryz.prog.types.size))=true:=by kernel_rfl
   have:=List.all_eq_true.1 qd t hm
   simpa using this
  exact⟨_,rfl,EW (pa:=_) (pv:=[]) Xd (fun _ _ _=>trodAll_mk1 (shut_bool u4 _)) (fun sp hsp=>wh laidOut hb az6 hA1 (fun p hp=>eh p (by rw[hpq]at*;exact aOu _ hp)) (fun p hp=>hsp p (by rw[hpq];exact aOu _ hp))) (fun _ _=>rfl) (by rw[hpq,(trodVars_none hV1).2]) hb (ok_one (by kernel_rfl) rfl (okWide_bool_mk u4 _))⟩
end Go.Proofs.YtmkjgfnicfpjpaaGreatDoor
namespace Go.Proofs.YtmkjgfnicfpjpaaGreatDoor
open Go
def gu{a b:Bool}(h:a=true)(k:b=true):(a&&b)=true:=by rw[h,k];rfl
def rj0:(Rows.assemblyRefusesRow.wf (OpenSpec.ofChange Rows.assemblyRefusesSpec))=true:=by kernel_rfl
def rj1:(laidOutB Tryz.prog)=true:=by kernel_rfl
def rj2:(mapsRowed Tryz.prog)=true:=by kernel_rfl
def rj3:(Tryz.f4.params.all (Tryz.prog.readableRec ·))=true:=by kernel_rfl
def rj4:(namedTie Tryz.prog Rows.assemblyRefusesRow.named Rows.assemblyRefusesSpec.vars)=true:=by kernel_rfl
def rj5:((Rows.assemblyRefusesRow.stops==[]))=true:=by kernel_rfl
def rj6:((Tryz.prog.stops==[]))=true:=by kernel_rfl
def rj7:((Rows.assemblyRefusesRow.knobs==[]))=true:=by kernel_rfl
def rj8:((Tryz.prog.stopKnobs==[]))=true:=by kernel_rfl
def rj9:((Rows.assemblyRefusesRow.inPlace==Tryz.prog.inPlace 4))=true:=by kernel_rfl
def aA8:((Rows.assemblyRefusesRow.unfollowed==Tryz.prog.unfollowed 4))=true:=by kernel_rfl
def aA9:((Rows.assemblyRefusesRow.recurses==Tryz.prog.recurses 4))=true:=by kernel_rfl
def aBa:((Rows.assemblyRefusesRow.named==Tryz.prog.varsNamed 4))=true:=by kernel_rfl
def aBb:((Rows.assemblyRefusesRow.maps==(Tryz.f4.params.toList++Rows.assemblyRefusesSpec.plain.varTypes Tryz.prog).any (Tryz.prog.mapsRec ·)))=true:=by kernel_rfl
def aBc:((Rows.assemblyRefusesRow.ifaces==(Tryz.f4.params.toList++Rows.assemblyRefusesSpec.plain.varTypes Tryz.prog).any (Tryz.prog.ifacesRec ·)))=true:=by kernel_rfl
def aBd:((Rows.assemblyRefusesRow.mapsOut==Tryz.prog.mapsAmong Tryz.f4.resultTypes.toList))=true:=by kernel_rfl
def aBe:((Rows.assemblyRefusesRow.loops==(Tryz.f4.params.toList++Rows.assemblyRefusesSpec.plain.varTypes Tryz.prog).any (Tryz.prog.loopsFrom ·)))=true:=by kernel_rfl
def aBf:((Rows.assemblyRefusesRow.wideKeys==(Tryz.f4.params.toList++Rows.assemblyRefusesSpec.plain.varTypes Tryz.prog++Tryz.f4.resultTypes.toList).any (Tryz.prog.wideKeysFrom ·)))=true:=by kernel_rfl
def aBg:(Rows.assemblyRefusesSpec.vars.all (Tryz.prog.varReadable ·))=true:=by kernel_rfl
def aBh:(Tryz.f4.resultTypes.all (fun t=>Tryz.prog.readableRec t&&decide (t<Tryz.prog.types.size)))=true:=by kernel_rfl
def aBi:((Rows.assemblyRefusesRow.ifacesOut==Tryz.f4.resultTypes.toList.any (Tryz.prog.ifacesRec ·)))=true:=by kernel_rfl
def aBj:((Rows.assemblyRefusesRow.loopsOut==Tryz.f4.resultTypes.toList.any (Tryz.prog.loopsFrom ·)))=true:=by kernel_rfl
def aBk:((Rows.assemblyRefusesRow.plainKeys==Tryz.prog.plainKeys))=true:=by kernel_rfl
def aBl:(Rows.assemblyRefusesRow.shortTexts.isNone)=true:=by kernel_rfl
def aBm:(Tryz.prog.stopsHeard)=true:=by kernel_rfl
def aBn:(Tryz.prog.mayEnter)=true:=by kernel_rfl
def aBo:((Rows.assemblyRefusesRow.lifted==Tryz.prog.liftsFinal))=true:=by kernel_rfl
def aBp:((Tryz.prog.make==some Rows.assemblyRefusesRow.make))=true:=by kernel_rfl
def aBq:((Rows.assemblyRefusesRow.kinds==(if Rows.assemblyRefusesRow.domain.isEmpty then []else Tryz.f4.params.toList.map fun t=>match Tryz.prog.underlying t with|some (.int k)=>some k|_=>none)))=true:=by kernel_rfl
def aBr:((Rows.assemblyRefusesRow.pinned==Rows.assemblyRefusesRow.pinnedBy))=true:=by kernel_rfl
def aBs:((Rows.assemblyRefusesRow.veiled==(Tryz.f4.params.toList++Rows.assemblyRefusesSpec.plain.varTypes Tryz.prog++Tryz.f4.resultTypes.toList).any (Tryz.prog.veiledRec ·)))=true:=by kernel_rfl
def aBt:(Rows.assemblyRefusesRow.veiledFits Tryz.prog Tryz.f4.params.toList (Tryz.f4.params.toList++Rows.assemblyRefusesSpec.plain.varTypes Tryz.prog++Tryz.f4.resultTypes.toList))=true:=by kernel_rfl
def aew:joinedFacts Tryz.prog 4 Tryz.f4 Rows.assemblyRefusesSpec Rows.assemblyRefusesRow=true:=by unfold joinedFacts;exact gu (gu (gu (gu (gu (gu (gu (gu (gu (gu (gu (gu (gu (gu (gu (gu (gu (gu (gu (gu (gu (gu (gu (gu (gu (gu (gu (gu (gu (gu (gu rj0 rj1) rj2) rj3) rj4) rj5) rj6) rj7) rj8) rj9) aA8) aA9) aBa) aBb) aBc) aBd) aBe) aBf) aBg) aBh) aBi) aBj) aBk) aBl) aBm) aBn) aBo) aBp) aBq) aBr) aBs) aBt
end Go.Proofs.YtmkjgfnicfpjpaaGreatDoor
