/- Lemmas for AssemblyChecks; no condition. -/
import Derived.Test.YtmkjgfnicfpjpaaGreatDoorTbh
import Derived.Test.YtmkjgfnicfpjpaaGreatDoorTaz
set_option linter.all false
set_option maxHeartbeats 100000000
set_option maxRecDepth 100000
noncomputable section
open List renaming getElem?_eq_getElem->aLh,getD_eq_getElem?_getD->aTc,getElem?_eq_some_iff->aKB,getElem_mem->aLr,getElem?_set_ne->aNt,not_mem_nil->aVd,mem_cons->aMp,getElem?_append_left->aNB,length_eq_zero_iff->aWp,getElem?_set_self->aNv,mem_map->aMr,length_map->aOY,length_set->aPI,mem_singleton->aMs,append_assoc->aTs,getElem_map->aN6,all_eq_true->aLq,cons_append->aQv,nil_append->aQo,length->aWU,set_append_left->aVt,mem_append_left->aNE,getElem_set_ne->aWV,length_append->aLk,ext_getElem->aWX,mem_flatten->aVG
open Nat renaming lt_or_eq_of_le->aVr,le_of_lt_succ->aVs,le_refl->aKE,reduceLT->aa,reduceEqDiff->ae,reduceAdd->ah,reduceBEq->aj
open Bool renaming and_eq_true->aMh
open Int renaming reduceLT->aq,reduceNeg->aB
namespace Go.Proofs.YtmkjgfnicfpjpaaGreatDoor
open Go Dv Dv.dR
variable{E:Env}[C:Ctx E]
def rn(p:nF):List UInt8×Int×List (List I3):=(p.nm,p.dn,p.cl.map (·.2))
deriving instance DecidableEq for I3
def U6{c:Bool}{a b:I3}:cd E c .neq 89 (.agg [.int .i64 a.x,.int .i64 a.y,.int .i64 a.z]) (.agg [.int .i64 b.x,.int .i64 b.y,.int .i64 b.z])=some (.bool (!decide (a=b))):=by
 have h:GP E 89 3 3=true:=GQ C;have e1:=C6 (E:=E) (m:=18) (t:=89) (n:=3) h (B7 C) (xs:=[a.x,a.y,a.z]) (ys:=[b.x,b.y,b.z]) rfl rfl;have e:decide ([a.x,a.y,a.z]=[b.x,b.y,b.z])=decide (a=b):=by
  obtain⟨a1,a2,a3⟩:=a;obtain⟨b1,b2,b3⟩:=b
  rw[decide_eq_decide];simp
 rw[e]at e1;unfold GP at h;cases hi:E.ty 89 with
 |none=>rw[hi]at h;cases h
 |some i=>
  rw[hi]at h;obtain⟨cD,jA,jS,jB,jZ,dQ⟩:=i;cases cD<;>first|(cases h;done)|skip
  simp only[aMh]at h;obtain⟨h1,-⟩:=h;subst h1;have e2:qi E 20 89 (.agg [.int .i64 a.x,.int .i64 a.y,.int .i64 a.z]) (.agg [.int .i64 b.x,.int .i64 b.y,.int .i64 b.z])=some (decide (a=b)):=e1;simp[cd,cd.rY,hi,e2]
def YY{α β:Type}{f:α->β}{l k:List α}{i:Nat}(h1:i<l.length)(h2:i<k.length)(h:f l[i]≠f k[i]):l.map f≠k.map f:=by
 intro e
 have:=congrArg (fun x=>x[i]?) e
 simp only[List.getElem?_map,aLh h1,aLh h2,Option.map_some,Option.some.injEq]at this;exact h this
def F6{α β:Type}{f:α->β}{l k:List α}(hl:l.length=k.length)(h:∀i (h1:i<l.length) (h2:i<k.length),f l[i]=f k[i]):l.map f=k.map f:=by
 refine aWX (by simpa using hl) fun i h1 h2=>?_
 rw[aN6,aN6];exact h i (by simpa using h1) (by simpa using h2)
def Tj{l k:List I3}(hl:l.length=k.length)(h:∀i,i<l.length->fh l i=fh k i):l=k:=by
 refine aWX hl fun i h1 h2=>?_
 have:=h i h1
 unfold fh at this;rw[aTc,aTc,aLh h1,aLh h2]at this;simpa using this
def TD{v w:AV}{l k:se}(hv:SV v (vZ l) l.length)(hw:SV w (vZ k) k.length)(vR:∀p∈l,zn p)(hk:∀p∈k,zn p)(hn:l.length<=4611686018427387904)(hc:∀p∈l,p.cl.length<=4611686018427387904/\∀c∈p.cl,c.2.length<=4611686018427387904):
  aR E 14 [v,w]=some (.bool (decide (l.map rn=k.map rn))):=by
 suffices hh:∃r,aR E 14 [v,w]=some r/\r=.bool (decide (l.map rn=k.map rn))by obtain⟨r,h1,rfl⟩:=hh;exact h1
 obtain⟨D,hD⟩:∃D,D=decide (l.map rn=k.map rn):=⟨_,rfl⟩;rw[<-hD];have lv:=hv.len;have lw:=hw.len;have rv:=hv.root;have rw':=hw.root;refine pX ayc ?_;intro ts hl g0 g1;unfold c14;by_cases hlen:l.length=k.length
 rotate_left
 ·have b0:((l.length:Int)!=(k.length:Int))=true:=by
   have:(l.length:Int)≠(k.length:Int):=by omega
   simpa using this
  simp only[↓aL,aM,aJ,aa,ae,Tryz.f14,hl,g0,g1,lv,lw,b0];rw[hD,bj (fun e=>hlen (by simpa using congrArg aWU e))]
 have b0:((l.length:Int)!=(k.length:Int))=false:=by simp[hlen]
 simp only[↓aL,aM,aJ,aa,ae,Tryz.f14,hl,g0,g1,lv,lw,b0];refine cE (fun k_ ts H=>∃i:Nat,k_=(l.length-i:Nat)/\ts.length=108/\gt ts 0=v/\gt ts 1=w/\gt ts 5=.int .i64 (i:Int)/\H=[]/\(i<=l.length)/\(∀j (h1:j<l.length) (h2:j<k.length),j<i->rn l[j]=rn k[j])) (l.length) ?_ ?_
 rotate_left
 ·refine⟨0,(by first|omega|rfl|simp),(by simp[bc,hl]),?_⟩;simp only[aZ,hl,aa,ae,g0,g1]
  iterate 4 refine cG ?_
  refine⟨?_,?_⟩
  ·first|omega|trivial
  ·first|(intro j _ _ hj;omega)|trivial
 clear hl g0 g1 ts;rintro k_ ts H ⟨i,rfl,hl,g0,g1,g5,rfl,hi,hq⟩;refine VS ?_;by_cases hd:i<l.length
 rotate_left
 ·have d1:decide ((i:Int)<(l.length:Int))=false:=bj;simp only[↓aL,aM,aJ,↓reduceIte,aa,ae,hl,g0,g5,lv,d1];rw[hD,bh (F6 hlen fun j h1 h2=>hq j h1 h2 (by omega))]
 have Ud:i<k.length:=by omega
 have d1:decide ((i:Int)<(l.length:Int))=true:=bh;have Uk:AV.aK (vZ l) l.length=v:=(hv.pos (by omega)).symm;have hwx:AV.aK (vZ k) k.length=w:=(hw.pos (by omega)).symm;have ci:=eT (i:=i) (n:=l.length) hd;have ci':=eT (i:=i) (n:=k.length) Ud;have mZ:=wz (z:=(i:Int)+1) (m:=i+1);have p0:=HE (q:=0) hd (x:=.str (l[i]).nm) rfl;have p1:=HE (q:=1) hd (x:=.int .i64 (l[i]).dn) rfl;have p2:=HE (q:=2) hd (x:=(l[i]).cv) rfl;have q0:=HE (q:=0) Ud (x:=.str (k[i]).nm) rfl;have q1:=HE (q:=1) Ud (x:=.int .i64 (k[i]).dn) rfl;have q2:=HE (q:=2) Ud (x:=(k[i]).cv) rfl;rw[Nat.add_zero]at p0 q0;have MW:rn l[i]≠rn k[i]->D=false:=fun h=>by rw[hD];exact bj (YY hd Ud h)
 have wH:rn l[i]=rn k[i]->∀j (h1:j<l.length) (h2:j<k.length),j<i+1->rn l[j]=rn k[j]:=by
  intro h j h1 h2 Bh;rcases aVr (aVs Bh)with h3|rfl
  ·exact hq j h1 h2 h3
  ·exact h
 have hP:=vR _ (aLr hd);have hQ:=hk _ (aLr Ud);have hcc:=hc _ (aLr hd);have zO:=hP.cv.sv.len;have XE:=hP.cv.sv.root;have LN:=hP.cv.sv;have FE:=hP.cl;have klc:=hQ.cv.sv.len;have krc:=hQ.cv.sv.root;have ksc:=hQ.cv.sv;have kic:=hQ.cl;unfold rn at MW wH;generalize l[i]=lp at*;generalize k[i]=kp at*;obtain⟨nm,dn,cv,cl⟩:=lp;obtain⟨LQ,I7,Be,qf⟩:=kp
 dsimp only at p0 p1 p2 q0 q1 q2 MW wH hcc zO XE LN FE klc krc ksc kic
 have Ef:=fun{c:Bool}=>aeL (E:=E) (c:=c) (a:=nm) (b:=LQ)
 subst Uk;subst hwx;by_cases e1:nm=LQ
 rotate_left
 ·rw[bj e1]at Ef;simp only[↓aL,aM,aJ,↓reduceIte,aa,ah,ae,hl,g0,g1,g5,lv,ci,ci',p0,q0,Ef];rw[MW (fun e=>e1 (by simp only[Prod.mk.injEq]at e;exact e.1))]
 rw[bh e1]at Ef;by_cases e2:dn=I7
 rotate_left
 ·have b2:(dn !=I7)=true:=by simpa using e2
  simp only[↓aL,aM,aJ,↓reduceIte,aa,ah,ae,hl,g0,g1,g5,lv,ci,ci',p0,p1,q0,q1,Ef,b2];rw[MW (fun e=>e2 (by simp only[Prod.mk.injEq]at e;exact e.2.1))]
 have b2:(dn !=I7)=false:=by simp[e2]
 by_cases e3:cl.length=qf.length
 rotate_left
 ·have b3:((cl.length:Int)!=(qf.length:Int))=true:=by
   have:(cl.length:Int)≠(qf.length:Int):=by omega
   simpa using this
  simp only[↓aL,aM,aJ,↓reduceIte,aa,ah,ae,hl,g0,g1,g5,lv,ci,ci',p0,p1,p2,q0,q1,q2,Ef,zO,klc,b2,b3];rw[MW (fun e=>e3 (by simp only[Prod.mk.injEq]at e;simpa using congrArg aWU e.2.2))]
 have b3:((cl.length:Int)!=(qf.length:Int))=false:=by simp[e3]
 simp only[↓aL,aM,aJ,↓reduceIte,aa,ah,ae,hl,g0,g1,g5,lv,ci,ci',p0,p1,p2,q0,q1,q2,Ef,zO,klc,b2,b3];clear p0 p1 q0 q1;refine cE (fun k_ ts H=>∃j:Nat,k_=(cl.length-j:Nat)/\ts.length=108/\gt ts 0=.aK (vZ l) l.length/\gt ts 1=.aK (vZ k) k.length/\gt ts 5=.int .i64 (i:Int)/\gt ts 6=.int .i64 (j:Int)/\H=[]/\(j<=cl.length)/\(∀q (h1:q<cl.length) (h2:q<qf.length),q<j->(cl[q]).2=(qf[q]).2)) (cl.length) ?_ ?_
 rotate_left
 ·refine⟨0,(by first|omega|rfl|simp),(by simp[bc,hl]),?_⟩;simp only[aZ,hl,aa,ae,g0,g1,g5]
  iterate 5 refine cG ?_
  refine⟨?_,?_⟩
  ·first|omega|trivial
  ·first|(intro q _ _ hj;omega)|trivial
 clear hl g0 g1 g5 ts;rintro k_ ts H ⟨j,rfl,hl,g0,g1,g5,g6,rfl,hj,hqj⟩;refine VS ?_;by_cases hdj:j<cl.length
 rotate_left
 ·have e5:decide ((j:Int)<(cl.length:Int))=false:=bj;simp only[↓aL,aM,aJ,↓reduceIte,aa,ae,hl,g0,g5,g6,ci,mZ,p2,zO,e5];refine bK ?_;refine⟨_,?_,i+1,rfl,(by simp[bc,hl]),?_⟩
  ·first|omega|(simp;omega)
  simp only[aZ,hl,aa,ae,g0,g1]
  iterate 4 refine cG ?_
  refine⟨?_,?_⟩
  ·omega
  ·refine wH ?_;rw[e1,e2,F6 e3 fun q h1 h2=>hqj q h1 h2 (by omega)]
 have ada:j<qf.length:=by omega
 have e5:decide ((j:Int)<(cl.length:Int))=true:=bh;have hcx:AV.aK (cl.map (·.1)) cl.length=cv:=(LN.pos (by omega)).symm;have hkx:AV.aK (qf.map (·.1)) qf.length=Be:=(ksc.pos (by omega)).symm;have cj:=eT (i:=j) (n:=cl.length) hdj;have cj':=eT (i:=j) (n:=qf.length) ada;have wj1:=wz (z:=(j:Int)+1) (m:=j+1);have pj:=aja hdj;have pj':=aja ada;have adi:(cl[j]).2≠(qf[j]).2->D=false:=fun h=>MW fun e=>by
  simp only[Prod.mk.injEq]at e;exact YY hdj ada h e.2.2
 have akz:(cl[j]).2=(qf[j]).2->∀q (h1:q<cl.length) (h2:q<qf.length),q<j+1->(cl[q]).2=(qf[q]).2:=by
  intro h q h1 h2 azR;rcases aVr (aVs azR)with h3|rfl
  ·exact hqj q h1 h2 h3
  ·exact h
 have hx:=(FE _ (aLr hdj)).sv;have hy:=(kic _ (aLr ada)).sv;have nu:=hcc.2 _ (aLr hdj);generalize(cl[j]).1=vx at pj hx;generalize(qf[j]).1=vy at pj' hy;generalize(cl[j]).2=xs at adi akz hx nu;generalize(qf[j]).2=ys at adi akz hy;have lx:=hx.len;have ly:=hy.len;have rx:=hx.root;have ry:=hy.root;subst hcx;subst hkx;by_cases e6:xs.length=ys.length
 rotate_left
 ·have b6:((xs.length:Int)!=(ys.length:Int))=true:=by
   have:(xs.length:Int)≠(ys.length:Int):=by omega
   simpa using this
  simp only[↓aL,aM,aJ,↓reduceIte,aa,ah,ae,hl,g0,g1,g5,g6,ci,ci',p2,q2,zO,cj,cj',pj,pj',lx,ly,b6];rw[adi (fun e=>e6 (by rw[e]))]
 have b6:((xs.length:Int)!=(ys.length:Int))=false:=by simp[e6]
 simp only[↓aL,aM,aJ,↓reduceIte,aa,ah,ae,hl,g0,g1,g5,g6,ci,ci',p2,q2,zO,cj,cj',pj,pj',lx,ly,b6];refine cE (fun k_ ts H=>∃n:Nat,k_=(xs.length-n:Nat)/\ts.length=108/\gt ts 0=.aK (vZ l) l.length/\gt ts 1=.aK (vZ k) k.length/\gt ts 5=.int .i64 (i:Int)/\gt ts 6=.int .i64 (j:Int)/\gt ts 7=vx/\gt ts 8=vy/\gt ts 9=.int .i64 (n:Int)/\H=[]/\(n<=xs.length)/\(∀q,q<n->fh xs q=fh ys q)) (xs.length) ?_ ?_
 rotate_left
 ·refine⟨0,(by first|omega|rfl|simp),(by simp[bc,hl]),?_⟩;simp only[aZ,hl,aa,ae,g0,g1,g5,g6]
  iterate 8 refine cG ?_
  refine⟨?_,?_⟩
  ·first|omega|trivial
  ·first|(intro q hq;omega)|trivial
 clear hl g0 g1 g5 g6 ts;rintro k_ ts H ⟨n,rfl,hl,g0,g1,g5,g6,g7,g8,g9,rfl,hnn,vH⟩;refine VS ?_;by_cases Si:n<xs.length
 rotate_left
 ·have e7:decide ((n:Int)<(xs.length:Int))=false:=bj;simp only[↓aL,aM,aJ,↓reduceIte,aa,ae,hl,g6,g7,g9,lx,e7,wj1];refine bK ?_;refine⟨_,?_,j+1,rfl,(by simp[bc,hl]),?_⟩
  ·first|omega|(simp;omega)
  simp only[aZ,hl,aa,ae,g0,g1,g5]
  iterate 5 refine cG ?_
  refine⟨?_,?_⟩
  ·omega
  ·exact akz (Tj e6 fun q hq=>vH q (by omega))
 have asL:n<ys.length:=by omega
 have e7:decide ((n:Int)<(xs.length:Int))=true:=bh;have hxx:AV.aK (oC xs) xs.length=vx:=(hx.pos (by omega)).symm;have hyy:AV.aK (oC ys) ys.length=vy:=(hy.pos (by omega)).symm;have cn:=eT (i:=n) (n:=xs.length) Si;have cn':=eT (i:=n) (n:=ys.length) asL;have wn1:=wz (z:=(n:Int)+1) (m:=n+1);have px:=mU (bG:=xs) Si;have py:=mU (bG:=ys) asL;have azH:fh xs n=fh ys n->∀q,q<n+1->fh xs q=fh ys q:=by
  intro h q hq;rcases aVr (aVs hq)with h3|rfl
  ·exact vH q h3
  ·exact h
 have eQ:=fun{c:Bool}=>U6 (E:=E) (c:=c) (a:=fh xs n) (b:=fh ys n)
 simp only[v3]at px py;subst hxx;subst hyy;by_cases e8:fh xs n=fh ys n
 ·rw[bh e8]at eQ;simp only[↓aL,aM,aJ,↓reduceIte,aa,ah,ae,hl,g7,g8,g9,lx,cn,cn',px,py,eQ,wn1];refine bK ?_;refine⟨_,?_,n+1,rfl,(by simp[bc,hl]),?_⟩
  ·first|omega|(simp;omega)
  simp only[aZ,hl,aa,ae,g0,g1,g5,g6,g7,g8]
  iterate 8 refine cG ?_
  refine⟨?_,?_⟩
  ·omega
  ·exact azH e8
 ·rw[bj e8]at eQ;simp only[↓aL,aM,aJ,↓reduceIte,aa,ah,ae,hl,g7,g8,g9,lx,cn,cn',px,py,eQ];rw[adi (fun e=>e8 (by rw[e]))]
def At{E:Env}{t s rU:Nat}{ag:Bool}{z:List AV}{aP:Nat}(hS:dV E t=some (ag,s,rU,z))(hz:z.length=s)(hs:0<s:=by decide):bQ E aP t 0 []=some (.aI aP 0 0 s 0,[(aP,.cells .live [])]):=by obtain⟨i,e,ei,h1,h2,h3,h4,h5,h6,h7⟩:=iR hS;obtain⟨cD,jA,jS,jB,jZ,dQ⟩:=i;simp only at h2;subst h2 h5;simp[bQ,h1,h3,h7,fD,gD,hz,hs]
def II{E:Env}{t s rU n:Nat}{ag:Bool}{z cs:List AV}{H:Hp}(hS:dV E t=some (ag,s,rU,z))(hs:0<s)(oQ:cs.length=n*s)(hx:cs.all cL=true)(hr:n*rU<=eU)(AF:0<n:=by omega)(hn:n<=4611686018427387904:=by omega):
  bB E (H++[ct.cells oe.live []]) (H++[ct.cells oe.live []]).length .append [t,t] [.aI H.length 0 0 s 0,.aK cs n]=some (.aI (H.length+1) 0 n s n,[(H.length,.cells .dead []),(H.length+1,.cells .live cs)]):=by
 obtain⟨i,e,ei,h1,h2,h3,h4,h5,h6,h7⟩:=iR hS;subst h5 h6;have hsr:mX (H++[ct.cells oe.live []]) ei.size (.aK cs n)=some cs:=by simp[mX,gO,oQ]
 have:=qY (E:=E) (H:=H++[ct.cells oe.live []]) (aP:=(H++[ct.cells oe.live []]).length) (b:=H.length) (off:=0) (len:=0) (kc:=0) (n:=n) (cs:=[]) h1 h2 h3 (x:=.aK cs n) rfl hsr AF (by omega) hx (by simp[h7]) (by simpa using hr) (by omega) (by simp) (by omega) (by simp)
 rw[builtin_append h1 h2 rfl];simpa using this
def Fq{H:Hp}{cs:List AV}:(cC.bJ [(H.length,.cells .dead []),(H.length+1,.cells .live cs)]).app (H++[ct.cells oe.live []])=H++[.cells .dead [],.cells .live cs]:=by
 rw[lj];have h1:cJ (H++[ct.cells oe.live []]) H.length (.cells .dead [])=H++[.cells .dead []]:=by
  rw[dk (by simp),List.set_append_right _ _ (aKE _)];simp
 rw[h1];have h2:H.length+1=(H++[ct.cells oe.dead []]).length:=by simp
 rw[h2,dN]
 simp
def IJ{E:Env}{t s rU:Nat}{ag:Bool}{z:List AV}{H:Hp}{v:AV}{aP b:Nat}(hS:dV E t=some (ag,s,rU,z))(hv:SV v [] 0):
  bB E H aP .append [t,t] [.aI b 0 0 s 0,v]=some (.aI b 0 0 s 0,[]):=by
 obtain⟨i,e,ei,h1,h2,h3,h4,h5,h6,h7⟩:=iR hS;obtain⟨cD,jA,jS,jB,jZ,dQ⟩:=i;simp only at h2;subst h2 h5 h6;have Uc:bB E H aP .append [t,t] [.aI b 0 0 ei.size 0,v]=dT E H aP false t (.aI b 0 0 ei.size 0) v:=by simp[bB,h1]
 rw[Uc];unfold dT;simp only[h1,h3];have hsr:qM H ei false v=some (0,[]):=by
  rcases hv with rfl|⟨_,rfl|rfl⟩<;>simp[qM,l9,mX,gO]
 simp[hsr]
def Cp(s:Nat)(H0:Nat)(v:AV)(H:Hp)(n:Nat)(cs:List AV):Prop:=(v=.aH/\n=0)∨∃b,v=.aI b 0 n s n/\H0<=b/\H[b]?=some (.cells .live cs)
def Cp.app{s H0 n:Nat}{v:AV}{H T:Hp}{cs:List AV}(h:Cp s H0 v H n cs):Cp s H0 v (H++T) n cs:=by
 rcases h with h|⟨b,h1,h2,h3⟩
 ·exact .inl h
 ·exact .inr ⟨b,h1,h2,by rw[aNB (aKB.1 h3).1];exact h3⟩
def Cp.set{s H0 n b0:Nat}{v:AV}{H:Hp}{x:ct}{cs:List AV}(h:Cp s H0 v H n cs)(hb:b0<H0):Cp s H0 v (H.set b0 x) n cs:=by
 rcases h with h|⟨b,h1,h2,h3⟩
 ·exact .inl h
 ·exact .inr ⟨b,h1,h2,by rw[aNt (by omega)];exact h3⟩
def IW{H:Hp}{v:AV}{cs:List AV}{n:Nat}(hv:SV v cs n)(oQ:cs.length=n*1)(hx:cs.all cL=true)(hn:n<=1000000):
  ∃r T,cR E 61 [v] H=some (r,H++T)/\Cp 1 H.length r (H++T) n cs:=by
 suffices hh:∃r H',cR E 61 [v] H=some (r,H')/\∃T,H'=H++T/\Cp 1 H.length r (H++T) n cs by
  obtain⟨r,H',h1,T,rfl,h2⟩:=hh;exact⟨r,T,h1,h2⟩
 have hb:=fun aP=>At (E:=E) (aP:=aP) Lf rfl
 refine gi1 (fV C) (by rw[C.fn];exact ayp) (by decide) ?_;intro ts hl g0;unfold c61;by_cases tB:v=.aH
 ·subst tB;have AF:n=0:=by rcases hv with h|⟨h,_⟩;cases h;exact h
  have he:∀{c:Bool},cd E c .eql 28 .aH .aH=some (.bool true):=fun{c}=>by rw[rh (Lf (E:=E)) (by simp[kC])]
  simp only[↓aL,aM,aa,ae,Tryz.f61,hl,g0,he];exact⟨[],by simp,.inl ⟨rfl,AF⟩⟩
 have he:∀{c:Bool},cd E c .eql 28 v .aH=some (.bool false):=fun{c}=>by
  rw[rh (Lf (E:=E)) (by rw[hv.len];simp)];rcases hv with rfl|⟨_,rfl|rfl⟩
  ·rfl
  ·exact absurd rfl tB
  ·rfl
 by_cases AF:n=0
 ·subst AF;obtain rfl:cs=[]:=aWp.1 (by omega);have ha:∀{aP b:Nat} {H:Hp},bB E H aP .append [28,28] [.aI b 0 0 1 0,v]=some (.aI b 0 0 1 0,[]):=fun{aP b H}=>IJ Lf hv
  simp only[↓aL,aM,aa,ae,Tryz.f61,hl,g0,he,hb,dN,ha];exact⟨[.cells .live []],rfl,.inr ⟨H.length,rfl,aKE _,by simp⟩⟩
 ·have hp:=hv.pos (by omega);subst hp;have ha:=II (E:=E) (H:=H) Lf (by decide) oQ hx (by unfold eU;omega);have hc:=Fq (H:=H) (cs:=cs);simp only[↓aL,aM,aa,ae,Tryz.f61,hl,g0,he,hb,dN,ha,hc];refine⟨[.cells .dead [],.cells .live cs],rfl,.inr ⟨H.length+1,rfl,by omega,?_⟩⟩
  simp
def IX{H:Hp}{v:AV}{cs:List AV}{n:Nat}(hv:SV v cs n)(oQ:cs.length=n*3)(hx:cs.all cL=true)(hn:n<=1000000):
  ∃r T,cR E 62 [v] H=some (r,H++T)/\Cp 3 H.length r (H++T) n cs:=by
 suffices hh:∃r H',cR E 62 [v] H=some (r,H')/\∃T,H'=H++T/\Cp 3 H.length r (H++T) n cs by
  obtain⟨r,H',h1,T,rfl,h2⟩:=hh;exact⟨r,T,h1,h2⟩
 have hb:=fun aP=>At (E:=E) (aP:=aP) OF rfl
 refine gi1 (fV C) (by rw[C.fn];exact ayq) (by decide) ?_;intro ts hl g0;unfold c62;by_cases tB:v=.aH
 ·subst tB;have AF:n=0:=by rcases hv with h|⟨h,_⟩;cases h;exact h
  have he:∀{c:Bool},cd E c .eql 74 .aH .aH=some (.bool true):=fun{c}=>by rw[rh (OF (E:=E)) (by simp[kC])]
  simp only[↓aL,aM,aa,ae,Tryz.f62,hl,g0,he];exact⟨[],by simp,.inl ⟨rfl,AF⟩⟩
 have he:∀{c:Bool},cd E c .eql 74 v .aH=some (.bool false):=fun{c}=>by
  rw[rh (OF (E:=E)) (by rw[hv.len];simp)];rcases hv with rfl|⟨_,rfl|rfl⟩
  ·rfl
  ·exact absurd rfl tB
  ·rfl
 by_cases AF:n=0
 ·subst AF;obtain rfl:cs=[]:=aWp.1 (by omega);have ha:∀{aP b:Nat} {H:Hp},bB E H aP .append [74,74] [.aI b 0 0 3 0,v]=some (.aI b 0 0 3 0,[]):=fun{aP b H}=>IJ OF hv
  simp only[↓aL,aM,aa,ae,Tryz.f62,hl,g0,he,hb,dN,ha];exact⟨[.cells .live []],rfl,.inr ⟨H.length,rfl,aKE _,by simp⟩⟩
 ·have hp:=hv.pos (by omega);subst hp;have ha:=II (E:=E) (H:=H) OF (by decide) oQ hx (by unfold eU;omega);have hc:=Fq (H:=H) (cs:=cs);simp only[↓aL,aM,aa,ae,Tryz.f62,hl,g0,he,hb,dN,ha,hc];refine⟨[.cells .dead [],.cells .live cs],rfl,.inr ⟨H.length+1,rfl,by omega,?_⟩⟩
  simp
def Jj{H:Hp}:∀(ws:List AV) (ps:List (List I3)),ws.length=ps.length->(∀j (h1:j<ws.length) (h2:j<ps.length),∃w',E4 w' ps[j]/\∃bs,Fr H 2 ws[j] w' bs)->
  ∃qf:List Cl,qf.map (·.2)=ps/\(∀c∈qf,E4 c.1 c.2)/\∃bs,eu H 2 ws (qf.map (·.1)) bs
 |[],[],_,_=>⟨[],rfl,(fun c hc=>by cases hc),[],eu.nil⟩
 |w::ws,p::ps,hl,h=>by
  obtain⟨w',h1,b1,h2⟩:=h 0 (by simp) (by simp);obtain⟨qf,h3,h4,b2,h5⟩:=Jj ws ps (by simpa using hl) (fun j q1 q2=>by
   have:=h (j+1) (by simpa using q1) (by simpa using q2)
   simpa using this)
  refine⟨(w',p)::qf,by rw[List.map_cons,h3],?_,b1++b2,?_⟩
  ·intro c hc;rcases aMp.1 hc with rfl|hc
   ·simpa using h1
   ·exact h4 c hc
  ·rw[List.map_cons];exact eu.cons (by simpa using h2) h5
def Cp.inv{H:Hp}{H0:Nat}{v:AV}{bG:List I3}(h:Cp 3 H0 v H bG.length (oC bG)):∃w',E4 w' bG/\∃bs,Fr H 2 v w' bs:=by
 rcases h with⟨rfl,h0⟩|⟨b,rfl,_,hb⟩
 ·exact⟨.aH,.inr ⟨aWp.1 h0,.inl rfl⟩,[],(Fr.flat yb).up (by omega)⟩
 ·exact⟨kO bG,.inl rfl,_,Fr.M0 hb (by decide) (by
   unfold oC;rw[iY (s:=3) (fun r hr=>by obtain⟨p,_,rfl⟩:=aMr.1 hr;rfl),aOY]) (eu.flat (fun c hc=>by
   unfold oC at hc;obtain⟨r,hr,BJ⟩:=aVG.1 hc;obtain⟨p,_,rfl⟩:=aMr.1 hr;simp only[qg,aMp,aVd,or_false]at BJ;rcases BJ with rfl|rfl|rfl<;>exact fE))⟩
def Cp.facts{s H0 n:Nat}{v:AV}{H:Hp}{cs:List AV}(h:Cp s H0 v H n cs):kC v=some (n:Int)/\cL v=true/\v.cells=[v]:=by
 rcases h with⟨rfl,rfl⟩|⟨b,rfl,_,_⟩<;>exact⟨rfl,rfl,rfl⟩
def aeg(bG:List I3):(oC bG).length=bG.length*3:=by
 unfold oC;rw[iY (s:=3) (fun r hr=>by obtain⟨p,_,rfl⟩:=aMr.1 hr;rfl),aOY]
def aeh(bG:List I3):(oC bG).all cL=true:=by
 rw[aLq];intro c hc;unfold oC at hc;obtain⟨r,hr,BJ⟩:=aVG.1 hc;obtain⟨p,_,rfl⟩:=aMr.1 hr;simp only[qg,aMp,aVd,or_false]at BJ;rcases BJ with rfl|rfl|rfl<;>rfl
def ajb{cl:List Cl}(h:∀c∈cl,E4 c.1 c.2):(cl.map (·.1)).all cL=true:=by rw[aLq];intro c hc;obtain⟨d,hd,rfl⟩:=aMr.1 hc;exact(h d hd).one
def Cp.low{s H0 H1 n:Nat}{v:AV}{H:Hp}{cs:List AV}(h:Cp s H0 v H n cs)(hl:H1<=H0):Cp s H1 v H n cs:=by
 rcases h with h|⟨b,e1,e2,e3⟩
 ·exact .inl h
 ·exact .inr ⟨b,e1,by omega,e3⟩
def Cn{p:nF}(h:zn p)(hn:p.cl.length<=1000)(xh:∀c∈p.cl,c.2.length<=1000):
  ∃Be qf,aR E 29 [.agg (sa p)]=some (.agg [.str p.nm,.int .i64 p.dn,Be])/\InC Be qf/\(∀c∈qf,E4 c.1 c.2)/\qf.map (·.2)=p.cl.map (·.2):=by
 obtain⟨nm,dn,cv,cl⟩:=p
 dsimp only at hn xh
 have Sg:InC cv cl:=h.cv;have vQ:∀c∈cl,E4 c.1 c.2:=h.cl
 suffices hh:∃r,aR E 29 [.agg [.str nm,.int .i64 dn,cv]]=some r/\∃Be qf,r=.agg [.str nm,.int .i64 dn,Be]/\InC Be qf/\(∀c∈qf,E4 c.1 c.2)/\qf.map (·.2)=cl.map (·.2)by
  obtain⟨r,h1,Be,qf,rfl,h2⟩:=hh;exact⟨Be,qf,h1,h2⟩
 have BL:=Sg.sv;have ocv:=BL.one;have ccv:=BL.cells;obtain⟨r,T,aj8,hCp⟩:=IW (E:=E) (H:=[.cells .live [.str nm,.int .i64 dn,cv],.cells .live A7]) BL (by rw[aOY,Nat.mul_one]) (ajb vQ) (by omega);obtain⟨hlr,Qj,hrr⟩:=hCp.facts;refine qj ayf ?_;intro ts hl g0;unfold c29;unfold A7 at aj8 hCp;obtain⟨HH,hHH⟩:∃HH,HH=[ct.cells .live [.str nm,.int .i64 dn,cv],.cells .live [.str [],.int .i64 0,.aH]]++T:=⟨_,rfl⟩;have k0:HH[0]?=some (.cells .live [.str nm,.int .i64 dn,cv]):=by rw[hHH];rfl
 have k1:HH[1]?=some (.cells .live [.str [],.int .i64 0,.aH]):=by rw[hHH];rfl
 rw[<-hHH]at aj8 hCp;simp only[↓aL,aM,↓aT,aJ,aa,ae,Tryz.f29,hl,g0,aj8,hlr];by_cases hz:cl.length=0
 ·obtain rfl:cl=[]:=aWp.1 hz;refine cE (fun k_ ts H=>∃i:Nat,k_=0/\ts.length=27/\gt ts 1=.bI 0 0/\gt ts 2=.bI 1 0/\gt ts 3=r/\gt ts 9=r/\gt ts 10=.int .i64 0/\gt ts 11=.int .i64 0/\H=HH/\(i=0)) (0) ?_ ?_
  rotate_left
  ·refine⟨0,(by first|omega|rfl|simp),(by simp[bc,hl]),?_⟩;simp only[aZ,hl,aa,ae]
   iterate 7 refine cG ?_
   first|trivial|omega|(simp;done)
  clear hl g0 ts;rintro k_ ts H ⟨i,rfl,hl,g1,g2,g3,g9,g10,g11,rfl,hi⟩;refine VS ?_;have h0:=k0;have h1:=k1;have zS:gT 1 [r] H 0 2=some (.cells .live [.str nm,.int .i64 dn,r]):=by rw[dX,h0];simp[Qj,cV]
  obtain⟨H6,EB⟩:∃H6,H6=List.set H 0 (.cells .live [.str nm,.int .i64 dn,r]):=⟨_,rfl⟩;have nR:=(aKB.1 h0).1;have Jq:=(aKB.1 h1).1;have hp6:cJ H 0 (.cells .live [.str nm,.int .i64 dn,r])=H6:=by rw[dk nR,EB]
  have a6:eP 3 H6 0 0=some (.agg [.str nm,.int .i64 dn,r]):=by rw[dA,EB,aNv nR];rfl
  have Ss:gT 3 [.str nm,.int .i64 dn,r] H6 1 0=some (.cells .live [.str nm,.int .i64 dn,r]):=by rw[dX,EB,aNt (by omega),h1];simp[Qj,cV,aea];rfl
  obtain⟨H7,Ua⟩:∃H7,H7=H6.set 1 (.cells .live [.str nm,.int .i64 dn,r]):=⟨_,rfl⟩;have Xz:cJ H6 1 (.cells .live [.str nm,.int .i64 dn,r])=H7:=by rw[dk (by rw[EB,aPI];omega),Ua]
  have a7:eP 3 H7 1 0=some (.agg [.str nm,.int .i64 dn,r]):=by rw[dA,Ua,aNv (by rw[EB,aPI];omega)];rfl
  have q7:∀q,2<=q->H7[q]?=H[q]?:=fun q hq=>by rw[Ua,aNt (by omega),EB,aNt (by omega)]
  obtain⟨w',Ir,hpe,uu,zN⟩:∃w',InC w' []/\(aU r=true->w'=r)/\∃uu,Fr H7 4 r w' uu:=by
   rcases hCp with⟨rfl,_⟩|⟨b,rfl,hb,MN⟩
   ·exact⟨.aH,.inr ⟨rfl,.inl rfl⟩,fun _=>rfl,[],(Fr.flat yb).up (by omega)⟩
   ·exact⟨.aK [] 0,.inl rfl,(fun e=>by cases e),_,(Fr.M0 (m:=1) (by rw[q7 b hb];exact MN) (by decide) (by simp) eu.nil).up (by omega)⟩
  obtain⟨u,fY⟩:∃u,qR (aU r) H7 [.agg [.str nm,.int .i64 dn,r]]=some ([.agg [.str nm,.int .i64 dn,w']],u):=by
   have hx:=BA (H:=H7) (m:=5) (l:=[.agg [.str nm,.int .i64 dn,r]]) (eu.cons ((Fr.agg (eu.cons ((Fr.flat mL).up (by omega)) (eu.cons ((Fr.flat fE).up (by omega)) (eu.cons zN eu.nil)))).up (by omega)) eu.nil) (by omega) (fun hp=>by
    have:aU r=true:=by simpa[aV,aU]using hp
    rw[hpe this])
   rw[show aV [AV.agg [.str nm,.int .i64 dn,r]]=aU r by simp[aV,aU]]at hx;exact hx
  simp only[↓aL,aM,aJ,↓reduceIte,aa,ae,aq,hl,g1,g2,g3,g10,g11,zS,hp6,a6,Ss,Xz,a7,fY,hrr];exact⟨w',[],rfl,Ir,(fun c hc=>by cases hc),rfl⟩
 rcases hCp with⟨_,e⟩|⟨b,rfl,sn,MN⟩
 ·exact absurd e hz
 have sn:2<=b:=sn;refine cE (fun k_ ts H=>∃i:Nat,∃ws,∃H1:Hp,k_=(cl.length-i:Nat)/\ts.length=27/\gt ts 1=.bI 0 0/\gt ts 2=.bI 1 0/\gt ts 3=.aI b 0 cl.length 1 cl.length/\gt ts 9=.aI b 0 cl.length 1 cl.length/\gt ts 10=.int .i64 (cl.length:Int)/\gt ts 11=.int .i64 (i:Int)/\H=H1/\(i<=cl.length)/\(H1[0]?=some (.cells .live [.str nm,.int .i64 dn,cv]))/\(H1[1]?=some (.cells .live [.str [],.int .i64 0,.aH]))/\(H1[b]?=some (.cells .live ws))/\(ws.length=cl.length)/\(∀j (q1:j<ws.length) (q2:j<cl.length),j<i->Cp 3 (b+1) ws[j] H1 (cl[j]).2.length (oC (cl[j]).2))/\(∀j (q1:j<ws.length) (q2:j<cl.length),i<=j->ws[j]=(cl[j]).1)) (cl.length) ?_ ?_
 rotate_left
 ·refine⟨0,(cl.map (·.1)),HH,(by first|omega|rfl|simp),(by simp[bc,hl]),?_⟩;simp only[aZ,hl,aa,ae]
  iterate 7 refine cG ?_
  refine⟨?_,?_,?_,?_,?_,?_,?_⟩
  ·first|omega|trivial
  ·first|exact k0|trivial
  ·first|exact k1|trivial
  ·first|exact MN|trivial
  ·first|simp|trivial
  ·first|(intro j _ _ hj;omega)|trivial
  ·first|(intro j _ _ _;simp)|trivial
 clear hl g0 ts;rintro k_ ts H ⟨i,ws,H1,rfl,hl,g1,g2,g3,g9,g10,g11,rfl,hi,h0,h1,MN,hwl,vS,y7⟩;refine VS ?_;by_cases hd:i<cl.length
 rotate_left
 ·have d1:decide ((i:Int)<(cl.length:Int))=false:=bj;generalize agH:AV.aI b 0 cl.length 1 cl.length=r at*;have zS:gT 1 [r] H 0 2=some (.cells .live [.str nm,.int .i64 dn,r]):=by rw[dX,h0];simp[Qj,cV]
  obtain⟨H6,EB⟩:∃H6,H6=List.set H 0 (.cells .live [.str nm,.int .i64 dn,r]):=⟨_,rfl⟩;have nR:=(aKB.1 h0).1;have Jq:=(aKB.1 h1).1;have hp6:cJ H 0 (.cells .live [.str nm,.int .i64 dn,r])=H6:=by rw[dk nR,EB]
  have a6:eP 3 H6 0 0=some (.agg [.str nm,.int .i64 dn,r]):=by rw[dA,EB,aNv nR];rfl
  have Ss:gT 3 [.str nm,.int .i64 dn,r] H6 1 0=some (.cells .live [.str nm,.int .i64 dn,r]):=by rw[dX,EB,aNt (by omega),h1];simp[Qj,cV,aea];rfl
  obtain⟨H7,Ua⟩:∃H7,H7=H6.set 1 (.cells .live [.str nm,.int .i64 dn,r]):=⟨_,rfl⟩;have Xz:cJ H6 1 (.cells .live [.str nm,.int .i64 dn,r])=H7:=by rw[dk (by rw[EB,aPI];omega),Ua]
  have a7:eP 3 H7 1 0=some (.agg [.str nm,.int .i64 dn,r]):=by rw[dA,Ua,aNv (by rw[EB,aPI];omega)];rfl
  have q7:∀q,2<=q->H7[q]?=H[q]?:=fun q hq=>by rw[Ua,aNt (by omega),EB,aNt (by omega)]
  obtain⟨qf,Ea,CW,uu,Jp⟩:=Jj (H:=H7) ws (cl.map (·.2)) (by rw[hwl,aOY]) (fun j q1 q2=>by
   have q2':j<cl.length:=by simpa using q2
   have hx:=vS j q1 q2' (by omega);have hx7:Cp 3 (b+1) ws[j] H7 (cl[j]).2.length (oC (cl[j]).2):=by
    rcases hx with hx|⟨b',e1,e2,e3⟩
    ·exact .inl hx
    ·exact .inr ⟨b',e1,e2,by rw[q7 b' (by omega)];exact e3⟩
   rw[aN6];exact hx7.inv)
  have aza:qf.length=cl.length:=by simpa using congrArg aWU Ea
  have zN:Fr H7 4 r (.aK (qf.map (·.1)) cl.length) (b::uu):=by
   rw[<-agH];exact(Fr.M0 (m:=2) (by rw[q7 b sn];exact MN) (by decide) (by rw[hwl,Nat.mul_one]) Jp).up (by omega)
  have hpe:aU r=true->AV.aK (qf.map (·.1)) cl.length=r:=fun e=>by rw[<-agH]at e;cases e
  obtain⟨w',hw'⟩:∃w',w'=AV.aK (qf.map (·.1)) cl.length:=⟨_,rfl⟩;rw[<-hw']at zN hpe;obtain⟨u,fY⟩:∃u,qR (aU r) H7 [.agg [.str nm,.int .i64 dn,r]]=some ([.agg [.str nm,.int .i64 dn,w']],u):=by
   have hx:=BA (H:=H7) (m:=5) (l:=[.agg [.str nm,.int .i64 dn,r]]) (eu.cons ((Fr.agg (eu.cons ((Fr.flat mL).up (by omega)) (eu.cons ((Fr.flat fE).up (by omega)) (eu.cons zN eu.nil)))).up (by omega)) eu.nil) (by omega) (fun hp=>by
    have:aU r=true:=by simpa[aV,aU]using hp
    rw[hpe this])
   rw[show aV [AV.agg [.str nm,.int .i64 dn,r]]=aU r by simp[aV,aU]]at hx;exact hx
  simp only[↓aL,aM,aJ,↓reduceIte,aa,ae,hl,g1,g2,g3,g10,g11,d1,zS,hp6,a6,Ss,Xz,a7,fY,hrr];exact⟨w',qf,rfl,.inl (by rw[hw',aza]),CW,Ea⟩
 have d1:decide ((i:Int)<(cl.length:Int))=true:=bh;have ci:=eT (i:=i) (n:=cl.length) hd;have mZ:=wz (z:=(i:Int)+1) (m:=i+1);have hwi:i<ws.length:=by omega
 have hwe:=y7 i hwi hd (aKE _);have pa:eP 1 H b i=some (.agg [(cl[i]).1]):=by
  rw[dA,MN]
  dsimp only
  rw[if_neg (by decide),if_pos (by omega),List.drop_eq_getElem_cons hwi,hwe];rfl
 have hIV:=vQ _ (aLr hd);have h2l:=xh _ (aLr hd);have nu:(cl[i]).2=(cl[i]).2:=rfl;obtain⟨r2,T2,CW,hC2⟩:=IX (E:=E) (H:=H++[.cells .live [(cl[i]).1]]) hIV.sv (aeg _) (aeh _) (by omega);obtain⟨-,o2,c2⟩:=hC2.facts;have S8:=hIV.one;have civ:=hIV.cells;have Jr:=(aKB.1 MN).1;have nR:=(aKB.1 h0).1;have Jq:=(aKB.1 h1).1;have dp:gT 1 [r2] (H++[.cells .live [(cl[i]).1]]++T2) b i=some (.cells .live (ws.set i r2)):=by
  rw[dX,aTs,aNB Jr,MN]
  dsimp only
  rw[if_pos (by simp[o2];omega)];congr 2;unfold cV;rw[List.set_eq_take_append_cons_drop,if_pos hwi];simp
 obtain⟨H3,pE⟩:∃H3,H3=H.set b (.cells .live (ws.set i r2)):=⟨_,rfl⟩;have lN:cJ (H++[.cells .live [(cl[i]).1]]++T2) b (.cells .live (ws.set i r2))=H3++([.cells .live [(cl[i]).1]]++T2):=by
  rw[aTs,dk (by rw[aLk];omega),aVt _ _ Jr,pE]
 rw[aTs]at dp lN CW hC2;rw[aQv,aQo]at dp lN CW hC2;have GZ:H3.length=H.length:=by rw[pE];simp
 simp only[↓aL,aM,↓aT,aJ,cH,↓reduceIte,aa,ae,hl,g3,g9,g10,g11,ci,mZ,pa,S8,CW,dp,lN,c2];have Jw:H3++ct.cells .live [(cl[i]).1]::T2=(H++ct.cells .live [(cl[i]).1]::T2).set b (.cells .live (ws.set i r2)):=by rw[aVt _ _ Jr,pE]
 refine bK ?_;refine⟨_,?_,i+1,ws.set i r2,(H3++ct.cells .live [(cl[i]).1]::T2),rfl,(by simp[bc,hl]),?_⟩
 ·first|omega|(simp;omega)
 simp only[aZ,hl,aa,ae,g1,g2,g3,g9,g10]
 iterate 7 refine cG ?_
 refine⟨?_,?_,?_,?_,?_,?_,?_⟩
 ·omega
 ·rw[aNB (by omega),pE,aNt (by omega)];exact h0
 ·rw[aNB (by omega),pE,aNt (by omega)];exact h1
 ·rw[aNB (by omega),pE,aNv Jr]
 ·simpa using hwl
 ·intro j q1 q2 hj;rw[Jw];by_cases Bh:j=i
  ·subst Bh;rw[List.getElem_set_self];exact(hC2.low (by rw[aLk];simp;omega)).set (by omega)
  ·rw[aWV (Ne.symm Bh)];exact((vS j (by simpa using q1) q2 (by omega)).app).set (by omega)
 ·intro j q1 q2 hj;rw[aWV (by omega)];exact y7 j (by simpa using q1) q2 (by omega)
def Ok{x:nF}{s:List UInt8}(hx:D6 x.cv):aR E 28 [.agg (sa x),.cU [.str s] 0]=some (.bool (decide (x.nm=s))):=by
 suffices hh:∃r,aR E 28 [.agg (sa x),.cU [.str s] 0]=some r/\r=.bool (decide (x.nm=s))by obtain⟨r,h1,rfl⟩:=hh;exact h1
 have Ef:=fun{c:Bool}=>BW (E:=E) (c:=c) (a:=x.nm) (b:=s)
 have hf:=hx.facts;refine pX aye ?_;intro ts hl g0 g1;unfold c28;unfold sa at g0;simp only[↓aL,aM,aJ,aa,ae,Tryz.f28,hl,g0,g1,Ef]
def aa8(r q:AV):Prop:=∃(p p':nF) (b:Bool),r=.tuple [.agg (sa p),.bool b]/\q=.tuple [.agg (sa p'),.bool b]/\zn p/\zn p'/\rn p=rn p'/\p'.cl.length<=1000/\∀c∈p'.cl,c.2.length<=1000
def ZB{l:se}(h:∀p∈l,D6 p.cv):aV (vZ l)=true:=by
 induction l with
 |nil=>rfl
 |cons p l ih=>
  have e:vZ (p::l)=sa p++vZ l:=by simp[vZ]
  rw[e,iB,ih fun x hx=>h x (by simp[hx])];simp[sa,aV,aU,(h p (by simp)).facts.2.1]
def Zw:zn Q6:=⟨.inr ⟨rfl,.inl rfl⟩,fun c hc=>by cases hc⟩
def Tg{pv iv:AV}{l:se}{s:List UInt8}(xi:SV pv (vZ l) l.length)(Sj:D6 iv)(hl:∀p∈l,zn p)(hn:l.length<1000000000)(hc:∀p∈l,p.cl.length<=1000/\∀c∈p.cl,c.2.length<=1000):
  ∃r,aR E 8 [.agg [pv,iv],.str s]=some r/\aa8 r (yD l s):=by
 have XL:∀p∈l,D6 p.cv:=fun p hp=>(hl p hp).Ur
 have opv:=xi.one;have Iv:=xi.pure;have rpv:=xi.root;have S8:=Sj.facts;obtain⟨z,hz,C2⟩:∃z:Int,aR E 27 [pv,.func 28 [] [.cU [.str s] 0]]=some (.int .i64 z)/\((z= -1/\∀j (hj:j<l.length),(l[j]).nm≠s)∨∃k,∃hk:k<l.length,z=(k:Int)/\(l[k]).nm=s/\∀j (hj:j<l.length),j<k->(l[j]).nm≠s):=by
  rcases xi with rfl|⟨h0,h⟩
  ·obtain⟨r,hr,z,rfl,h⟩:=ud (E:=E) .p (n:=l.length) (g:=28) (cs:=vZ l) (caps:=[.cU [.str s] 0]) (el:=fun i=>.agg (sa (l.getD i Q6))) (p:=fun i=>decide ((l.getD i Q6).nm=s)) hn (bM C) (ZB XL) (by simp[aV,aU])
    (fun i hi=>by rw[DI hi,aTc,aLh hi];rfl)
    (fun i hi=>by
     rw[aTc,aLh hi];simp[sa,aV,aU,(XL _ (aLr hi)).facts.2.1])
    (fun i hi=>by
     rw[aTc,aLh hi];exact Ok (XL _ (aLr hi)))
   refine⟨z,hr,?_⟩;rcases h with⟨h1,h2⟩|⟨k,hk,h1,h2,h3⟩
   ·refine .inl ⟨h1,fun j hj e=>?_⟩
    have:=h2 j hj
    rw[aTc,aLh hj]at this;simp at this;exact this e
   ·refine .inr ⟨k,hk,h1,?_,fun j hj hjk e=>?_⟩
    ·rw[aTc,aLh hk]at h2;simpa using h2
    ·have:=h3 j hjk
     rw[aTc,aLh hj]at this;simp at this;exact this e
  ·refine⟨-1,?_,.inl ⟨rfl,fun j hj=>by omega⟩⟩;rcases h with rfl|rfl<;>exact yR .p rfl
 obtain⟨u,fY⟩:∃u,qR false [.cells .live [pv,iv],.cells .live [.str s],.cells .live A7] [pv,.func 28 [] [.bI 1 0]]=some ([pv,.func 28 [] [.cU [.str s] 0]],u):=
  ⟨_,k8 (m:=3) (eu.cons ((Fr.flat xi.flat).up (by omega)) (eu.cons (Fr.func (eu.cons (Fr.hp (st:=.live) rfl (by decide) (eu.flat (fun c hc=>by simp only[aMp,aVd,or_false]at hc;subst hc;exact mL))) eu.nil)) eu.nil)) (by omega) (by simp[aV,aU])⟩
 unfold A7 at fY;have zQ:∀z:Int,bY (.int .i64 z)=true:=fun _=>rfl
 refine pX fn8 ?_;intro ts oU g0 g1;have hl:=oU;unfold c8;rcases C2 with⟨rfl,MW⟩|⟨k,hk,rfl,h1,h2⟩
 ·have Iq:decide ((-1:Int)<0)=true:=rfl;simp only[↓aL,aM,↓aT,aJ,↓reduceIte,aa,ah,ae,aq,Tryz.f8,aB,hl,g0,g1,Iv,fY,hz,zQ];rw[wU MW];exact⟨Q6,Q6,false,rfl,rfl,Zw,Zw,rfl,by simp[Q6],fun c hc=>by cases hc⟩
 ·have Iq:decide ((k:Int)<0)=false:=bj;have G4:AV.aK (vZ l) l.length=pv:=(xi.pos (by omega)).symm;have ck:=eT (i:=k) (n:=l.length) hk;have pa:=DI hk;have hP:=‹∀p∈l,zn p› _ (aLr hk);have hcc:=hc _ (aLr hk);obtain⟨Be,qf,Xg,hi1,Xl,hi3⟩:=Cn (E:=E) hP hcc.1 hcc.2;have Eg:=hP.Ur.facts;have wH:=hi1.sv.one;have XB:=DD hk h2 h1;rw[XB];subst G4;generalize l[k]=p at pa Xg hP hcc Eg hi3;obtain⟨nm,dn,cv,cl⟩:=p;simp only[sa]at pa Xg;simp only[↓aL,aM,↓aT,aJ,↓reduceIte,aa,ah,ae,Tryz.f8,hl,g0,g1,fY,hz,zQ,Iq,ck,pa,Eg,wH,Xg,hi1.sv.pure];exact⟨⟨nm,dn,Be,qf⟩,⟨nm,dn,cv,cl⟩,true,rfl,rfl,⟨hi1,Xl⟩,hP,by simp only[rn];rw[hi3],hcc.1,hcc.2⟩
def xT{c a b:Bool}:cd E c .eql 4 (.bool a) (.bool b)=some (.bool (a==b)):=by
 have h:pI E 4=true:=by
  have h0:pI E0 4=true:=by kernel_rfl
  unfold pI at h0⊢;rw[C.ty];exact h0
 unfold pI at h;cases hi:E.ty 4 with
 |none=>rw[hi]at h;cases h
 |some i=>
  rw[hi]at h;obtain⟨cD,jA,jS,jB,jZ,dQ⟩:=i;cases cD<;>first|(cases h;done)|skip
  have e1:qi E 20 4 (.bool a) (.bool b)=some (a==b):=by unfold qi;simp only[hi]
  simp[cd,cd.rY,e1]
def V9{l:se}{m:Ins}(hp:∀p∈l,zn p)(hF:Iz l m):∃K,uh E K l m:=by
 have h1:∀p:nF,∃c:Int,p∈l->aR E 33 [.agg (sa p)]=some (.int .i64 c):=by
  intro p;by_cases h:p∈l
  ·have hP:=hp p h;have h2:=hF.p2 p h;obtain⟨c,hc⟩:=Lh (E:=E) (nm:=p.nm) (dn:=p.dn) hP.cv (fun c hc=>⟨hP.cl c hc,h2.2 c hc⟩) (by omega);exact⟨c,fun _=>hc⟩
  ·exact⟨0,fun h'=>absurd h' h⟩
 have h2:∀x:vN,∃c:Int,x∈m->aR E 34 [.agg [.int .i64 x.t0,.int .i64 x.t1,.int .i64 x.t2,.int .i64 x.t3,.str x.s0,.str x.s1,.str x.s2]]=some (.int .i64 c):=by
  intro x;by_cases h:x∈m
  ·have h3:=hF.i20 x h;obtain⟨c,hc,-⟩:=KF (E:=E) (t0:=x.t0) (t1:=x.t1) (t2:=x.t2) (t3:=x.t3) (s0:=x.s0) (s1:=x.s1) (s2:=x.s2) (by omega) (by omega) (by omega);exact⟨c,fun _=>hc⟩
  ·exact⟨0,fun h'=>absurd h' h⟩
 exact⟨⟨fun p=>Classical.choose (h1 p),fun x=>Classical.choose (h2 x)⟩,fun p hp=>Classical.choose_spec (h1 p) hp,fun x hx=>Classical.choose_spec (h2 x) hx⟩
def Mi(hk:aR E 5 []=some (.bool true)){pv iv:AV}{l:se}{m:Ins}(hA:Ix pv iv l m){s:List UInt8}(hs:s.length<=4611686018427387904):
  aR E 3 [.agg [pv,iv],.str s]=some (.bool true):=by
 suffices hh:∃r,aR E 3 [.agg [pv,iv],.str s]=some r/\r=.bool true by obtain⟨r,h1,rfl⟩:=hh;exact h1
 have z8:=hA.pv.len;have opv:=hA.pv.one;have rpv:=hA.pv.root;have Iv:=hA.pv.pure;have S8:=hA.iv.one;have LR:=hA.iv.pure;have XL:∀p∈l,D6 p.cv:=fun p hp=>(hA.pt p hp).Ur
 obtain⟨bf,ED,hF⟩:=WL (E:=E) hA;obtain⟨be,hem,hE⟩:=Mx (E:=E) hA;have main:∀(hn:l.length<1000000000/\m.length<1000000000) (hc:∀p∈l,p.cl.length<=1000/\∀c∈p.cl,c.2.length<=1000) (hK:∃K,64<l.length∨uh E K l m),∃(p p':nF) (b:Bool) (z:Int) (b':Bool) (ch:Int),aR E 8 [.agg [pv,iv],.str s]=some (.tuple [.agg (sa p),.bool b])/\aR E 9 [.agg [pv,iv],.str s]=some (.tuple [.agg (sa p'),.bool b])/\D6 p.cv/\D6 p'.cv/\aR E 10 [.agg [pv,iv],.str s]=some (.tuple [.int .i64 z,.bool b'])/\aR E 11 [.agg [pv,iv],.str s]=some (.tuple [.int .i64 z,.bool b'])/\aR E 12 [.agg [pv,iv]]=some (.int .i64 ch)/\aR E 13 [.agg [pv,iv]]=some (.int .i64 ch)/\aR E 14 [.aK (sa p) 1,.aK (sa p') 1]=some (.bool true):=by
  intro hn hc hK;obtain⟨K,hK⟩:=hK;have hO:UE pv iv l m:=⟨hA.pv,hA.iv,XL,hn.1,hn.2,hA.ps,fun x hx=>(hA.is x hx).1⟩;obtain⟨r,hr,p,p',b,rfl,hq,h1,h2,h3,h4,h5⟩:=Tg (E:=E) (s:=s) hA.pv ⟨_,_,hA.iv⟩ hA.pt hn.1 hc;have yY:=wO (E:=E) (s:=s) hA.pv ⟨_,_,hA.iv⟩ XL hA.nl;rw[hq]at yY;obtain⟨z,hz⟩:=FI (l:=m) (s:=s);have hi:=IG (E:=E) (s:=s) hA.iv ⟨_,_,hA.pv⟩ hn.2;have hli:=AL (E:=E) (s:=s) hA.iv ⟨_,_,hA.pv⟩ hA.nm;rw[hz]at hi hli;have hsm:=TD (E:=E) (v:=.aK (sa p) 1) (w:=.aK (sa p') 1) (l:=[p]) (k:=[p']) (.inl (by simp[vZ])) (.inl (by simp[vZ])) (fun x hx=>by rw[aMs]at hx;subst hx;exact h1) (fun x hx=>by rw[aMs]at hx;subst hx;exact h2) (by simp) (fun x hx=>by
   rw[aMs]at hx;subst hx
   have e:x.cl.map (·.2)=p'.cl.map (·.2):=by
    have:=h3;unfold rn at this;simp only[Prod.mk.injEq]at this;exact this.2.2
   have el:x.cl.length=p'.cl.length:=by simpa using congrArg aWU e
   refine⟨by omega,fun c hc=>?_⟩
   have:c.2∈p'.cl.map (·.2):=by rw[<-e];exact List.mem_map_of_mem hc
   obtain⟨d,hd,hde⟩:=aMr.1 this
   have:=h5 d hd
   rw[<-hde];omega)
  rw[bh (by simp[h3])]at hsm;exact⟨p,p',b,z,_,_,hr,yY,h1.Ur,h2.Ur,hi,hli,ID hO hK,Ku hO hK,hsm⟩
 refine pX fn3 ?_;intro ts hl g0 g1;unfold c3;by_cases h60:60<s.length
 ·have d60:decide ((s.length:Int)>60)=true:=bh;cases bf
  rotate_left
  ·simp only[↓aL,aM,↓aT,aJ,↓reduceIte,aa,ah,ae,Tryz.f3,hl,g0,g1,Iv,LR,hk,ED,d60]
  by_cases h64:64<l.length
  rotate_left
  ·have d64:decide ((l.length:Int)>64)=false:=bj;simp only[↓aL,aM,↓aT,aJ,↓reduceIte,aa,ah,ae,Tryz.f3,hl,g0,Iv,LR,z8,hk,ED,d64]
  have d64:decide ((l.length:Int)>64)=true:=bh;by_cases h70:l.length<70
  rotate_left
  ·have d70:decide ((l.length:Int)<70)=false:=bj;simp only[↓aL,aM,↓aT,aJ,↓reduceIte,aa,ah,ae,Tryz.f3,hl,g0,Iv,LR,z8,hk,ED,d64,d70]
  have d70:decide ((l.length:Int)<70)=true:=bh;cases be
  ·simp only[↓aL,aM,↓aT,aJ,↓reduceIte,aa,ah,ae,Tryz.f3,hl,g0,Iv,LR,z8,hk,ED,d64,d70,hem]
  ·simp only[↓aL,aM,↓aT,aJ,↓reduceIte,aa,ah,ae,Tryz.f3,hl,g0,g1,Iv,LR,z8,hk,ED,d64,d70,hem,d60]
 have d60:decide ((s.length:Int)>60)=false:=bj;cases bf
 rotate_left
 ·have hFF:=hF rfl;obtain⟨p,p',b,z,b',ch,f1,f2,f3,f4,f5,f6,f7,f8,f9⟩:=main ⟨by have:=hFF.l5;omega,by have:=hFF.m14;omega⟩ (fun p hp=>⟨by have:=(hFF.p2 p hp).1;omega,fun c hc=>by have:=(hFF.p2 p hp).2 c hc;omega⟩) (by obtain⟨K,hK⟩:=V9 (E:=E) hA.pt hFF;exact⟨K,.inr hK⟩);obtain⟨nm,dn,cv,cl⟩:=p;obtain⟨LQ,I7,Be,qf⟩:=p';have o3:=f3.facts;have o4:=f4.facts
  dsimp only at o3 o4
  have fl3:∀c∈[AV.str nm,.int .i64 dn,cv],Flat c:=by
   intro c hc;simp only[aMp,aVd,or_false]at hc;rcases hc with rfl|rfl|rfl
   ·exact mL
   ·exact fE
   ·exact f3.flat
  have fl4:∀c∈[AV.str LQ,.int .i64 I7,Be],Flat c:=by
   intro c hc;simp only[aMp,aVd,or_false]at hc;rcases hc with rfl|rfl|rfl
   ·exact mL
   ·exact fE
   ·exact f4.flat
  simp only[sa]at f1 f2 f9;have Se:∀aP,bQ E aP 22 1 [(0,AV.agg [.str nm,.int .i64 dn,cv])]=some (.aI aP 0 1 3 1,[(aP,.cells .live [.str nm,.int .i64 dn,cv])]):=fun aP=>jJ OE rfl (by decide) (by decide) rfl
  have Sf:∀aP,bQ E aP 22 1 [(0,AV.agg [.str LQ,.int .i64 I7,Be])]=some (.aI aP 0 1 3 1,[(aP,.cells .live [.str LQ,.int .i64 I7,Be])]):=fun aP=>jJ OE rfl (by decide) (by decide) rfl
  obtain⟨u,fY⟩:∃u,qR false [.cells .live [pv,iv],.cells .live [.str nm,.int .i64 dn,cv],.cells .live [.str LQ,.int .i64 I7,Be],.cells .live [.str nm,.int .i64 dn,cv],.cells .live [.str LQ,.int .i64 I7,Be]] [.aI 3 0 1 3 1,.aI 4 0 1 3 1]=some ([.aK [.str nm,.int .i64 dn,cv] 1,.aK [.str LQ,.int .i64 I7,Be] 1],u):=
   ⟨_,k8 (m:=2) (eu.cons (Fr.M0 (st:=.live) rfl (by decide) rfl (eu.flat fl3)) (eu.cons (Fr.M0 (st:=.live) rfl (by decide) rfl (eu.flat fl4)) eu.nil)) (by omega) (by simp[aV,aU])⟩
  have be1:=fun{c:Bool}=>xT (E:=E) (c:=c) (a:=b) (b:=b)
  have be2:=fun{c:Bool}=>xT (E:=E) (c:=c) (a:=b') (b:=b')
  have bz1:(ch==ch)=true:=by simp
  have bz2:(z==z)=true:=by simp
  rw[show(b==b)=true by simp]at be1;rw[show(b'==b')=true by simp]at be2;simp only[↓aL,aM,↓aT,aJ,↓reduceIte,aa,ah,ae,Tryz.f3,xP bo4,aj,hl,g0,g1,Iv,LR,hk,ED,d60,f1,f2,f5,f6,f7,f8,f9,o3,o4,Se,Sf,fY]
 by_cases h64:64<l.length
 rotate_left
 ·have d64:decide ((l.length:Int)>64)=false:=bj;simp only[↓aL,aM,↓aT,aJ,↓reduceIte,aa,ah,ae,Tryz.f3,hl,g0,Iv,LR,z8,hk,ED,d64]
 have d64:decide ((l.length:Int)>64)=true:=bh;by_cases h70:l.length<70
 rotate_left
 ·have d70:decide ((l.length:Int)<70)=false:=bj;simp only[↓aL,aM,↓aT,aJ,↓reduceIte,aa,ah,ae,Tryz.f3,hl,g0,Iv,LR,z8,hk,ED,d64,d70]
 have d70:decide ((l.length:Int)<70)=true:=bh;cases be
 ·simp only[↓aL,aM,↓aT,aJ,↓reduceIte,aa,ah,ae,Tryz.f3,hl,g0,Iv,LR,z8,hk,ED,d64,d70,hem]
 have hEE:=hE rfl;obtain⟨p,p',b,z,b',ch,f1,f2,f3,f4,f5,f6,f7,f8,f9⟩:=main ⟨by omega,by omega⟩ (fun p hp=>by have:=hEE.1 p hp;exact⟨by omega,fun c hc=>by rw[aWp.1 this]at hc;cases hc⟩) ⟨⟨fun _=>0,fun _=>0⟩,.inl h64⟩;obtain⟨nm,dn,cv,cl⟩:=p;obtain⟨LQ,I7,Be,qf⟩:=p';have o3:=f3.facts;have o4:=f4.facts
 dsimp only at o3 o4
 have fl3:∀c∈[AV.str nm,.int .i64 dn,cv],Flat c:=by
  intro c hc;simp only[aMp,aVd,or_false]at hc;rcases hc with rfl|rfl|rfl
  ·exact mL
  ·exact fE
  ·exact f3.flat
 have fl4:∀c∈[AV.str LQ,.int .i64 I7,Be],Flat c:=by
  intro c hc;simp only[aMp,aVd,or_false]at hc;rcases hc with rfl|rfl|rfl
  ·exact mL
  ·exact fE
  ·exact f4.flat
 simp only[sa]at f1 f2 f9;have Se:∀aP,bQ E aP 22 1 [(0,AV.agg [.str nm,.int .i64 dn,cv])]=some (.aI aP 0 1 3 1,[(aP,.cells .live [.str nm,.int .i64 dn,cv])]):=fun aP=>jJ OE rfl (by decide) (by decide) rfl
 have Sf:∀aP,bQ E aP 22 1 [(0,AV.agg [.str LQ,.int .i64 I7,Be])]=some (.aI aP 0 1 3 1,[(aP,.cells .live [.str LQ,.int .i64 I7,Be])]):=fun aP=>jJ OE rfl (by decide) (by decide) rfl
 obtain⟨u,fY⟩:∃u,qR false [.cells .live [pv,iv],.cells .live [.str nm,.int .i64 dn,cv],.cells .live [.str LQ,.int .i64 I7,Be],.cells .live [.str nm,.int .i64 dn,cv],.cells .live [.str LQ,.int .i64 I7,Be]] [.aI 3 0 1 3 1,.aI 4 0 1 3 1]=some ([.aK [.str nm,.int .i64 dn,cv] 1,.aK [.str LQ,.int .i64 I7,Be] 1],u):=
  ⟨_,k8 (m:=2) (eu.cons (Fr.M0 (st:=.live) rfl (by decide) rfl (eu.flat fl3)) (eu.cons (Fr.M0 (st:=.live) rfl (by decide) rfl (eu.flat fl4)) eu.nil)) (by omega) (by simp[aV,aU])⟩
 have be1:=fun{c:Bool}=>xT (E:=E) (c:=c) (a:=b) (b:=b)
 have be2:=fun{c:Bool}=>xT (E:=E) (c:=c) (a:=b') (b:=b')
 have bz1:(ch==ch)=true:=by simp
 have bz2:(z==z)=true:=by simp
 rw[show(b==b)=true by simp]at be1;rw[show(b'==b')=true by simp]at be2;simp only[↓aL,aM,↓aT,aJ,↓reduceIte,aa,ah,ae,Tryz.f3,xP bo4,aj,hl,g0,g1,Iv,LR,z8,hk,ED,d64,d70,hem,d60,f1,f2,f5,f6,f7,f8,f9,o3,o4,Se,Sf,fY]
end Go.Proofs.YtmkjgfnicfpjpaaGreatDoor
namespace Go.Proofs.YtmkjgfnicfpjpaaGreatDoor
open Go Go.RowKit Dv
variable{E:Env}[C:Ctx E]
theorem aqp(o:Nat->List AV->Option AV):Ctx (EN o) where
 fn:=rfl
 ty:=rfl
 rC:=rfl
 pairs:=rfl
 glob:=rfl
 ov:=fun f l hf=>by
  show(if f=5∨f=98 then o f l else iD Bs f l)=none
  simp only[MB,NY,Jd,aQv,aQo,aMp,aVd,or_false,not_or]at hf;obtain⟨h0,h0',h1,h2,h3,h4,h5,h6,h7,h8,h9,h10⟩:=hf;rw[if_neg (by omega)];simp[iD,Bs,h1,h2,h3,h4,h5,h6,h7,h8,h9,h10]
 ovX:=fun f l hf=>by
  show(if f=5∨f=98 then o f l else iD Bs f l)=iD Bs f l
  simp only[Jd,aMp,aVd,or_false]at hf;rw[if_neg (by omega)]
def IS{E:Env}{f:Nat}{al:List AV}{r:AV}{L:Nat->Prop}{w:World}{vs:Array Value}(V:Valid E Tryz.prog)(O:oW E Tryz.prog)(hf:(E0.fn f).isSome=true)(hr:aR E f al=some r)(hl:∀l,L l->l<w.heap.size)(hg:xD E L w)(ha:Rs cg w L al vs.toList):Calls Tryz.prog f vs w (LI (gq w L r)):=by
 obtain⟨-,n,hn⟩:=wu hr;have gy:=GI V O n f al r hn L w vs hl hg ha;have hcf:=V4 hf vs w;rcases gy with⟨v,w',h1,_⟩|⟨f',args,w1,h1,h2⟩|⟨l,f',tmps,assign,body,w1,h1,_⟩
 ·rw[hcf]at h1;cases h1
 ·rw[hcf]at h1;cases h1;exact callsIn_wide.1 h2
 ·rw[hcf]at h1;cases h1
def knO:Nat->List AV->Option AV:=fun f l=>if f=5 then(match l with|[]=>some (.bool true)|_=>none)else none
def EK:Env:=EN knO
theorem axP:Ctx EK:=aqp _
def au0:oW EK Tryz.prog:=agX fun f l r h L w vs hl hg ha=>by
 have h':(if f=5∨f=98 then knO f l else none)=some r:=h;split at h'
 ·unfold knO at h';split at h'
  ·rename_i hf;subst hf;split at h'
   ·cases h';exact N0 L w vs hl hg ha
   ·cases h'
  ·cases h'
 ·cases h'
def NZ:aR EK 5 []=some (.bool true):=by
 refine dB ⟨fun fi hf=>?_,0,rfl⟩;have h:(E0.fn 5).map (·.pure)=some true:=by kernel_rfl
 have hf':E0.fn 5=some fi:=hf;rw[hf']at h;simpa using h
def amm:Valid EK Tryz.prog:=by
 have V:=Valid.ov fq EK.ov EK.rC;have e:EK={E0 with ov:=EK.ov,rC:=EK.rC}:=by simp only[EK,E0,EN]
 rw[e];exact V
end Go.Proofs.YtmkjgfnicfpjpaaGreatDoor
namespace Go.Proofs.YtmkjgfnicfpjpaaGreatDoor
open Go Go.ChangeShapes Go.WideShapes Go.ChangeAt Go.RowKit Go.ChangeMaps Dv
variable{E:Env}[C:Ctx E]
def SK{W:World}{args:Array Value}(hg:xD E0 (fun _=>False) W){pv iv:AV}{l:se}{m:Ins}(hA:Ix pv iv l m){cs0:Array Value}{s:ByteArray}(qy:args=#[.agg cs0,.string s])(hR:Rs cg W (fun _=>False) [pv,iv] cs0.toList)(hs:s.data.toList.length<=4611686018427387904):
  Calls Tryz.prog 3 args W (LI fun v w'=>Go.RowKit.Below W.heap.size W w'/\R cg w' (fun _=>False) (.bool true) v):=by
 have:=axP
 have hr:=Mi (E:=EK) NZ hA hs;have atz:Rs cg W (fun _=>False) [.agg [pv,iv],.str s.data.toList] args.toList:=by subst qy;simp only[Rs,R];exact⟨_,_,rfl,⟨cs0,rfl,by simpa only[Rs]using hR⟩,_,_,rfl,rfl,rfl⟩
 exact IS amm au0 (by kernel_rfl) hr (fun _ h=>h.elim) hg atz
def lifted(os:Os)(started:os.Started)(H:Type)(enc:TypeId×Value->H):
  ReturnsInHanded {} Tryz.checked os 3 .any (fun w args=>(Rows.assemblyChecksSpec.pre enc Tryz.prog Tryz.f3 [] false w args/\laidMetH Tryz.prog Rows.assemblyChecksRow.laid w)/\sizedMet enc Tryz.prog Tryz.f3 (OpenSpec.ofChange Rows.assemblyChecksSpec) false w args)
   (Rows.assemblyChecksSpec.post enc Tryz.prog Tryz.f3 false true false false):=by
 refine returnsInHanded_of_change_and (C:=Tryz.checked) (X:=fun w _=>laidMetH Tryz.prog Rows.assemblyChecksRow.laid w) (fun _ _ _ hh h=>h.of_heap hh) own started (by kernel_rfl) Tryz.func3
  (ChangeSpec.witness_shaped (enc:=enc) (C:=Tryz.checked) (os:=os) (X:=fun w _=>laidMetH Tryz.prog Rows.assemblyChecksRow.laid w) false (z6 os)
   #[.agg #[.slice none 0 0,.slice none 0 0],.string ⟨#[]⟩] 8 rfl (World.shaped_of_RefB (by kernel_rfl) (by kernel_rfl)) (by kernel_rfl) (by kernel_rfl) (by kernel_rfl) (ES os _)) ?_
 intro W base args ds gs before agL hW _ hwt hL _;have C1:∀(j:Nat) t v,Tryz.f3.params[j]?=some t->args[j]?=some v->Value.okWide Tryz.prog W .any base t v:=agL;have Xa:=hW;have ek:=hW.lt;have adt:(DataW.weightsEach Tryz.prog (Tryz.f3.params.toList++Rows.assemblyChecksSpec.plain.varTypes Tryz.prog) (ds++gs)).all (·<=reachBytes)=true:=hwt;rw[Tryz.params3,show(#[25,9]:Array TypeId).toList=[25,9]from rfl]at adt;clear hwt;obtain⟨p,q,hA0,hV,rfl,fY,hnd⟩:=hW;have hA:DataW.TrodAll enc Tryz.prog W 0 (fun _=>true) true Tryz.f3.params.toList args.toList ds p:=hA0;rw[Tryz.params3]at hA C1;obtain⟨v0,v1,d0,d1,p0,p1,rfl,rfl,rfl,h0,h1⟩:=trodAll_two hA;obtain⟨rfl,rfl⟩:=trodVars_none hV;obtain⟨f0,f1,az2,-⟩:=GU (show fieldsOf 25=[(22,0),(23,1)]by kernel_rfl);obtain⟨cs0,rfl,-⟩:=okWide_struct az2 (C1 0 25 v0 rfl rfl);obtain⟨s,rfl⟩:=okWide_string u9 (C1 1 9 v1 rfl rfl);obtain⟨n0,h0⟩:=h0;obtain⟨n1,h1⟩:=h1;obtain⟨s',e1,x1,-⟩:=DataW.trod_string u9 h1;have e2:s'=s:=by have e3:[Value.string s]=[Value.string s']:=e1;simp at e3;exact e3.symm
 subst e2;simp only[Prod.mk.injEq]at x1;obtain⟨rfl,rfl⟩:=x1;have y7:xF 25 d0/\xF 9 (.lit (.string s'.data.toList):DataW H):=by simp only[aQv,aQo,DataW.weightsEach,List.all_append,aMh]at adt;exact⟨adt.1,adt.2.1⟩
 obtain⟨pv,iv,l,m,hAs,hRs⟩:=ZG (cs:=cs0.toList) h0 y7.1;clear hA0 agL C1 h0 h1 hA;refine(SK (GV hL) hAs rfl hRs (DZ y7.2)).mono fun e W' he=>?_
 cases e with
 |panicked _=>exact he.elim
 |outgrown=>exact he.elim
 |returned v=>
  obtain⟨hb,hv⟩:=he;simp only[R]at hv;subst hv;obtain⟨p',q',hA1,hV1,hpq,-,-⟩:=id Xa;have azM:∀t∈Tryz.f3.params.toList,Tryz.prog.readableRec t=true/\t<Tryz.prog.types.size:=by
   intro t ht;rw[Tryz.params3]at ht;have hm:t∈[25,9]:=by simpa using ht
   have pY:([25,9].all fun u=>Tryz.prog.readableRec u&&decide (u<Tryz.prog.types.size))=true:=by kernel_rfl
   have:=aLq.1 pY t hm
   simpa using this
  exact⟨_,rfl,EZ (pa:=_) (pv:=[]) Xa (fun _ _ _=>trodAll_mk1 (shut_bool u4 _)) (fun sp hsp=>v8 laidOut hb azM hA1 (fun p hp=>ek p (by rw[hpq]at*;exact aNE _ hp)) (fun p hp=>hsp p (by rw[hpq];exact aNE _ hp))) (fun _ _=>rfl) (by rw[hpq,(trodVars_none hV1).2]) hb (ok_one (by kernel_rfl) rfl (okWide_bool_mk u4 _))⟩
end Go.Proofs.YtmkjgfnicfpjpaaGreatDoor
