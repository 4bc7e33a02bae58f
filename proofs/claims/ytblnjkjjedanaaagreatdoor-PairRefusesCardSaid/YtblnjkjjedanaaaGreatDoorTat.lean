/- A part of the proof that PairRefuses returns true for every input; no condition of its own. -/
import Derived.Test.YtblnjkjjedanaaaGreatDoorTas
set_option linter.all false
set_option maxHeartbeats 100000000
set_option maxRecDepth 100000
open Rat renaming intCast_mul->aVR,zero_mul->aVU,add_zero->aVV,mul_zero->aVW
open Int renaming natAbs_mul->aVS
open Nat renaming pow_add->aR3,lt_trichotomy->aVT,pow_le_pow_right->aRX,mul_assoc->aQl,lt_of_lt_of_le->aNU,le_trans->aNR,lt_succ_of_lt->aVX,reduceLT->aa,reduceEqDiff->ae,reduceAdd->ah,reduceLeDiff->ai,reduceBEq->aj
open List renaming length_zipWith->aU6
namespace Go.Proofs.YtblnjkjjedanaaaGreatDoor
open Go Dv Dv.bV
variable{E:Env}[C:Ctx E]
def eF(a b:List Rat):Nat->Rat
 |0=>0
 |i+1=>eF a b i+a.getD i 0*b.getD i 0
theorem xz{a b:List Rat}{k l:Nat}(ba:BL k a)(bb:BL l b)(JX:b.length=a.length):∀{i:Nat},i<=a.length->Bq (i*(k+l+1)+1) (eF a b i)
 |0,_=>yk.mono (by omega)
 |i+1,h=>by
  have h1:=xz ba bb JX (i:=i) (by omega);have h2:=h1.add ((ba.get (i:=i) (by omega)).mul (bb.get (i:=i) (by omega)));refine h2.mono ?_;rw[Nat.succ_mul];omega
theorem xy{v u:AV}{a b:List Rat}(h:gy v a)(h':gy u b)(JX:b.length=a.length)(AA:a.length<=1000){k l:Nat}(ba:BL k a)(bb:BL l b)(hk:k+l<=10000000):∃r,aO E 131 [v,u]=some r/\cX r (eF a b a.length):=by
 obtain⟨ca,rfl,ra⟩:=h;obtain⟨cb,rfl,rb⟩:=h';have hbound:∀i,i<=a.length->i*(k+l+1)<=1000*10000001:=fun i hi=>Nat.mul_le_mul (by omega) (by omega)
 refine tS amS ?_;intro ts hl g0 g1;unfold alI;simp only[↓aQ,aR,aK,↓reduceIte,aa,ah,ae,Tryz.f131,hl,g0];refine fh (fun k_ ts H=>∃i sn0 sm0 sn1 sm1,k_=a.length-i/\ts.length=40/\gt ts 0=.aJ ca a.length/\gt ts 1=.aJ cb b.length/\gt ts 4=.b6 0 0/\gt ts 5=.b6 1 0/\gt ts 9=.int .i64 (a.length:Int)/\gt ts 10=.int .i64 (i:Int)/\H=[.cells .live [.bool false,.aH,.bool false,.aH],.cells .live [.bool sn0,sm0,.bool sn1,sm1]]/\(i<=a.length)/\(cX (.agg [.bool sn0,sm0,.bool sn1,sm1]) (eF a b i))) (a.length) ?_ ?_
 rotate_left
 ·refine⟨0,false,.aH,false,.aH,(by first|omega|rfl|(simp;done)),(by simp only[cK,hl]),?_⟩;simp only[cM,hl,aa,ae,g0,g1]
  iterate 7 refine⟨by first|trivial|rfl|(congr 1;omega)|(simp;done)|(simp;omega),?_⟩
  refine⟨?_,?_⟩
  ·omega
  ·exact qC
 clear hl g0 g1 ts;rintro k_ ts H ⟨i,sn0,sm0,sn1,sm1,rfl,hl,g0,g1,g4,g5,g9,g10,rfl,hi,hs⟩;refine VS ?_;have SM:=aU _ hs;by_cases hd:i<a.length
 ·have dc:decide ((i:Int)<(a.length:Int))=true:=cF (by omega);have oF:((i:Int)<(a.length:Int))=True:=eq_true (by omega);have cb1:((i:Int)<(b.length:Int))=True:=eq_true (by omega);have w1:aV .i64 ((i:Int)+1)=((i+1:Nat):Int):=by rw[wrap_i64 (by omega) (by omega)];omega
  obtain⟨n1,m1,n2,m2,e1,r1⟩:=ra.get hd;obtain⟨n3,m3,n4,m4,e2,r2⟩:=rb.get (i:=i) (by omega);have p1:=ju (cs:=ca) (o:=i*4) (by have:=ra.len;omega);have p2:=ju (cs:=cb) (o:=i*4) (by have:=rb.len;omega);rw[e1]at p1;rw[e2]at p2;have A:=aU _ r1;have B:=aU _ r2;have s1:=jh (E:=E) r1;have s2:=jh (E:=E) r2;have z1:=An (a.getD i 0);have z2:=An (b.getD i 0);have bai:=ba.get hd;have bbi:=bb.get (i:=i) (by omega);by_cases h1:a.getD i 0=0
  ·rw[cF h1]at z1;have hsk:eF a b (i+1)=eF a b i:=by rw[eF,h1,aVU,aVV]
   simp only[↓aQ,aR,↓aT,aK,↓reduceIte,aa,ae,hl,g0,g9,g10,oF,w1,p1,A,s1,z1];refine dO ?_;refine⟨_,?_,i+1,sn0,sm0,sn1,sm1,rfl,(by simp only[cK,hl]),?_⟩
   ·first|omega|(simp;omega)
   simp only[cM,hl,aa,ae,g0,g1,g4,g5,g9]
   iterate 7 refine⟨by first|trivial|rfl|(congr 1;omega)|(simp;done)|(simp;omega),?_⟩
   refine⟨?_,?_⟩
   ·omega
   ·rw[hsk];exact hs
  ·rw[cH h1]at z1;by_cases h2:b.getD i 0=0
   ·rw[cF h2]at z2;have hsk:eF a b (i+1)=eF a b i:=by rw[eF,h2,aVW,aVV]
    simp only[↓aQ,aR,↓aT,aK,↓reduceIte,aa,ae,hl,g0,g1,g9,g10,oF,cb1,w1,p1,p2,A,B,s1,s2,z1,z2];refine dO ?_;refine⟨_,?_,i+1,sn0,sm0,sn1,sm1,rfl,(by simp only[cK,hl]),?_⟩
    ·first|omega|(simp;omega)
    simp only[cM,hl,aa,ae,g0,g1,g4,g5,g9]
    iterate 7 refine⟨by first|trivial|rfl|(congr 1;omega)|(simp;done)|(simp;omega),?_⟩
    refine⟨?_,?_⟩
    ·omega
    ·rw[hsk];exact hs
   ·rw[cH h2]at z2;have hbi:=hbound i hi;obtain⟨x,hx,ix⟩:=gv (E:=E) r1 r2 bai bbi (by omega);obtain⟨y,hy,iy⟩:=lI (E:=E) hs ix (xz ba bb JX hi) (bai.mul bbi) (by omega);have px:=jm ix;obtain⟨nk,nh,nu,nj,_,_,rfl,-,-,-,-⟩:=bR iy;have YM:=aU _ iy;simp only[↓aQ,aR,↓aT,aK,↓reduceIte,aa,ah,ae,hl,g0,g1,g5,g9,g10,oF,cb1,w1,p1,p2,A,B,s1,s2,z1,z2,SM,YM,hx,hy,px];refine dO ?_;refine⟨_,?_,i+1,nk,nh,nu,nj,rfl,(by simp only[cK,hl]),?_⟩
    ·first|omega|(simp;omega)
    simp only[cM,hl,aa,ae,g0,g1,g4,g5,g9]
    iterate 7 refine⟨by first|trivial|rfl|(congr 1;omega)|(simp;done)|(simp;omega),?_⟩
    refine⟨?_,?_⟩
    ·omega
    ·exact iy
 ·have dc:decide ((i:Int)<(a.length:Int))=false:=cH (by omega);obtain rfl:i=a.length:=by omega
  simp only[↓aQ,aR,aK,↓reduceIte,aa,ah,ae,hl,g4,g5,g9,g10,dc,SM];exact hs
theorem GG{v:AV}{a:List Rat}(h:gy v a)(AA:a.length<=1000):∃r,aO E 100 [v]=some r/\gy r (List.zipWith (fun x _=> -x) a a):=by
 obtain⟨ca,rfl,ra⟩:=h;have J2:=fun aM=>yP (E:=E) (aM:=aM) (m:=a.length) (k:=.i64) (k':=.i64) (by omega)
 refine mO amD ?_;intro ts hl g0;unfold alu;simp only[↓aQ,aR,aK,aa,ae,Tryz.f100,hl,g0,J2];refine fh (fun k_ ts H=>∃i cs,k_=a.length-i/\ts.length=23/\gt ts 0=.aJ ca a.length/\gt ts 3=.aI 0 0 a.length 4 a.length/\gt ts 9=.int .i64 (a.length:Int)/\gt ts 10=.int .i64 (i:Int)/\H=[.cells .live cs]/\(i<=a.length)/\(iZ cs (CP (fun x _=> -x) a a i))) (a.length) ?_ ?_
 rotate_left
 ·refine⟨0,(iG [.bool false,.aH,.bool false,.aH] a.length),(by first|omega|rfl|(simp;done)),(by simp only[cK,hl]),?_⟩;simp only[cM,hl,aa,ae,g0]
  iterate 5 refine⟨by first|trivial|rfl|(congr 1;omega)|(simp;done)|(simp;omega),?_⟩
  refine⟨?_,?_⟩
  ·omega
  ·exact iZ.FD _
 clear hl g0 ts;rintro k_ ts H ⟨i,cs,rfl,hl,g0,g3,g9,g10,rfl,hi,hc⟩;refine VS ?_;have iE:=hc.len;rw[jV]at iE;by_cases hd:i<a.length
 ·have dc:decide ((i:Int)<(a.length:Int))=true:=cF (by omega);have oF:((i:Int)<(a.length:Int))=True:=eq_true (by omega);have w1:aV .i64 ((i:Int)+1)=((i+1:Nat):Int):=by rw[wrap_i64 (by omega) (by omega)];omega
  obtain⟨n1,m1,n2,m2,e1,r1⟩:=ra.get hd;have p1:=ju (cs:=ca) (o:=i*4) (by have:=ra.len;omega);rw[e1]at p1;obtain⟨r,hr,ir⟩:=ru (E:=E) r1;obtain⟨n5,m5,n6,m6,_,_,rfl,-,-,-,-⟩:=bR ir;have A:=aU _ r1;have D:=aU _ ir;have fK:=xe (H:=[.cells .live cs]) (b:=0) (o:=i*4) (cs:=cs) (xs:=[.bool n5,m5,.bool n6,m6]) rfl rfl (by omega) (by simp only[List.all_cons,qp,D.2.1,D.2.2.2,List.all_nil,Bool.and_self]);have oK:=hc.set (i:=i) (by rw[jV];exact hd) ir;have R6:decide (i*4+4<=cs.length)=true:=cF (by omega);simp only[↓aQ,aR,↓aT,aK,↓reduceIte,aa,ah,ae,hl,g0,g3,g9,g10,oF,w1,p1,hr,A,fK];refine dO ?_;refine⟨_,?_,i+1,dE cs (i*4) [.bool n5,m5,.bool n6,m6],rfl,(by simp only[cK,hl]),?_⟩
  ·first|omega|(simp;omega)
  simp only[cM,hl,aa,ae,g0,g3,g9]
  iterate 5 refine⟨by first|trivial|rfl|(congr 1;omega)|(simp;done)|(simp;omega),?_⟩
  refine⟨?_,?_⟩
  ·omega
  ·exact oK
 ·have dc:decide ((i:Int)<(a.length:Int))=false:=cH (by omega);obtain rfl:i=a.length:=by omega
  have gf:=jQ (H:=[.cells .live cs]) (b:=0) (m:=a.length) (s:=4) (st:=.live) rfl (by decide) iE hc.flat;simp only[↓aQ,aR,↓reduceIte,aa,ae,hl,g3,g9,g10,dc,gf];rw[zZ rfl]at hc;refine⟨cs,?_,hc⟩;rw[aU6,Nat.min_self]
theorem GD{v u s t:AV}{a b:List Rat}{j q:Rat}(h:gy v a)(hj:cX s j)(h':gy u b)(hq:cX t q)(JX:b.length=a.length)(AA:a.length<=1000){k l:Nat}(ba:BL k a)(bb:BL k b)(bj:Bq l j)(bq:Bq l q)(hk:k+l<=10000000000):∃r,aO E 136 [v,s,u,t]=some r/\gy r (List.zipWith (fun x y=>x*j+y*q) a b):=by
 obtain⟨ca,rfl,ra⟩:=h;obtain⟨cb,rfl,rb⟩:=h';obtain⟨jn0,jm0,jn1,jm1,_,_,rfl,-,-,-,-⟩:=bR hj;obtain⟨FJ,FH,FK,FI,_,_,rfl,-,-,-,-⟩:=bR hq;have JM:=aU _ hj;have QM:=aU _ hq;have J2:=fun aM=>yP (E:=E) (aM:=aM) (m:=a.length) (k:=.i64) (k':=.i64) (by omega)
 refine gw4 amW ?_;intro ts hl g0 g1 g2 g3;unfold alM;simp only[↓aQ,aR,aK,aa,ah,ae,Tryz.f136,hl,g0,g1,g3,J2];refine fh (fun k_ ts H=>∃i cs,k_=a.length-i/\ts.length=37/\gt ts 0=.aJ ca a.length/\gt ts 2=.aJ cb b.length/\gt ts 5=.b6 0 0/\gt ts 7=.b6 1 0/\gt ts 9=.aI 2 0 a.length 4 a.length/\gt ts 15=.int .i64 (a.length:Int)/\gt ts 16=.int .i64 (i:Int)/\H=[.cells .live [.bool jn0,jm0,.bool jn1,jm1],.cells .live [.bool FJ,FH,.bool FK,FI],.cells .live cs]/\(i<=a.length)/\(iZ cs (CP (fun x y=>x*j+y*q) a b i))) (a.length) ?_ ?_
 rotate_left
 ·refine⟨0,(iG [.bool false,.aH,.bool false,.aH] a.length),(by first|omega|rfl|(simp;done)),(by simp only[cK,hl]),?_⟩;simp only[cM,hl,aa,ae,g0,g2]
  iterate 8 refine⟨by first|trivial|rfl|(congr 1;omega)|(simp;done)|(simp;omega),?_⟩
  refine⟨?_,?_⟩
  ·omega
  ·exact iZ.FD _
 clear hl g0 g1 g2 g3 ts;rintro k_ ts H ⟨i,cs,rfl,hl,g0,g2,g5,g7,g9,g15,g16,rfl,hi,hc⟩;refine VS ?_;have iE:=hc.len;rw[jV]at iE;by_cases hd:i<a.length
 ·have dc:decide ((i:Int)<(a.length:Int))=true:=cF (by omega);have oF:((i:Int)<(a.length:Int))=True:=eq_true (by omega);have cb1:((i:Int)<(b.length:Int))=True:=eq_true (by omega);have w1:aV .i64 ((i:Int)+1)=((i+1:Nat):Int):=by rw[wrap_i64 (by omega) (by omega)];omega
  obtain⟨n1,m1,n2,m2,e1,r1⟩:=ra.get hd;obtain⟨n3,m3,n4,m4,e2,r2⟩:=rb.get (i:=i) (by omega);have p1:=ju (cs:=ca) (o:=i*4) (by have:=ra.len;omega);have p2:=ju (cs:=cb) (o:=i*4) (by have:=rb.len;omega);rw[e1]at p1;rw[e2]at p2;have bai:=ba.get hd;have bbi:=bb.get (i:=i) (by omega);obtain⟨x,hx,ix⟩:=gv (E:=E) r1 hj bai bj (by omega);obtain⟨y,hy,iy⟩:=gv (E:=E) r2 hq bbi bq (by omega);obtain⟨r,hr,ir⟩:=lI (E:=E) ix iy (bai.mul bj) (bbi.mul bq) (by omega);have px:=jm ix;have py:=jm iy;obtain⟨n5,m5,n6,m6,_,_,rfl,-,-,-,-⟩:=bR ir;have A:=aU _ r1;have B:=aU _ r2;have D:=aU _ ir;have fK:=xe (H:=[.cells .live [.bool jn0,jm0,.bool jn1,jm1],.cells .live [.bool FJ,FH,.bool FK,FI],.cells .live cs]) (b:=2) (o:=i*4) (cs:=cs) (xs:=[.bool n5,m5,.bool n6,m6]) rfl rfl (by omega) (by simp only[List.all_cons,qp,D.2.1,D.2.2.2,List.all_nil,Bool.and_self]);have oK:=hc.set (i:=i) (by rw[jV];exact hd) ir;have R6:decide (i*4+4<=cs.length)=true:=cF (by omega);simp only[↓aQ,aR,↓aT,aK,↓reduceIte,aa,ah,ae,hl,g0,g2,g5,g7,g9,g15,g16,oF,cb1,w1,p1,p2,hx,hy,hr,px,py,JM,QM,A,B,fK];refine dO ?_;refine⟨_,?_,i+1,dE cs (i*4) [.bool n5,m5,.bool n6,m6],rfl,(by simp only[cK,hl]),?_⟩
  ·first|omega|(simp;omega)
  simp only[cM,hl,aa,ae,g0,g2,g5,g7,g9,g15]
  iterate 8 refine⟨by first|trivial|rfl|(congr 1;omega)|(simp;done)|(simp;omega),?_⟩
  refine⟨?_,?_⟩
  ·omega
  ·exact oK
 ·have dc:decide ((i:Int)<(a.length:Int))=false:=cH (by omega);obtain rfl:i=a.length:=by omega
  have gf:=jQ (H:=[.cells .live [.bool jn0,jm0,.bool jn1,jm1],.cells .live [.bool FJ,FH,.bool FK,FI],.cells .live cs]) (b:=2) (m:=a.length) (s:=4) (st:=.live) rfl (by decide) iE hc.flat;simp only[↓aQ,aR,↓reduceIte,aa,ae,hl,g9,g15,g16,dc,gf];rw[zZ JX]at hc;refine⟨cs,?_,hc⟩;rw[aU6,JX,Nat.min_self]
def j8(t:Tw):V3:=eE ((1:Int)/qV t.a t.a) (bX t.a t.l)
def lM(t:Tw):Rat:=qV t.a t.l*((1:Int)/qV t.a t.a)
theorem Ab{v:AV}{t:Tw}(h:AL v t){k:Nat}(bt:BT k t)(hk:k<=100000000)(dM:qV t.a t.a≠0):∃p q,aO E 58 [v]=some (.tuple [p,q])/\fS p (j8 t)/\cX q (lM t):=by
 suffices hh:∃u,aO E 58 [v]=some u/\∃p q,u=.tuple [p,q]/\fS p (j8 t)/\cX q (lM t)by
  obtain⟨u,h1,p,q,rfl,h2⟩:=hh;exact⟨p,q,h1,h2⟩
 obtain⟨Kh,Kf,Ki,Kg,Nt,Np,Nu,Nq,Nv,Nr,Nw,Ns,Ko,Kl,Kp,Km,Kq,Kn,UK,UH,UL,UI,UM,UJ,rfl,ha,hb⟩:=h;obtain⟨o,ho,io⟩:=jJ (E:=E) (n:=1) (by omega) (by omega);have bo:Bq 1 ((1:Int):Rat):=⟨by decide,by decide⟩;obtain⟨d,hd,CN⟩:=zy (E:=E) ha ha bt.1 bt.1 (by omega);have bd:=tM bt.1 bt.1;obtain⟨q,hq,iq⟩:=xU (E:=E) io CN bo bd (by omega) dM;have bq:=bo.div bd dM;obtain⟨c,hc,ic⟩:=rS (E:=E) ha hb bt.1 bt.2 (by omega);have bc:=jb bt.1 bt.2;obtain⟨p,hp,ip⟩:=nJ (E:=E) ic iq bc bq (by omega);obtain⟨f,hf,if'⟩:=zy (E:=E) ha hb bt.1 bt.2 (by omega);have bf:=tM bt.1 bt.2;obtain⟨g,hg,ig⟩:=gv (E:=E) if' iq bf bq (by omega);have po:=jm io;have pd:=jm CN;have pc:=qe ic;have pf:=jm if';obtain⟨FJ,FH,FK,FI,_,_,rfl,-,-,-,-⟩:=bR iq;obtain⟨gn0,gm0,gn1,gm1,_,_,rfl,-,-,-,-⟩:=bR ig;obtain⟨Q9,Q7,Ra,Q8,pn2,pm2,pn3,pm3,pn4,pm4,pn5,pm5,rfl,-,-,-,P,O⟩:=cD ip;have QM:=aU _ iq;have GM:=aU _ ig;have A:=dQ ha;have B:=dQ hb;refine mO avu ?_;intro ts hl g0;unfold c58
 simp(maxSteps:=2000000)only[↓aQ,aR,↓aT,aK,↓reduceIte,aa,ah,ae,Tryz.f58,ai,aj,aj,hl,g0,A,B,P,O,QM,GM,po,pd,pc,pf,ho,hd,hq,hc,hp,hf,hg]
 exact⟨_,_,rfl,ip,ig⟩
def IV(has:Bool)(s0 s1 s2:List UInt8):Int:=if has=true then yB 65536 s0 s1 s2 else if s0=[]/\s1=[]/\s2=[]then 0 else 3
def Ec(has:Bool)(s0 s1 s2:List UInt8):V3:=if has=true then fN 65536 s0 s1 s2 else v0
theorem aqC(f:Nat)(l:List AV)(h:f∉RU):ij yh f l=none:=by
 have h':∀x∈RU,f≠x:=fun x hx e=>h (e▸hx)
 simp only[RU,List.mem_cons,List.not_mem_nil,or_false,forall_eq_or_imp,forall_eq]at h';obtain⟨a,b,c,d,e,g,i,j,k,m⟩:=h';simp[ij,yh,a,b,c,d,e,g,i,j,k,m]
theorem ak5(o:List AV->Option AV):EN o=Env.mk E0.ty E0.fn E0.glob (fun f l=>if f=140 then o l else ij yh f l) (fun _ _ _=>none) E0.pairs:=by kernel_rfl
theorem fT{E:Env}(C:Ctx E):∃o,E=EN o:=by
 have h1:=C.fn;have h2:=C.ty;have h3:=C.ud;have h4:=C.pairs;have h5:=C.glob;refine⟨E.ov 140,?_⟩;have h6:E.ov=fun f l=>if f=140 then E.ov 140 l else ij yh f l:=by
  funext f l;by_cases h0:f=140
  ·rw[if_pos h0,h0]
  ·rw[if_neg h0];by_cases h:f∈RU
   ·exact C.SX f l h
   ·rw[C.ov f l (fun hm=>(List.mem_cons.1 hm).elim h0 h),aqC f l h]
 rw[ak5,<-h1,<-h2,<-h3,<-h4,<-h5,<-h6]
theorem nE{f n:Nat}{l:List AV}{r:AV}(hp:cg E0 f=false)(h:∀o,call (EN o) n f l=some r):aO E f l=some r:=by
 obtain⟨o,rfl⟩:=fT C;have jj:(EN o).fn=E0.fn:=C.fn;refine ed ⟨fun fi oJ=>?_,n,h o⟩;rw[jj]at oJ;unfold cg at hp;rw[oJ]at hp;obtain⟨code,ntmps,results,pu,du⟩:=fi;cases pu
 ·simp at hp
 ·rfl
def ab(s:List UInt8)(d:Int)(a b c:Bool):AV:=.agg [.str s,.int .i64 d,.bool a,.bool b,.bool c]
def Bf:List AV:=[ab [102,105,120,101,100] 0 false false false,ab [114,101,118,111,108,117,116,101] 1 true true false,ab [112,114,105,115,109,97,116,105,99] 1 true false false,ab [104,101,108,105,99,97,108] 1 true true true,ab [99,121,108,105,110,100,114,105,99,97,108] 2 true true false,ab [115,112,104,101,114,105,99,97,108] 3 false true false,ab [112,108,97,110,97,114] 3 true false false,ab [102,114,101,101] 6 false false false,ab [111,116,104,101,114] 0 false false false]
def Li:List AV:=[.int .i64 0,.int .i64 1,.int .i64 2,.int .i64 3,.int .i64 4,.int .i64 5,.int .i64 6,.int .i64 7,.int .i64 8]
theorem KJ:aO E 45 []=some (.xk Li Bf):=nE (n:=40) (by kernel_rfl) (fun o=>by kernel_rfl)
theorem I9{a b:Int}:qn E 3 (.int .i64 a) (.int .i64 b)=some (a==b):=by
 have h:je E 3=some .i64:=CO C (by kernel_rfl);unfold je at h;unfold qn uw;cases hi:E.ty 3 with
 |none=>rw[hi]at h;cases h
 |some i=>
  rw[hi]at h;obtain⟨cS,isAgg,size,bytes,zero,eQ⟩:=i;cases cS<;>first|(cases h;done)|simp
theorem ai1:plainKey E 20 3=true:=by
 have h:je E 3=some .i64:=CO C (by kernel_rfl);unfold je at h;unfold plainKey;cases hi:E.ty 3 with
 |none=>rw[hi]at h;cases h
 |some i=>
  rw[hi]at h;obtain⟨cS,isAgg,size,bytes,zero,eQ⟩:=i;cases cS<;>first|(cases h;done)|rfl
def isMap(E:Env)(t k e:Nat):Bool:=match E.ty t with
 |some i=>(match i.cS with|.map a b=>a==k&&b==e|_=>false)
 |none=>false
def Cb(z:Int):AV:=Bf.getD z.toNat aX
theorem LD{H:Hp}{z:Int}:jk E H 113 (.xk Li Bf) (.int .i64 z) true=some (if 0<=z/\z<=8 then .tuple [Cb z,.bool true]else .tuple [ab [] 0 false false false,.bool false]):=by
 have h:isMap E 113 3 111=true:=by
  have h0:isMap E0 113 3 111=true:=by kernel_rfl
  unfold isMap at h0⊢;rw[C.ty];exact h0
 have hz:gX E 111=some (ab [] 0 false false false):=Ax C (by kernel_rfl);unfold isMap at h;unfold jk;cases hi:E.ty 113 with
 |none=>rw[hi]at h;cases h
 |some i=>
  rw[hi]at h;obtain⟨cS,isAgg,size,bytes,zero,eQ⟩:=i;cases cS<;>first|(cases h;done)|skip
  rename_i a b;simp only[Bool.and_eq_true,beq_iff_eq]at h;obtain⟨rfl,rfl⟩:=h;simp only[Bm,ai1,I9,beq_self_eq_true,Bool.not_true,Bool.false_or];rw[if_neg (by simp)];by_cases hr:0<=z/\z<=8
  ·rw[if_pos hr];obtain h|h|h|h|h|h|h|h|h:z=0∨z=1∨z=2∨z=3∨z=4∨z=5∨z=6∨z=7∨z=8:=by omega
   all_goals subst h;simp[sN,Li,Bf,Cb,I9]
  ·rw[if_neg hr];have hn:∀k:Int,0<=k->k<=8->(z==k)=false:=by intro k h1 h2;rw[beq_eq_false_iff_ne];omega
   have hf:sN (qn E 3) (.int .i64 z) Li Bf 0=some none:=by simp only[sN,Li,Bf,I9,hn 0 (by omega) (by omega),hn 1 (by omega) (by omega),hn 2 (by omega) (by omega),hn 3 (by omega) (by omega),hn 4 (by omega) (by omega),hn 5 (by omega) (by omega),hn 6 (by omega) (by omega),hn 7 (by omega) (by omega),hn 8 (by omega) (by omega)]
   rw[hf];simp[hz]
theorem abx{z:Int}(h:0<=z/\z<=8):∃s d a b c,Cb z=.agg [.str s,.int .i64 d,.bool a,.bool b,.bool c]:=by
 obtain e|e|e|e|e|e|e|e|e:z=0∨z=1∨z=2∨z=3∨z=4∨z=5∨z=6∨z=7∨z=8:=by omega
 all_goals subst e;exact⟨_,_,_,_,_,rfl⟩
def nameOf(z:Int):List UInt8:=match Cb z with
 |.agg (.str s::_)=>s
 |_=>[]
theorem SN{z:Int}:aO E 14 [.int .i64 z]=some (.tuple [.str (if 0<=z/\z<=8 then nameOf z else []),.bool (decide (0<=z/\z<=8))]):=by
 refine ep ?_;have hf:=KJ (E:=E);have QJ:=fun H=>LD (E:=E) (H:=H) (z:=z)
 refine mO au1 ?_;intro ts hl g0;unfold c14;by_cases hr:0<=z/\z<=8
 ·obtain⟨s,d,a,b,c,e⟩:=abx hr;have hn:nameOf z=s:=by unfold nameOf;rw[e]
  rw[if_pos hr,hn,cF hr];simp only[if_pos hr,e]at QJ;simp only[↓aQ,aR,↓aT,aK,↓reduceIte,aa,ah,ae,Tryz.f14,hl,g0,hf,QJ]
 ·rw[if_neg hr,cH hr];simp only[if_neg hr,ab]at QJ;simp only[↓aQ,aR,↓aT,aK,↓reduceIte,aa,ah,ae,Tryz.f14,hl,g0,hf,QJ]
def auo(pi:Bool)(h:List UInt8):Int:=if pi=false then(if h=[]then 0 else 3)else if dY 65536 h=0/\gY h=0 then 3 else dY 65536 h
def aun(di po pi:Bool)(a0 a1 a2 b0 b1 b2 h:List UInt8):Int:=
 if IV di a0 a1 a2≠0 then IV di a0 a1 a2 else
 if di=true/\(Ec di a0 a1 a2=v0∨dX (Ec di a0 a1 a2)≠Ec di a0 a1 a2)then 3 else
 if IV po b0 b1 b2≠0 then IV po b0 b1 b2 else
 if di=true/\po=true/\qV (Ec di a0 a1 a2) (Ec po b0 b1 b2)≠0 then 3 else auo pi h
def cw(k d:Int)(cl:Bool)(a0 a1 a2 b0 b1 b2 h:List UInt8):AV:=.agg [.int .i64 k,.int .i64 d,.bool cl,.str a0,.str a1,.str a2,.str b0,.str b1,.str b2,.str h]
def atU(k:Int):Int:=match Cb k with|.agg [_,.int _ d,_,_,_]=>d|_=>0
def aDi(k:Int):Bool:=match Cb k with|.agg [_,_,.bool d,_,_]=>d|_=>false
def aPo(k:Int):Bool:=match Cb k with|.agg [_,_,_,.bool d,_]=>d|_=>false
def aPi(k:Int):Bool:=match Cb k with|.agg [_,_,_,_,.bool d]=>d|_=>false
def Z0(k d:Int)(cl:Bool)(a0 a1 a2 b0 b1 b2 h:List UInt8):Int:=
 if¬(0<=k/\k<=8)then 12 else
 if(k≠8/\d≠atU k)∨(k=8/\(d<2∨d>5))then 2 else
 if k=7/\cl=false then 3 else aun (aDi k) (aPo k) (aPi k) a0 a1 a2 b0 b1 b2 h
end Go.Proofs.YtblnjkjjedanaaaGreatDoor
namespace Go.Proofs.dN
abbrev FV:=Nat->Rat
def jo(f:Nat->Rat):Nat->Rat
 |0=>0
 |i+1=>jo f i+f i
theorem xh{f g:Nat->Rat}:∀{n:Nat},(∀i,i<n->f i=g i)->jo f n=jo g n
 |0,_=>rfl
 |n+1,h=>by rw[jo,jo,xh (fun i hi=>h i (by omega)),h n (by omega)]
theorem gw{f:Nat->Rat}:∀{n:Nat},(∀i,i<n->f i=0)->jo f n=0
 |0,_=>rfl
 |n+1,h=>by rw[jo,gw (fun i hi=>h i (by omega)),h n (by omega)];exact aVV 0
theorem Bz{f g h:Nat->Rat}{q:Rat}:∀{n:Nat},(∀i,i<n->h i=f i+q*g i)->jo h n=jo f n+q*jo g n
 |0,_=>by simp only[jo];grind
 |n+1,e=>by
  have:=Bz (n:=n) (fun i hi=>e i (by omega))
  have:=e n (by omega)
  simp only[jo]
  grind
theorem mL{f:Nat->Rat}{k:Nat}:∀{n:Nat},k<n->(∀i,i<n->i≠k->f i=0)->jo f n=f k
 |0,h,_=>by omega
 |n+1,h,e=>by
  by_cases hk:k=n
  ·subst hk;rw[jo,gw (fun i hi=>e i (by omega) (by omega))]
   grind
  ·rw[jo,mL (by omega) (fun i hi=>e i (by omega)),e n (by omega) (by omega)]
   grind
theorem Mz{f:Nat->Rat}{k l:Nat}:∀{n:Nat},k<n->l<n->k≠l->(∀i,i<n->i≠k->i≠l->f i=0)->jo f n=f k+f l
 |0,h,_,_,_=>by omega
 |n+1,h,h',Ol,e=>by
  by_cases hk:k=n
  ·subst hk;rw[jo,mL (k:=l) (by omega) (fun i hi dM=>e i (by omega) (by omega) dM)]
   grind
  ·by_cases hl:l=n
   ·subst hl;rw[jo,mL (k:=k) (by omega) (fun i hi dM=>e i (by omega) dM (by omega))]
   ·rw[jo,Mz (by omega) (by omega) Ol (fun i hi=>e i (by omega)),e n (by omega) (by omega) (by omega)]
    grind
def ip(n:Nat)(a x:FV):Rat:=jo (fun c=>a c*x c) n
theorem od{n:Nat}{a x y z:FV}{q:Rat}(h:∀c,z c=x c+q*y c):ip n a z=ip n a x+q*ip n a y:=by
 unfold ip;exact Bz (fun i _=>by rw[h];grind)
theorem jD{n:Nat}{a x:FV}:ip n a x=ip n x a:=by unfold ip;exact xh (fun i _=>by grind)
theorem oU{n:Nat}{a b x y:FV}(h:∀c,a c=b c)(h':∀c,x c=y c):ip n a x=ip n b y:=by unfold ip;exact xh (fun i _=>by rw[h,h'])
inductive eK(S:FV->Prop):FV->Prop
 |zero {x:FV} (h:∀c,x c=0):eK S x
 |step {x a y:FV} (q:Rat) (hx:eK S x) (ha:S a) (h:∀c,y c=x c+q*a c):eK S y
theorem eK.of{S:FV->Prop}{a:FV}(h:S a):eK S a:=.step (x:=fun _=>0) 1 (.zero (fun _=>rfl)) h (fun c=>by grind)
theorem eK.ext{S:FV->Prop}{x y:FV}(h:eK S x)(e:∀c,y c=x c):eK S y:=by
 cases h with
 |zero h=>exact .zero (fun c=>by rw[e,h])
 |step q hx ha h=>exact .step q hx ha (fun c=>by rw[e,h])
theorem eK.pO{S:FV->Prop}{x y z:FV}(q:Rat)(hx:eK S x)(hy:eK S y)(e:∀c,z c=x c+q*y c):eK S z:=by
 induction hy generalizing z with
 |zero h=>exact hx.ext (fun c=>by rw[e,h];grind)
 |@step u a v p hu ha hv ih=>
  exact .step (x:=fun c=>x c+q*u c) (q*p) (ih (fun c=>rfl)) ha (fun c=>by rw[e,hv];grind)
theorem eK.trans{S T:FV->Prop}(h:∀a,S a->eK T a){x:FV}(hx:eK S x):eK T x:=by
 induction hx with
 |zero h=>exact .zero h
 |step q _ ha e ih=>exact eK.pO q ih (h _ ha) e
structure Lsp(W:FV->Prop):Prop where
 zero:∀x:FV,(∀c,x c=0)->W x
 pO:∀(x y z:FV) (q:Rat),W x->W y->(∀c,z c=x c+q*y c)->W z
theorem Lsp.ext{W:FV->Prop}(h:Lsp W){x y:FV}(hx:W x)(e:∀c,y c=x c):W y:=h.pO x (fun _=>0) y 0 hx (h.zero _ (fun _=>rfl)) (fun c=>by rw[e];grind)
theorem Lsp.Yb{W S:FV->Prop}(h:Lsp W)(hs:∀a,S a->W a){x:FV}(hx:eK S x):W x:=by
 induction hx with
 |zero e=>exact h.zero _ e
 |step q _ ha e ih=>exact h.pO _ _ _ q ih (hs _ ha) e
theorem jn(S:FV->Prop):Lsp (eK S):=⟨fun _ h=>.zero h,fun _ _ _ q hx hy e=>hx.pO q hy e⟩
theorem Lsp.Zw{W:FV->Prop}(h:Lsp W){f:Nat->FV}(q:Nat->Rat):∀{m:Nat},(∀i,i<m->W (f i))->W (fun c=>jo (fun i=>q i*f i c) m)
 |0,_=>h.zero _ (fun _=>rfl)
 |m+1,hf=>h.pO _ _ _ (q m) (Lsp.Zw h q (fun i hi=>hf i (by omega))) (hf m (by omega)) (fun c=>rfl)
def SR(m:Nat)(f:Nat->FV):FV->Prop:=fun a=>∃i,i<m/\∀c,a c=f i c
theorem SR.get{m:Nat}{f:Nat->FV}{i:Nat}(h:i<m):SR m f (f i):=⟨i,h,fun _=>rfl⟩
theorem uW{m:Nat}{f:Nat->FV}{x:FV}(h:eK (SR m f) x):∃q:Nat->Rat,∀c,x c=jo (fun i=>q i*f i c) m:=by
 induction h with
 |zero h=>exact⟨fun _=>0,fun c=>by rw[h,gw];intro i _;grind⟩
 |@step x a y p hx ha hy ih=>
  obtain⟨q,hq⟩:=ih;obtain⟨i,hi,e⟩:=ha;refine⟨fun j=>q j+p*(if j=i then 1 else 0),fun c=>?_⟩;have h1:=Bz (f:=fun i=>q i*f i c) (g:=fun j=>(if j=i then 1 else 0)*f j c) (h:=fun j=>(q j+p*(if j=i then 1 else 0))*f j c) (q:=p) (n:=m) (fun j _=>by grind);have h2:=mL (f:=fun j=>(if j=i then 1 else 0)*f j c) (k:=i) hi (fun j _ hj=>by grind);rw[hy,hq,e,h1,h2]
  grind
def iY(n m:Nat)(f:Nat->FV):FV->Prop:=fun x=>(∀c,n<=c->x c=0)/\∀i,i<m->ip n (f i) x=0
theorem mJ(n m:Nat)(f:Nat->FV):Lsp (iY n m f) where
 zero x h:=⟨fun c _=>h c,fun i _=>gw (fun c _=>by rw[h];grind)⟩
 pO x y z q hx hy e:=⟨fun c hc=>by rw[e,hx.1 c hc,hy.1 c hc];grind,fun i hi=>by rw[od e,hx.2 i hi,hy.2 i hi];grind⟩
structure kU(n m:Nat)(f:Nat->FV)(P:Nat->Nat)(W:FV->Prop):Prop where
 lt:∀i,i<m->P i<n
 mono:∀i j,i<j->j<m->P i<P j
 one:∀i j,i<m->j<m->f i (P j)=if i=j then 1 else 0
 low:∀i c,i<m->c<P i->f i c=0
 mem:∀i,i<m->W (f i)
 gen:∀x,W x->(∀i,i<m->x (P i)=0)->∀c,x c=0
theorem kU.comb{n m:Nat}{f:Nat->FV}{P:Nat->Nat}{W:FV->Prop}(h:kU n m f P W)(hW:Lsp W){x:FV}(hx:W x)(c:Nat):x c=jo (fun i=>x (P i)*f i c) m:=by
 have h1:W (fun c=>x c+(-1)*jo (fun i=>x (P i)*f i c) m):=hW.pO _ _ _ (-1) hx (hW.Zw (fun i=>x (P i)) h.mem) (fun c=>rfl);have h2:=h.gen _ h1 (fun j hj=>by
  rw[mL (k:=j) hj (fun i hi dM=>by rw[h.one i j hi hj,if_neg dM];grind),h.one j j hj hj,if_pos rfl]
  grind) c
 try simp only at h2
 grind
theorem kU.lead{n m:Nat}{f:Nat->FV}{P:Nat->Nat}{W:FV->Prop}(h:kU n m f P W)(hW:Lsp W){x:FV}(hx:W x){p:Nat}(hp:x p≠0)(hl:∀c,c<p->x c=0):∃i,i<m/\P i=p:=by
 by_cases hex:∃i,i<m/\x (P i)≠0
 ·have On:∃i,(i<m/\x (P i)≠0)/\∀j,j<i->¬(j<m/\x (P j)≠0):=by
   obtain⟨i,hi⟩:=hex;induction i using Nat.strongRecOn with
   |ind i ih=>
    by_cases hc:∃j,j<i/\j<m/\x (P j)≠0
    ·obtain⟨j,hj,T4⟩:=hc;exact ih j hj T4
    ·exact⟨i,hi,fun j hj T4=>hc ⟨j,hj,T4⟩⟩
  obtain⟨i,⟨hi,dM⟩,hmn⟩:=On;refine⟨i,hi,?_⟩;have h1:¬P i<p:=fun gO=>dM (hl _ gO)
  have h2:¬p<P i:=by
   intro gO;apply hp;rw[h.comb hW hx p];apply gw;intro j hj;by_cases MZ:j<i
   ·have:x (P j)=0:=Classical.byContradiction (fun hh=>hmn j MZ ⟨hj,hh⟩)
    rw[this];grind
   ·have:p<P j:=by
     by_cases e:i=j
     ·rw[<-e];exact gO
     ·exact Nat.lt_trans gO (h.mono i j (by omega) hj)
    rw[h.low j p hj this];grind
  omega
 ·exact absurd (h.gen x hx (fun i hi=>Classical.byContradiction (fun hh=>hex ⟨i,hi,hh⟩)) p) hp
theorem Ct{m m':Nat}{P P':Nat->Nat}(h:∀i j,i<j->j<m->P i<P j)(h':∀i j,i<j->j<m'->P' i<P' j)(a:∀i,i<m->∃j,j<m'/\P' j=P i)(b:∀i,i<m'->∃j,j<m/\P j=P' i):∀i,i<m->i<m'/\P i=P' i:=by
 intro i;induction i using Nat.strongRecOn with
 |ind i ih=>
  intro hi;obtain⟨i',zL,e⟩:=a i hi;have h1:i<=i':=by
   apply Classical.byContradiction;intro hn
   have:=(ih i' (by omega) (by omega)).2
   have:=h i' i (by omega) hi
   omega
  refine⟨by omega,?_⟩;by_cases h2:i=i'
  ·subst h2;exact e.symm
  ·have h3:=h' i i' (by omega) zL;obtain⟨j,hj,ej⟩:=b i (by omega);have h4:j<i:=by
    apply Classical.byContradiction;intro hn;by_cases e2:i=j
    ·subst e2;omega
    ·have:=h i j (by omega) hj
     omega
   have h5:=(ih j h4 hj).2
   have:=h' j i h4 (by omega)
   omega
theorem kU.uniq{n m m':Nat}{f f':Nat->FV}{P P':Nat->Nat}{W:FV->Prop}(h:kU n m f P W)(h':kU n m' f' P' W)(hW:Lsp W):m=m'/\(∀i,i<m->P i=P' i)/\∀i,i<m->∀c,f i c=f' i c:=by
 have A:∀{m m':Nat} {f f':Nat->FV} {P P':Nat->Nat},kU n m f P W->kU n m' f' P' W->∀i,i<m->∃j,j<m'/\P' j=P i:=by
  intro m m' f f' P P' h h' i hi;exact h'.lead hW (h.mem i hi) (by rw[h.one i i hi hi,if_pos rfl];decide) (fun c hc=>h.low i c hi hc)
 have s1:=Ct h.mono h'.mono (A h h') (A h' h);have s2:=Ct h'.mono h.mono (A h' h) (A h h');have hm:m=m':=by
  rcases aVT m m' with hh|hh|hh
  ·have:=(s2 m hh).1;omega
  ·exact hh
  ·have:=(s1 m' hh).1;omega
 subst hm;refine⟨rfl,fun i hi=>(s1 i hi).2,fun i hi c=>?_⟩;have h1:W (fun c=>f i c+(-1)*f' i c):=hW.pO _ _ _ (-1) (h.mem i hi) (h'.mem i hi) (fun c=>rfl);have h2:=h.gen _ h1 (fun j hj=>by
  rw[h.one i j hi hj,(s1 j hj).2,h'.one i j hi hj]
  grind) c
 try simp only at h2
 grind
theorem kU.congr{n m:Nat}{f:Nat->FV}{P:Nat->Nat}{W V:FV->Prop}(h:kU n m f P W)(e:∀x,W x↔V x):kU n m f P V:=
 ⟨h.lt,h.mono,h.one,h.low,fun i hi=>(e _).1 (h.mem i hi),fun x hx=>h.gen x ((e x).2 hx)⟩
theorem kU.Yb{n m:Nat}{f:Nat->FV}{P:Nat->Nat}{W:FV->Prop}(h:kU n m f P W)(hW:Lsp W){x:FV}:W x↔eK (SR m f) x:=by refine⟨fun hx=>?_,fun hx=>hW.Yb (fun a ⟨i,hi,e⟩=>hW.ext (h.mem i hi) e) hx⟩;exact((jn (SR m f)).Zw (fun i=>x (P i)) (fun i hi=>eK.of (SR.get hi))).ext (h.comb hW hx)
structure St(n M k r:Nat)(sC:Nat->Nat)(f:Nat->FV)(P:Nat->Nat)(W:FV->Prop):Prop where
 le:r<=M
 lt:∀i,i<r->P i<k
 mono:∀i j,i<j->j<r->P i<P j
 one:∀i j,i<M->j<r->f i (sC (P j))=if i=j then 1 else 0
 low:∀i t,i<r->t<P i->f i (sC t)=0
 zero:∀i t,r<=i->i<M->t<k->f i (sC t)=0
 span:∀x,W x↔eK (SR M f) x
theorem St.start{n M:Nat}{sC:Nat->Nat}{f:Nat->FV}:St n M 0 0 sC f (fun _=>0) (eK (SR M f)):=
 ⟨by omega,fun i h=>by omega,fun i j _ h=>by omega,fun i j _ h=>by omega,fun i j h=>by omega,fun i j _ _ h=>by omega,fun x=>Iff.rfl⟩
theorem St.skip{n M k r:Nat}{sC:Nat->Nat}{f:Nat->FV}{P:Nat->Nat}{W:FV->Prop}(h:St n M k r sC f P W)(hz:∀i,r<=i->i<M->f i (sC k)=0):St n M (k+1) r sC f P W:=
 ⟨h.le,fun i hi=>aVX (h.lt i hi),h.mono,h.one,h.low,fun i t h1 h2 h3=>by
  by_cases e:t=k
  ·subst e;exact hz i h1 h2
  ·exact h.zero i t h1 h2 (by omega),h.span⟩
theorem St.swap{n M k r i:Nat}{sC:Nat->Nat}{f:Nat->FV}{P:Nat->Nat}{W:FV->Prop}(h:St n M k r sC f P W)(hi:r<=i)(hM:i<M){g:Nat->FV}(hg:∀j,j<M->∀c,g j c=if j=r then f i c else if j=i then f r c else f j c):St n M k r sC g P W:=by
 have hrM:r<M:=by omega
 refine⟨h.le,h.lt,h.mono,fun a j ha hj=>?_,fun a t ha ht=>?_,fun a t ha hb ht=>?_,fun x=>?_⟩
 ·rw[hg a ha];have h1:=h.one i j hM hj;have h2:=h.one r j hrM hj;have h3:=h.one a j ha hj;rw[h1,h2,h3]
  grind
 ·rw[hg a (by omega),if_neg (by omega),if_neg (by omega)];exact h.low a t ha ht
 ·rw[hg a hb]
  split
  ·exact h.zero i t hi hM ht
  ·split
   ·exact h.zero r t (by omega) hrM ht
   ·exact h.zero a t ha hb ht
 ·rw[h.span];refine⟨eK.trans ?_,eK.trans ?_⟩
  ·rintro a ⟨j,hj,e⟩;by_cases h1:j=r
   ·exact(eK.of (SR.get hM)).ext (fun c=>by rw[e,hg i hM c,h1];grind)
   ·by_cases h2:j=i
    ·exact(eK.of (SR.get hrM)).ext (fun c=>by rw[e,hg r hrM c,h2];grind)
    ·exact(eK.of (SR.get hj)).ext (fun c=>by rw[e,hg j hj c,if_neg h1,if_neg h2])
  ·rintro a ⟨j,hj,e⟩;by_cases h1:j=r
   ·exact(eK.of (SR.get hM)).ext (fun c=>by rw[e,hg j hj c,if_pos h1])
   ·by_cases h2:j=i
    ·exact(eK.of (SR.get hrM)).ext (fun c=>by rw[e,hg j hj c,if_neg h1,if_pos h2])
    ·exact(eK.of (SR.get hj)).ext (fun c=>by rw[e,hg j hj c,if_neg h1,if_neg h2])
theorem St.Fe{n M k r:Nat}{sC:Nat->Nat}{f:Nat->FV}{P:Nat->Nat}{W:FV->Prop}(h:St n M k r sC f P W)(hM:r<M)(dM:f r (sC k)≠0){g:Nat->FV}(hg:∀j,j<M->∀c,g j c=if j=r then f r c/f r (sC k)else f j c-f j (sC k)*(f r c/f r (sC k))):St n M (k+1) (r+1) sC g (fun j=>if j=r then k else P j) W:=by
 have Ba:∀t,t<k->f r (sC t)=0:=fun t ht=>h.zero r t (by omega) hM ht
 have d0:(0:Rat)/f r (sC k)=0:=by grind
 have hP:∀i,i<r->(fun j=>if j=r then k else P j) i=P i:=fun i hi=>if_neg (by omega)
 refine⟨by omega,fun i hi=>?_,fun i j FE hj=>?_,fun a j ha hj=>?_,fun a t ha ht=>?_,fun a t ha hb ht=>?_,fun x=>?_⟩
 ·split
  ·omega
  ·exact aVX (h.lt i (by omega))
 ·rw[if_neg (by omega:¬i=r)]
  split
  ·exact h.lt i (by omega)
  ·exact h.mono i j FE (by omega)
 ·rw[hg a ha];by_cases R9:j=r
  ·rw[if_pos R9];subst R9
   split
   ·grind
   ·grind
  ·rw[if_neg R9];have h1:=h.one a j ha (by omega);rw[Ba _ (h.lt j (by omega)),h1]
   split
   ·rename_i e;subst e;rw[if_neg (fun e=>R9 e.symm)];exact d0
   ·rw[d0];grind
 ·try simp only at ht
  rw[hg a (by omega)];by_cases har:a=r
  ·rw[if_pos har]at ht⊢;rw[Ba t ht];exact d0
  ·rw[if_neg har]at ht⊢;rw[h.low a t (by omega) ht,Ba t (Nat.lt_trans ht (h.lt a (by omega))),d0]
   grind
 ·rw[hg a hb,if_neg (by omega)];by_cases Sl:t=k
  ·subst Sl;grind
  ·rw[h.zero a t (by omega) hb (by omega),Ba t (by omega),d0];grind
 ·rw[h.span];have gr:∀c,g r c=f r c/f r (sC k):=fun c=>by rw[hg r hM,if_pos rfl]
  have gj:∀j,j<M->j≠r->∀c,g j c=f j c-f j (sC k)*(f r c/f r (sC k)):=fun j hj dM c=>by rw[hg j hj,if_neg dM]
  refine⟨eK.trans ?_,eK.trans ?_⟩
  ·rintro a ⟨j,hj,e⟩;by_cases h1:j=r
   ·exact eK.pO (x:=fun _=>0) (f r (sC k)) (.zero fun _=>rfl) (eK.of (SR.get hM)) (fun c=>by rw[e,h1,gr];grind)
   ·exact eK.pO (f j (sC k)) (eK.of (SR.get hj)) (eK.of (SR.get hM)) (fun c=>by rw[e,gr,gj j hj h1];grind)
  ·rintro a ⟨j,hj,e⟩;by_cases h1:j=r
   ·exact eK.pO (x:=fun _=>0) (f r (sC k))⁻¹ (.zero fun _=>rfl) (eK.of (SR.get hM)) (fun c=>by rw[e,h1,gr];grind)
   ·exact eK.pO (-(f j (sC k)/f r (sC k))) (eK.of (SR.get hj)) (eK.of (SR.get hM)) (fun c=>by rw[e,gj j hj h1];grind)
def CB(b M:Nat)(f:Nat->FV):Prop:=∃(D:Int) (A:Nat->Nat->Int),D≠0/\D.natAbs<=2^b/\∀i,i<M->∀c,f i c=(A i c:Rat)/(D:Rat)/\(A i c).natAbs<=2^b
theorem CB.mono{b b' M:Nat}{f:Nat->FV}(h:CB b M f)(hb:b<=b'):CB b' M f:=by
 obtain⟨D,A,h0,h1,h2⟩:=h
 have:=aRX (n:=2) (by omega) hb
 exact⟨D,A,h0,by omega,fun i hi c=>⟨(h2 i hi c).1,by have:=(h2 i hi c).2;omega⟩⟩
theorem CB.le{b M M':Nat}{f:Nat->FV}(h:CB b M f)(hM:M'<=M):CB b M' f:=by obtain⟨D,A,h0,h1,h2⟩:=h;exact⟨D,A,h0,h1,fun i hi=>h2 i (by omega)⟩
theorem iA{a b x y:Nat}(h:a<=x)(k:b<=y):a*b<=x*y:=Nat.mul_le_mul h k
theorem Ph{b:Nat}:2^(2*b+1)=2*(2^b*2^b):=by rw[show 2*b+1=1+(b+b)by omega,aR3,aR3]
theorem iK{D:Int}(h:D≠0):(D:Rat)≠0:=by intro e;exact h (by exact_mod_cast e)
theorem CB.Fe{b M k r:Nat}{f g:Nat->FV}(h:CB b M f)(hM:r<M)(dM:f r k≠0)(hg:∀j,j<M->∀c,g j c=if j=r then f r c/f r k else f j c-f j k*(f r c/f r k)):CB (2*b+1) M g:=by
 obtain⟨D,A,h0,h1,h2⟩:=h;have hD:=iK h0;have hA:A r k≠0:=by
  intro e;apply dM;rw[(h2 r hM k).1,e]
  grind
 have hAq:=iK hA;refine⟨D*A r k,fun i c=>if i=r then D*A r c else A i c*A r k-A i k*A r c,Int.mul_ne_zero h0 hA,?_,fun i hi c=>⟨?_,?_⟩⟩
 ·rw[aVS,Ph]
  have:=iA h1 (h2 r hM k).2
  omega
 ·rw[hg i hi];by_cases e:i=r
  ·simp only[if_pos e];rw[(h2 r hM c).1,(h2 r hM k).1,aVR,aVR]
   grind
  ·simp only[if_neg e];rw[(h2 r hM c).1,(h2 r hM k).1,(h2 i hi c).1,(h2 i hi k).1,Rat.intCast_sub,aVR,aVR,aVR]
   grind
 ·simp only
  split
  ·rw[aVS,Ph]
   have:=iA h1 (h2 r hM c).2
   omega
  ·have e1:=iA (h2 i hi c).2 (h2 r hM k).2;have e2:=iA (h2 i hi k).2 (h2 r hM c).2;rw[<-aVS]at e1 e2;rw[Ph];omega
theorem CB.swap{b M:Nat}{f g:Nat->FV}(h:CB b M f)(s:Nat->Nat)(hs:∀j,j<M->s j<M)(hg:∀j,j<M->∀c,g j c=f (s j) c):CB b M g:=by
 obtain⟨D,A,h0,h1,h2⟩:=h;exact⟨D,fun i=>A (s i),h0,h1,fun i hi c=>by rw[hg i hi];exact h2 _ (hs i hi) c⟩
def gB(b r:Nat):Nat:=2^r*(b+1)-1
theorem aaM{b:Nat}:gB b 0=b:=by unfold gB;omega
theorem aaL{b r:Nat}:2*gB b r+1=gB b (r+1):=by unfold gB;have h:0<2^r*(b+1):=Nat.mul_pos (Nat.pow_pos (by omega)) (by omega);rw[Nat.pow_succ,show 2^r*2*(b+1)=2*(2^r*(b+1))by rw[Nat.mul_comm (2^r) 2,aQl]];omega
theorem IS{n M b:Nat}{sC:Nat->Nat}{f0:Nat->FV}(h0:CB b M f0)(hw:∀i,i<M->∀c,n<=c->f0 i c=0):∀k,∃r f P,St n M k r sC f P (eK (SR M f0))/\CB (gB b r) M f/\(∀i,i<M->∀c,n<=c->f i c=0)
 |0=>⟨0,f0,fun _=>0,.start,by rw[aaM];exact h0,hw⟩
 |k+1=>by
  obtain⟨r,f,P,hs,hc,hz⟩:=IS h0 hw k;by_cases hex:∃i,r<=i/\i<M/\f i (sC k)≠0
  ·obtain⟨i,hi,hM,dM⟩:=hex;have s1:St n M k r sC (fun j=>if j=r then f i else if j=i then f r else f j) P (eK (SR M f0)):=hs.swap hi hM (fun j hj c=>by(repeat' split)<;>rfl);have c1:CB (gB b r) M (fun j=>if j=r then f i else if j=i then f r else f j):=hc.swap (fun j=>if j=r then i else if j=i then r else j) (fun j hj=>by(repeat' split)<;>omega) (fun j hj c=>by(repeat' split)<;>rfl);have aoU:(if r=r then f i else if r=i then f r else f r) (sC k)≠0:=by rw[if_pos rfl];exact dM
   have Sn:∀j,j<M->∀c,n<=c->(if j=r then f i else if j=i then f r else f j) c=0:=by
    intro j hj c hc
    split
    ·exact hz i hM c hc
    ·split
     ·exact hz r (by omega) c hc
     ·exact hz j hj c hc
   have s2:=s1.Fe (by omega) aoU (fun j hj c=>rfl);have c2:=c1.Fe (r:=r) (k:=sC k) (by omega) aoU (fun j hj c=>rfl);rw[aaL]at c2;refine⟨r+1,_,_,s2,c2,fun j hj c hc=>?_⟩;have z1:=hz i hM c hc;have z2:=Sn j hj c hc;simp only[if_true];by_cases R9:j=r
   ·rw[if_pos R9,z1];grind
   ·rw[if_neg R9,z2,z1];grind
  ·exact⟨r,f,P,hs.skip (fun i hi hM=>Classical.byContradiction (fun hh=>hex ⟨i,hi,hM,hh⟩)),hc,hz⟩
theorem St.fin{n M k r:Nat}{sC:Nat->Nat}{f:Nat->FV}{P:Nat->Nat}{W:FV->Prop}(h:St n M k r sC f P W)(hz:∀i,r<=i->i<M->∀c,f i c=0)(x:FV):W x↔eK (SR r f) x:=by
 rw[h.span];refine⟨eK.trans ?_,eK.trans ?_⟩
 ·rintro a ⟨j,hj,e⟩;by_cases h1:j<r
  ·exact(eK.of (SR.get h1)).ext e
  ·exact .zero (fun c=>by rw[e,hz j (by omega) hj c])
 ·rintro a ⟨j,hj,e⟩;exact(eK.of (SR.get (aNU hj h.le))).ext e
theorem St.comb{n M k r:Nat}{sC:Nat->Nat}{f:Nat->FV}{P:Nat->Nat}{W:FV->Prop}(h:St n M k r sC f P W){x:FV}(hx:eK (SR r f) x)(c:Nat):x c=jo (fun i=>x (sC (P i))*f i c) r:=by
 obtain⟨q,hq⟩:=uW hx;rw[hq c];refine xh (fun i hi=>?_);rw[hq (sC (P i)),mL (k:=i) hi (fun j hj dM=>by rw[h.one j i (by have:=h.le;omega) hi,if_neg dM];grind),h.one i i (by have:=h.le;omega) hi,if_pos rfl]
 grind
theorem St.ech{n M k r:Nat}{f:Nat->FV}{P:Nat->Nat}{W:FV->Prop}(h:St n M k r (fun t=>t) f P W)(hk:k<=n)(hz:∀i,r<=i->i<M->∀c,f i c=0):kU n r f P W:=by
 have hle:=h.le;refine⟨fun i hi=>by have:=h.lt i hi;omega,h.mono,fun i j hi hj=>h.one i j (by omega) hj,fun i c hi hc=>h.low i c hi hc,fun i hi=>(h.fin hz _).2 (eK.of (SR.get hi)),fun x hx h0 c=>?_⟩;rw[h.comb ((h.fin hz x).1 hx) c];exact gw (fun i hi=>by rw[h0 i hi];grind)
def lZ(n:Nat)(t:Nat):Nat:=n-1-t
theorem DP:∀(k r:Nat) (P:Nat->Nat),(∀i,i<r->P i<k)->(∀i j,i<j->j<r->P i<P j)->∃F:Nat->Nat,r<=k/\(∀j,j<k-r->F j<k/\∀i,i<r->P i≠F j)/\(∀i j,i<j->j<k-r->F i<F j)/\∀t,t<k->(∃i,i<r/\P i=t)∨∃j,j<k-r/\F j=t
 |0,r,P,h,_=>⟨fun _=>0,by
   rcases Nat.eq_zero_or_pos r with e|e
   ·omega
   ·have:=h 0 e;omega,fun j hj=>by omega,fun i j _ hj=>by omega,fun t ht=>by omega⟩
 |k+1,r,P,h,hm=>by
  by_cases hl:0<r/\P (r-1)=k
  ·obtain⟨F,h1,h2,h3,h4⟩:=DP k (r-1) P (fun i hi=>by have:=hm i (r-1) hi (by omega);omega) (fun i j FE hj=>hm i j FE (by omega));refine⟨F,by omega,fun j hj=>?_,fun i j FE hj=>h3 i j FE (by omega),fun t ht=>?_⟩
   ·have:=h2 j (by omega)
    refine⟨by omega,fun i hi=>?_⟩;by_cases e:i=r-1
    ·subst e;omega
    ·exact this.2 i (by omega)
   ·by_cases e:t=k
    ·exact .inl ⟨r-1,by omega,by omega⟩
    ·rcases h4 t (by omega)with⟨i,hi,e⟩|⟨j,hj,e⟩
     ·exact .inl ⟨i,by omega,e⟩
     ·exact .inr ⟨j,by omega,e⟩
  ·have gO:∀i,i<r->P i<k:=by
    intro i hi;have h1:=h i hi;apply Classical.byContradiction;intro hn;by_cases e:i=r-1
    ·exact hl ⟨by omega,by subst e;omega⟩
    ·have:=hm i (r-1) (by omega) (by omega)
     have:=h (r-1) (by omega)
     omega
   obtain⟨F,h1,h2,h3,h4⟩:=DP k r P gO hm;refine⟨fun j=>if j=k-r then k else F j,by omega,fun j hj=>?_,fun i j FE hj=>?_,fun t ht=>?_⟩
   ·simp only
    split
    ·exact⟨by omega,fun i hi=>by have:=gO i hi;omega⟩
    ·have:=h2 j (by omega)
     exact⟨by omega,this.2⟩
   ·simp only;rw[if_neg (by omega:¬i=k-r)]
    split
    ·exact(h2 i (by omega)).1
    ·exact h3 i j FE (by omega)
   ·by_cases e:t=k
    ·exact .inr ⟨k-r,by omega,by simp only[if_true];exact e.symm⟩
    ·rcases h4 t (by omega)with⟨i,hi,e⟩|⟨j,hj,e⟩
     ·exact .inl ⟨i,hi,e⟩
     ·exact .inr ⟨j,by omega,by simp only;rw[if_neg (by omega)];exact e⟩
theorem xT{n t:Nat}(h:t<n):lZ n t<n:=by unfold lZ;omega
theorem rq{n t:Nat}(h:t<n):lZ n (lZ n t)=t:=by unfold lZ;omega
open Classical in
noncomputable def zS(n r:Nat)(f:Nat->FV)(P F:Nat->Nat)(k:Nat):FV:=fun c=>if h:∃i,i<r/\lZ n (P i)=c then-f (Classical.choose h) (F k)else if c=F k then 1 else 0
theorem ON{n M r:Nat}{f:Nat->FV}{P:Nat->Nat}{W:FV->Prop}(h:St n M n r (lZ n) f P W)(hw:∀i,i<M->∀c,n<=c->f i c=0){b:Nat}(hb:CB b M f):
  ∃g F,kU n (n-r) g F (iY n r f)/\r<=n/\CB b (n-r) g/\(∀k,k<n-r->∀c,n<=c->g k c=0)/\∀y,iY n (n-r) g y↔eK (SR r f) y:=by
 obtain⟨F0,hrn,hF1,hF2,hF3⟩:=DP n r P h.lt h.mono;have hle:=h.le;have hFd:∃F:Nat->Nat,∀k,F k=lZ n (F0 (n-r-1-k)):=⟨_,fun k=>rfl⟩;obtain⟨F,hFe⟩:=hFd;have N9:∀k,k<n-r->F k<n:=fun k hk=>by rw[hFe];exact xT (hF1 _ (by omega)).1
 have hFm:∀i j,i<j->j<n-r->F i<F j:=by
  intro i j FE hj;rw[hFe,hFe]
  have:=hF2 (n-r-1-j) (n-r-1-i) (by omega) (by omega)
  have:=(hF1 (n-r-1-i) (by omega)).1
  unfold lZ;omega
 have hFP:∀k i,k<n-r->i<r->lZ n (P i)≠F k:=by intro k i hk hi e;rw[hFe]at e;have h1:=hF1 (n-r-1-k) (by omega);have h2:=h.lt i hi;apply h1.2 i hi;rw[<-rq h2,e,rq h1.1]
 have R4:∀c,c<n->(∃i,i<r/\lZ n (P i)=c)∨∃k,k<n-r/\F k=c:=by
  intro c hc;rcases hF3 (lZ n c) (xT hc)with⟨i,hi,e⟩|⟨j,hj,e⟩
  ·exact .inl ⟨i,hi,by rw[e,rq hc]⟩
  ·exact .inr ⟨n-r-1-j,by omega,by rw[hFe,show n-r-1-(n-r-1-j)=j by omega,e,rq hc]⟩
 have anO:∀i j,i<r->j<r->lZ n (P i)=lZ n (P j)->i=j:=by
  intro i j hi hj e;have h1:=h.lt i hi;have h2:=h.lt j hj;have e2:P i=P j:=by unfold lZ at e;omega
  rcases aVT i j with hh|hh|hh
  ·have:=h.mono i j hh hj;omega
  ·exact hh
  ·have:=h.mono j i hh hi;omega
 have gP:∀k i,i<r->zS n r f P F k (lZ n (P i))= -f i (F k):=by intro k i hi;unfold zS;have hx:∃j,j<r/\lZ n (P j)=lZ n (P i):=⟨i,hi,rfl⟩;rw[dif_pos hx];have h1:=Classical.choose_spec hx;rw[anO _ _ h1.1 hi h1.2]
 have gF:∀k l,l<n-r->zS n r f P F k (F l)=if F l=F k then 1 else 0:=by intro k l hl;unfold zS;rw[dif_neg];rintro⟨i,hi,e⟩;exact hFP l i hl hi e
 have gZ:∀k,k<n-r->∀c,n<=c->zS n r f P F k c=0:=by
  intro k hk c hc;unfold zS;rw[dif_neg,if_neg]
  ·have:=N9 k hk;omega
  ·rintro⟨i,hi,e⟩
   have:=xT (h.lt i hi)
   omega
 have sH:∀i j,i<r->j<r->f i (lZ n (P j))=if i=j then 1 else 0:=fun i j hi hj=>h.one i j (by omega) hj
 have anF:∀i j,i<n-r->j<n-r->F i=F j->i=j:=by
  intro i j hi hj e;rcases aVT i j with hh|hh|hh
  ·have:=hFm i j hh hj;omega
  ·exact hh
  ·have:=hFm j i hh hi;omega
 have ipf:∀j x,j<r->(∀k,k<n-r->f j (F k)*x (F k)=0)->ip n (f j) x=x (lZ n (P j)):=by
  intro j x hj hx;unfold ip;rw[mL (k:=lZ n (P j)) (xT (h.lt j hj)),sH j j hj hj,if_pos rfl,Rat.one_mul];intro c hc dM;rcases R4 c hc with⟨i,hi,e⟩|⟨k,hk,e⟩
  ·rw[<-e,sH j i hj hi,if_neg (fun e2=>dM (by rw[<-e,e2])),aVU]
  ·rw[<-e];exact hx k hk
 have I3:∀k j,k<n-r->j<r->ip n (f j) (zS n r f P F k)=0:=by
  intro k j hk hj;unfold ip;rw[Mz (k:=lZ n (P j)) (l:=F k) (xT (h.lt j hj)) (N9 k hk) (hFP k j hk hj),gP k j hj,gF k k hk,sH j j hj hj,if_pos rfl,if_pos rfl]
  ·grind
  ·intro c hc h1 h2;rcases R4 c hc with⟨i,hi,e⟩|⟨l,hl,e⟩
   ·rw[<-e,sH j i hj hi,if_neg (fun e2=>h1 (by rw[<-e,e2])),aVU]
   ·rw[<-e,gF k l hl,if_neg (fun e2=>h2 (by rw[<-e,e2])),aVW]
 have KQ:kU n (n-r) (zS n r f P F) F (iY n r f):=by
  refine⟨N9,hFm,fun i j hi hj=>?_,fun k c hk hc=>?_,fun k hk=>⟨fun c hc=>gZ k hk c hc,fun j hj=>I3 k j hk hj⟩,fun x hx h0 c=>?_⟩
  ·rw[gF i j hj];by_cases e:i=j
   ·rw[e];simp only[if_true]
   ·rw[if_neg e,if_neg (fun e2=>e (anF _ _ hi hj e2.symm))]
  ·have T1:c<n:=by have:=N9 k hk;omega
   rcases R4 c T1 with⟨i,hi,e⟩|⟨l,hl,e⟩
   ·rw[<-e,gP k i hi];have h1:=h.low i (lZ n (F k)) hi (by have:=h.lt i hi;have:=N9 k hk;unfold lZ at e⊢;omega);rw[rq (N9 k hk)]at h1;rw[h1];grind
   ·rw[<-e,gF k l hl,if_neg (by omega)]
  ·by_cases hc:c<n
   ·rcases R4 c hc with⟨i,hi,e⟩|⟨l,hl,e⟩
    ·have h1:=hx.2 i hi;rw[ipf i x hi (fun k hk=>by rw[h0 k hk];grind)]at h1;rw[<-e];exact h1
    ·rw[<-e];exact h0 l hl
   ·exact hx.1 c (by omega)
 refine⟨zS n r f P F,F,KQ,hrn,?_,gZ,fun y=>⟨fun hy=>?_,fun hy=>?_⟩⟩
 ·obtain⟨D,A,h0,h1,h2⟩:=hb;have hD:=iK h0;refine⟨D,fun k c=>if h:∃i,i<r/\lZ n (P i)=c then-A (Classical.choose h) (F k)else if c=F k then D else 0,h0,h1,fun k hk c=>?_⟩;unfold zS;by_cases hx:∃i,i<r/\lZ n (P i)=c
  ·have h3:=(Classical.choose_spec hx).1;have h4:=h2 _ (aNU h3 hle) (F k);simp only[dif_pos hx];rw[h4.1,Int.natAbs_neg,Rat.intCast_neg];exact⟨by grind,h4.2⟩
  ·simp only[dif_neg hx]
   split
   ·exact⟨by grind,h1⟩
   ·exact⟨by grind,by simp⟩
 ·
  have hl:=mJ n (n-r) (zS n r f P F);have hfm:∀i,i<r->iY n (n-r) (zS n r f P F) (f i):=fun i hi=>⟨fun c hc=>hw i (by omega) c hc,fun k hk=>by rw[jD];exact I3 k i hk hi⟩
  have h1:iY n (n-r) (zS n r f P F) (fun c=>y c+(-1)*jo (fun i=>y (lZ n (P i))*f i c) r):=hl.pO _ _ _ (-1) hy (hl.Zw (fun i=>y (lZ n (P i))) hfm) (fun c=>rfl);have hz:∀z:FV,(∀c,z c=y c+(-1)*jo (fun i=>y (lZ n (P i))*f i c) r)->iY n (n-r) (zS n r f P F) z->∀c,z c=0:=by
   intro z ez oz;have zp:∀i,i<r->z (lZ n (P i))=0:=by
    intro i hi;rw[ez,mL (k:=i) hi (fun j hj dM=>by rw[sH j i hj hi,if_neg dM];grind),sH i i hi hi,if_pos rfl]
    grind
   have zf:∀k,k<n-r->z (F k)=0:=by
    intro k hk;have h2:=oz.2 k hk;unfold ip at h2;rw[mL (k:=F k) (N9 k hk),gF k k hk,if_pos rfl,Rat.one_mul]at h2
    ·exact h2
    ·intro c hc dM;rcases R4 c hc with⟨i,hi,e⟩|⟨l,hl,e⟩
     ·rw[<-e,zp i hi,aVW]
     ·rw[<-e,gF k l hl,if_neg (fun e2=>dM (by rw[<-e,e2])),aVU]
   intro c;by_cases hc:c<n
   ·rcases R4 c hc with⟨i,hi,e⟩|⟨l,hl,e⟩
    ·rw[<-e];exact zp i hi
    ·rw[<-e];exact zf l hl
   ·exact oz.1 c (by omega)
  have h2:=hz _ (fun c=>rfl) h1;exact((jn (SR r f)).Zw (fun i=>y (lZ n (P i))) (fun i hi=>eK.of (SR.get hi))).ext (fun c=>by have:=h2 c;grind)
 ·exact(mJ n (n-r) _).Yb (fun a ⟨i,hi,e⟩=>(mJ n (n-r) _).ext (x:=f i) ⟨fun c hc=>hw i (by omega) c hc,fun k hk=>by rw[jD];exact I3 k i hk hi⟩ e) hy
end Go.Proofs.dN
namespace Go.Proofs.dN
def tZ(n:Nat)(row line:FV)(x:FV):FV:=fun c=>x c+(-(ip n row x/ip n row line))*line c
theorem G8{n:Nat}{row line x:FV}(h:ip n row line≠0):ip n row (tZ n row line x)=0:=by
 unfold tZ;rw[od (x:=x) (y:=line) (q:= -(ip n row x/ip n row line)) (fun c=>rfl)]
 grind
def JG(n:Nat)(row:FV)(l:Nat->FV)(at':Nat)(i:Nat):FV:=tZ n row (l at') (l (if i<at' then i else i+1))
def Gp(n m:Nat)(S:FV->Prop)(l:Nat->FV):Prop:=∀x,(eK (SR m l) x↔((∀c,n<=c->x c=0)/\∀a,S a->ip n a x=0))
theorem Gp.start{n:Nat}{l:Nat->FV}(h:∀i,i<n->∀c,l i c=if c=i then 1 else 0):Gp n n (fun _=>False) l:=by
 intro x;refine⟨fun hx=>⟨?_,fun a ha=>ha.elim⟩,fun⟨h1,_⟩=>?_⟩
 ·intro c hc;obtain⟨q,hq⟩:=uW hx;rw[hq c];exact gw (fun i hi=>by rw[h i hi,if_neg (by omega)];grind)
 ·refine((jn (SR n l)).Zw (fun i=>x i) (fun i hi=>eK.of (SR.get hi))).ext (fun c=>?_);by_cases hc:c<n
  ·rw[mL (k:=c) hc (fun i hi dM=>by rw[h i hi,if_neg (fun e=>dM e.symm)];grind),h c hc,if_pos rfl]
   grind
  ·rw[h1 c (by omega),gw (fun i hi=>by rw[h i hi,if_neg (by omega)];grind)]
theorem Gp.split{n m:Nat}{S:FV->Prop}{l:Nat->FV}(h:Gp n m S l){row:FV}{at':Nat}(ha:at'<m)(dM:ip n row (l at')≠0):Gp n (m-1) (fun a=>S a∨a=row) (JG n row l at'):=by
 intro x;have aa2:∀i,i<m-1->(if i<at' then i else i+1)<m:=by intro i hi;split<;>omega
 refine⟨fun hx=>?_,fun⟨h1,h2⟩=>?_⟩
 ·have hx':eK (SR m l) x:=eK.trans (fun a ⟨i,hi,e⟩=>eK.pO (-(ip n row (l (if i<at' then i else i+1))/ip n row (l at'))) (eK.of (SR.get (aa2 i hi))) (eK.of (SR.get ha)) (fun c=>by rw[e];rfl)) hx;have h3:=(h x).1 hx';refine⟨h3.1,fun a hS=>?_⟩;rcases hS with hS|rfl
  ·exact h3.2 a hS
  ·have hl:Lsp (fun y=>ip n a y=0):=⟨fun y hy=>gw (fun i _=>by rw[hy];grind),fun y z w q hy hz e=>by rw[od e,hy,hz];grind⟩;exact hl.Yb (fun b ⟨i,hi,e⟩=>by rw[oU (fun _=>rfl) e];exact G8 dM) hx
 ·have hx:eK (SR m l) x:=(h x).2 ⟨h1,fun a hS=>h2 a (.inl hS)⟩;have h0:=h2 row (.inr rfl);have key:∀y,eK (SR m l) y->eK (SR (m-1) (JG n row l at')) (tZ n row (l at') y):=by
   intro y hy;induction hy with
   |zero e=>exact .zero (fun c=>by unfold tZ;rw[e,show ip n row _=0 from gw (fun i _=>by rw[e];grind)];grind)
   |@step u a w q hu TZ e ih=>
    obtain⟨i,hi,ea⟩:=TZ;have e1:∀c,tZ n row (l at') w c=tZ n row (l at') u c+q*tZ n row (l at') a c:=by
     intro c;unfold tZ;rw[od e,e]
     grind
    by_cases uM:i=at'
    ·refine ih.ext (fun c=>?_);rw[e1]
     have:tZ n row (l at') a c=0:=by
      unfold tZ;rw[oU (fun _=>rfl) ea,ea,uM]
      grind
     rw[this];grind
    ·have e2:∀c,tZ n row (l at') a c=JG n row l at' (if i<at' then i else i-1) c:=by
      intro c;unfold JG
      have:(if(if i<at' then i else i-1)<at' then(if i<at' then i else i-1)else(if i<at' then i else i-1)+1)=i:=by
       split<;>(repeat' split)<;>omega
      rw[this];unfold tZ;rw[oU (fun _=>rfl) ea,ea]
     refine .step q ih (SR.get (i:=if i<at' then i else i-1) (by split<;>omega)) (fun c=>?_);rw[e1,e2]
  refine(key x hx).ext (fun c=>?_);unfold tZ;rw[h0]
  grind
theorem Gp.keep{n m:Nat}{S:FV->Prop}{l:Nat->FV}(h:Gp n m S l){row:FV}(hz:∀i,i<m->ip n row (l i)=0):Gp n m (fun a=>S a∨a=row) l:=by
 intro x;rw[h x];refine⟨fun⟨h1,h2⟩=>⟨h1,fun a ha=>?_⟩,fun⟨h1,h2⟩=>⟨h1,fun a ha=>h2 a (.inl ha)⟩⟩;rcases ha with ha|rfl
 ·exact h2 a ha
 ·have hl:Lsp (fun y=>ip n a y=0):=⟨fun y hy=>gw (fun i _=>by rw[hy];grind),fun y z w q hy hz e=>by rw[od e,hy,hz];grind⟩;exact hl.Yb (fun b ⟨i,hi,e⟩=>by rw[oU (fun _=>rfl) e];exact hz i hi) ((h x).2 ⟨h1,h2⟩)
theorem Gp.congr{n m:Nat}{S T:FV->Prop}{l:Nat->FV}(h:Gp n m S l)(e:∀x:FV,(∀a,S a->ip n a x=0)↔(∀a,T a->ip n a x=0)):Gp n m T l:=by intro x;rw[h x,e x]
def CV(b:Nat)(x:FV):Prop:=∃(D:Int) (A:Nat->Int),D≠0/\D.natAbs<=2^b/\∀c,x c=(A c:Rat)/(D:Rat)/\(A c).natAbs<=2^b
theorem CV.mono{b b':Nat}{x:FV}(h:CV b x)(hb:b<=b'):CV b' x:=by
 obtain⟨D,A,h0,h1,h2⟩:=h
 have:=aRX (n:=2) (by omega) hb
 exact⟨D,A,h0,by omega,fun c=>⟨(h2 c).1,by have:=(h2 c).2;omega⟩⟩
theorem CB.row{b M:Nat}{f:Nat->FV}(h:CB b M f){i:Nat}(hi:i<M):CV b (f i):=by obtain⟨D,A,h0,h1,h2⟩:=h;exact⟨D,A i,h0,h1,fun c=>h2 i hi c⟩
def xg(f:Nat->Int):Nat->Int
 |0=>0
 |i+1=>xg f i+f i
theorem Dl{f:Nat->Int}{B:Nat}:∀{n:Nat},(∀i,i<n->(f i).natAbs<=B)->(xg f n).natAbs<=n*B
 |0,_=>by simp[xg]
 |n+1,h=>by
  have h1:=Dl (n:=n) (fun i hi=>h i (by omega));have h2:=h n (by omega);rw[xg,Nat.succ_mul];omega
theorem Ar{a x:FV}{A X:Nat->Int}{D E:Int}(hD:(D:Rat)≠0)(hE:(E:Rat)≠0):∀{n:Nat},(∀i,i<n->a i=(A i:Rat)/(D:Rat))->(∀i,i<n->x i=(X i:Rat)/(E:Rat))->ip n a x=(xg (fun i=>A i*X i) n:Rat)/((D:Rat)*(E:Rat))
 |0,_,_=>by simp only[ip,jo,xg,Rat.intCast_zero];grind
 |n+1,h,h'=>by
  have:=Ar (n:=n) hD hE (fun i hi=>h i (by omega)) (fun i hi=>h' i (by omega))
  unfold ip at this⊢;rw[jo,this,h n (by omega),h' n (by omega),xg,Rat.intCast_add,aVR]
  grind
theorem CV.tZ{n b k:Nat}{row line x:FV}(hr:CV b row)(hl:CV k line)(hx:CV k x)(hn:n<=8)(dM:ip n row line≠0):CV (2*k+b+4) (tZ n row line x):=by
 obtain⟨D,A,d0,d1,d2⟩:=hr;obtain⟨E,L,e0,e1,e2⟩:=hl;obtain⟨G,X,g0,g1,g2⟩:=hx;have qD:=iK d0;have qE:=iK e0;have qG:=iK g0;have sl:=Ar (n:=n) qD qE (fun i _=>(d2 i).1) (fun i _=>(e2 i).1);have sx:=Ar (n:=n) qD qG (fun i _=>(d2 i).1) (fun i _=>(g2 i).1);have bl:(xg (fun i=>A i*L i) n).natAbs<=n*(2^b*2^k):=Dl (fun i _=>by rw[aVS];exact iA (d2 i).2 (e2 i).2);have bx:(xg (fun i=>A i*X i) n).natAbs<=n*(2^b*2^k):=Dl (fun i _=>by rw[aVS];exact iA (d2 i).2 (g2 i).2);rw[sl]at dM;have hs:xg (fun i=>A i*L i) n≠0:=by intro e;rw[e]at dM;apply dM;grind
 have hsq:=iK hs;have hn8:n*(2^b*2^k)<=8*(2^b*2^k):=Nat.mul_le_mul_right _ hn;have ah8:2^(2*k+b+4)=2*(8*(2^b*2^k)*2^k):=by rw[show 2*k+b+4=4+((b+k)+k)by omega,aR3,aR3,aR3];rw[show(2:Nat)^4=2*8 from rfl,aQl,aQl 8]
 refine⟨G*xg (fun i=>A i*L i) n,fun c=>X c*xg (fun i=>A i*L i) n-xg (fun i=>A i*X i) n*L c,Int.mul_ne_zero g0 hs,?_,fun c=>⟨?_,?_⟩⟩
 ·rw[aVS,ah8]
  have:=iA (aNR bl hn8) g1
  rw[Nat.mul_comm]at this;omega
 ·unfold dN.tZ;rw[sl,sx,(g2 c).1,(e2 c).1,Rat.intCast_sub,aVR,aVR,aVR]
  grind
 ·have h1:=iA (aNR bl hn8) (g2 c).2;have h2:=iA (aNR bx hn8) (e2 c).2;rw[<-aVS]at h1 h2;rw[ah8];rw[Int.mul_comm]at h1;simp only;omega
end Go.Proofs.dN
