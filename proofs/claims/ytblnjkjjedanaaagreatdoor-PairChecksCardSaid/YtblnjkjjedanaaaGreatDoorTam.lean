/- A part of the proof that PairChecks returns true for every input; no condition of its own. -/
import Derived.Test.YtblnjkjjedanaaaGreatDoorTal
set_option linter.all false
set_option maxHeartbeats 100000000
set_option maxRecDepth 100000
open List renaming getD_eq_getElem?_getD->aQP,length_append->aMf,getElem?_eq_getElem->aL5,length_map->aTV,append_assoc->aRd,not_mem_nil->aS7,take_length->aQV,mem_cons->aMc,getElem?_map->aLI,getElem?_append_left->aNq,cons_append->aPr,nil_append->aPg,length_cons->aMm,mem_map->aMg,drop_zero->aPp,take->aUr,ext_getElem->aRt,getElem_mem->aMn,map_map->aVE,getElem?_cons_zero->aPa,length_nil->aO9,getElem_of_mem->aTU,all_eq_true->aLN,map->aVI
open Nat renaming le_trans->aNm,gcd_dvd_left->aSF,one_le_two_pow->aVx,pow_le_pow_right->aQT,mul_le_mul_left->aPQ,dvd_trans->aVz,gcd->aSG,mul_le_mul_right->aLL,gcd_dvd_right->aUw,pow_add->aQ3,zero_le->aVe,mul_assoc->aPv,reducePow->aVA,mul_le_mul->aQY,eq_zero_or_pos->aVC,dvd_lcm_right->aVD,gcd_zero_left->aS1,dvd_lcm_left->aVF,div_le_self->aQ9,add_assoc->aKU,zero_add->aLM,lcm_dvd->aVH,reduceLT->aa,reduceEqDiff->ae,reduceAdd->ah,reduceLeDiff->ai,reduceBEq->aj,reduceMul->ak
open Rat renaming intCast_mul->aUo,intCast_neg->aVy,divInt_eq_div->aVc,intCast_add->aVB,intCast_sub->aVG,divInt->aSu
open Int renaming natAbs_mul->aUq,natAbs_natCast->aSv,reduceLE->an,reduceLT->ao,reduceToNat->aq,reduceGT->ar,reduceAdd->aA,reduceBEq->aD,reduceBNe->aE
open Option renaming getD_some->aMp,some->aKV
namespace Go.Proofs.YtblnjkjjedanaaaGreatDoor
open Go Dv Dv.b7
open Go.Proofs.kY
variable{E:Env}[C:Ctx E]
abbrev rf(rows:List (List Rat)):Nat->FV:=fun i=>fv (row rows i)
theorem NS{n b:Nat}{rows:List (List Rat)}(hw:nJ rows n)(hb:CR b rows):∃f0:Nat->FV,CB b rows.length f0/\(∀i,i<rows.length->∀c,n<=c->f0 i c=0)/\∀x,gy (SR rows.length f0) x↔gy (SR rows.length (rf rows)) x:=by
 have h1:∀i,∃p:Int×(Nat->Int),i<rows.length->p.1≠0/\p.1.natAbs<=2^b/\∀c,fv (row rows i) c=(p.2 c:Rat)/(p.1:Rat)/\(p.2 c).natAbs<=2^b:=by
  intro i;by_cases h:i<rows.length
  ·obtain⟨D,A,h0,h1,h2⟩:=hb i h;exact⟨(D,A),fun _=>⟨h0,h1,h2⟩⟩
  ·exact⟨(1,fun _=>0),fun hh=>absurd hh h⟩
 obtain⟨g,hg⟩:=Classical.skolem.1 h1;have key:∀i,i<rows.length->∀c,fv (row rows i) c=(1/((g i).1:Rat))*(((g i).2 c:Int):Rat)/\(((g i).2 c:Int):Rat)=((g i).1:Rat)*fv (row rows i) c:=by
  intro i hi c;obtain⟨a1,a2,a3⟩:=hg i hi
  have:=fH a1
  rw[(a3 c).1];constructor<;>grind
 refine⟨fun i c=>(((g i).2 c:Int):Rat),⟨1,fun i c=>(g i).2 c,by decide,aVx,fun i hi c=>⟨?_,((hg i hi).2.2 c).2⟩⟩,fun i hi c hc=>?_,fun x=>⟨gy.trans ?_,gy.trans ?_⟩⟩
 ·simp only[Rat.intCast_one]
  grind
 ·show(((g i).2 c:Int):Rat)=0
  rw[(key i hi c).2,show fv (row rows i) c=0 from sO (hw i hi) hc]
  grind
 ·rintro a ⟨i,hi,e⟩;exact gy.uB (x:=fun _=>0) ((g i).1:Rat) (.zero fun _=>rfl) (gy.of (SR.get (f:=rf rows) hi)) (fun c=>by rw[e];show(((g i).2 c:Int):Rat)=0+((g i).1:Rat)*fv (row rows i) c;rw[(key i hi c).2];grind)
 ·rintro a ⟨i,hi,e⟩;exact gy.uB (x:=fun _=>0) (1/((g i).1:Rat)) (.zero fun _=>rfl) (gy.of (SR.get (f:=fun i c=>(((g i).2 c:Int):Rat)) hi)) (fun c=>by rw[e];show fv (row rows i) c=_;rw[(key i hi c).1];grind)
theorem DW{n m m':Nat}{l l':Nat->FV}(h:∀x,gy (SR m l) x↔gy (SR m' l') x)(x:FV):uS n m l x↔uS n m' l' x:=by
 have aux:∀{m m':Nat} {l l':Nat->FV},(∀x,gy (SR m l) x↔gy (SR m' l') x)->uS n m l x->uS n m' l' x:=by
  intro m m' l l' h hx;refine⟨hx.1,fun i hi=>?_⟩;have h1:=(h (l' i)).2 (gy.of (SR.get hi));have hl:Lsp (fun y=>ip n y x=0):=⟨fun y hy=>by rw[yj];exact jx (fun i _=>by rw[hy];grind),fun y z w q hy hz e=>by rw[yj,x8 e,yj (a:=x),yj (a:=x),hy,hz];grind⟩;exact hl.spn (fun a ⟨j,hj,e⟩=>by rw[wO e (fun _=>rfl)];exact hx.2 j hj) h1
 exact⟨aux h,aux (fun x=>(h x).symm)⟩
theorem St.aoj{n M r:Nat}{f:Nat->FV}{P:Nat->Nat}{W:FV->Prop}{sn:Nat->Nat}(h:St n M n r sn f P W)(azN:∀c,c<n->∃t,t<n/\sn t=c)(hw:∀i,i<M->∀c,n<=c->f i c=0)(i:Nat)(hi:r<=i)(hM:i<M)(c:Nat):f i c=0:=by
 by_cases hc:c<n
 ·obtain⟨t,ht,e⟩:=azN c hc;rw[<-e];exact h.zero i t hi hM ht
 ·exact hw i hM c (by omega)
theorem Nd{n b:Nat}{eqs R:List (List Rat)}{P:Nat->Nat}(hw:nJ eqs n)(hb:CR b eqs)(hE:rN n R.length (fun i=>iN R i) P (uS n eqs.length (rf eqs))):
  ∃r,r<=eqs.length/\r<=n/\R.length=n-r/\CB (gB b r) R.length (rf R)/\∀y,uS n R.length (rf R) y↔gy (SR eqs.length (rf eqs)) y:=by
 obtain⟨f0,HR,hw0,OF⟩:=NS hw hb;obtain⟨r,f,P',fZ,Oz,hwf⟩:=Kp (sn:=mF n) HR hw0 n;have hz:=St.aoj fZ (fun c hc=>⟨mF n c,xR hc,qY hc⟩) hwf;have qo:∀x,gy (SR r f) x↔gy (SR eqs.length (rf eqs)) x:=fun x=>(fZ.fin hz x).symm.trans (OF x)
 obtain⟨g,F,hg,hrn,hgb,hgw,hgo⟩:=Qz fZ hwf Oz;have hg':=hg.congr (V:=uS n eqs.length (rf eqs)) (DW qo);obtain⟨hlen,-,Gy⟩:=hE.uniq hg' (At _ _ _);refine⟨r,fZ.le,hrn,hlen,?_,fun y=>?_⟩
 ·obtain⟨D,A,d0,d1,d2⟩:=hgb;exact⟨D,A,d0,d1,fun i hi c=>by show iN R i c=_/\_;rw[Gy i hi c];exact d2 i (by omega) c⟩
 ·rw[<-qo,<-hgo y];unfold uS;refine and_congr Iff.rfl ⟨fun h i hi=>?_,fun h i hi=>?_⟩
  ·rw[wO (b:=rf R i) (fun c=>(Gy i (by omega) c).symm) (fun _=>rfl)];exact h i (by omega)
  ·rw[wO (a:=rf R i) (b:=g i) (fun c=>Gy i hi c) (fun _=>rfl)];exact h i (by omega)
theorem Fb{n b:Nat}{rows G:List (List Rat)}{P:Nat->Nat}(hw:nJ rows n)(hb:CR b rows)(hE:rN n G.length (fun i=>iN G i) P (gy (SR rows.length (rf rows)))):G.length<=rows.length/\G.length<=n/\CB (gB b G.length) G.length (rf G):=by
 obtain⟨f0,HR,hw0,OF⟩:=NS hw hb;obtain⟨r,f,P',fZ,Oz,hwf⟩:=Kp (sn:=fun t=>t) HR hw0 n;have hz:=St.aoj fZ (fun c hc=>⟨c,hc,rfl⟩) hwf;have hE':=(fZ.ech (Nat.le_refl n) hz).congr OF;obtain⟨hlen,hP,Gy⟩:=hE.uniq hE' (oZ _);subst hlen;refine⟨fZ.le,?_,?_⟩
 ·rcases aVC G.length with h0|h0
  ·omega
  ·
   have:∀i,i<G.length->i<=P i:=by
    intro i;induction i with
    |zero=>intro _;omega
    |succ i ih=>
     intro hi;have h1:=ih (by omega);have h2:=hE.mono i (i+1) (by omega) hi;omega
   have h1:=this (G.length-1) (by omega);have h2:=hE.lt (G.length-1) (by omega);omega
 ·obtain⟨D,A,d0,d1,d2⟩:=Oz;exact⟨D,A,d0,d1,fun i hi c=>by show iN G i c=_/\_;rw[Gy i hi c];exact d2 i (by have:=fZ.le;omega) c⟩
theorem Fv{n:Nat}{R R':List (List Rat)}{P P':Nat->Nat}{W:FV->Prop}(hW:Lsp W)(h:rN n R.length (fun i=>iN R i) P W)(h':rN n R'.length (fun i=>iN R' i) P' W)(hw:nJ R n)(hw':nJ R' n):R=R':=by
 obtain⟨hl,-,he⟩:=h.uniq h' hW;refine aRt hl (fun i h1 h2=>?_);have e1:row R i=R[i]:=by unfold row;rw[aQP,aL5 h1];rfl
 have e2:row R' i=R'[i]:=by unfold row;rw[aQP,aL5 h2];rfl
 rw[<-e1,<-e2];refine aRt (by rw[hw i h1,hw' i h2]) (fun c h3 h4=>?_)
 have:=he i h1 c
 unfold iN at this;rw[aQP,aL5 h3,aQP,aL5 h4]at this;exact this
theorem Xr{b:Nat}{R:List (List Rat)}(h:CB b R.length (rf R)):CR b R:=fun i hi=>h.row hi
theorem R3{b:Nat}:∀{m:Nat},lB b m+(b+4)=2^m*(b+4)
 |0=>by simp[lB]
 |m+1=>by
  have:=R3 (b:=b) (m:=m)
  rw[lB,Nat.pow_succ,Nat.mul_comm (2^m) 2,aPv];omega
theorem Gm{b r:Nat}:gB b r+1=2^r*(b+1):=by
 unfold gB
 have:0<2^r*(b+1):=Nat.mul_pos (Nat.pow_pos (by omega)) (by omega)
 omega
structure Small(n b m:Nat):Prop where
 a:10^n*(b+4)<=10000000000
 s:2^n*(b+4)<=490000
 t:2^m*(b+1)<=98000
 m:m<=n
theorem Small.one{n b m m':Nat}(h:Small n b m)(hm:m'<=n):5^n*(lB b m'+1)<=10000000000/\b+lB b m'+2<=500000:=by
 have h1:=R3 (b:=b) (m:=m');have h2:2^m'*(b+4)<=2^n*(b+4):=aLL _ (aQT (by omega) hm);have h3:5^n*(2^n*(b+4))=10^n*(b+4):=by rw[<-aPv,<-Nat.mul_pow]
 have h4:=h.s;refine⟨aNm (aPQ _ (by omega)) (aNm (Nat.le_of_eq h3) h.a),by omega⟩
theorem Small.two{n b m r:Nat}(h:Small n b m)(hr:r<=n):5^n*(lB (gB b r) (n-r)+1)<=10000000000/\gB b r+lB (gB b r) (n-r)+2<=500000:=by
 have h1:=R3 (b:=gB b r) (m:=n-r);have h5:=Gm (b:=b) (r:=r);have h2:2^(n-r)*(gB b r+4)<=2^n*(b+4):=by
  have e1:2^n=2^(n-r)*2^r:=by rw[<-aQ3,Nat.sub_add_cancel hr]
  have e2:1<=2^r:=aVx;rw[e1,aPv];refine aPQ _ ?_;rw[show b+4=(b+1)+3 by omega,Nat.mul_add,<-h5];omega
 have h3:5^n*(2^n*(b+4))=10^n*(b+4):=by rw[<-aPv,<-Nat.mul_pow]
 have h4:=h.s;refine⟨aNm (aPQ _ (by omega)) (aNm (Nat.le_of_eq h3) h.a),by omega⟩
theorem BN{n b:Nat}{ev:AV}{eqs:List (List Rat)}(he:vt ev eqs n)(hw:nJ eqs n)(h0:0<n)(hn:n<=8)(hR:eqs.length<=256)(hb:CR b eqs)(zg:5^n*(lB b eqs.length+1)<=10000000000/\b+lB b eqs.length+2<=500000):
  ∃o G P,aP E 53 [.int .i64 (n:Int),ev,.aH]=some (.tuple [.agg [.int .i64 (n:Int),o,.aH],.int .i64 0])/\vJ o G/\nJ G n/\rN n G.length (fun i=>iN G i) P (uS n eqs.length (rf eqs)):=by
 obtain⟨r,G,P,hbo,⟨o,rfl,ho⟩,Ud,hE⟩:=AU (E:=E) he hw h0 hn hR hb zg.1 zg.2;refine⟨o,G,P,?_,ho,Ud,hE⟩;have po:aU o=true/\df o=true/\o.cells=[o]:=by rcases ho with⟨-,rfl⟩|⟨-,rfl⟩<;>exact⟨rfl,rfl,rfl⟩
 have pev:=he.pure;refine dX ?_;refine Vy awA ?_;intro ts hl g0 g1 g2;unfold c53;simp only[↓aN,aO,↓aQ,aJ,↓reduceIte,aa,ah,ae,Tryz.f53,ar,hl,g0,g1,g2,hbo,po,pev]
theorem vJ.mO{v:AV}{G:List (List Rat)}(h:vJ v G):aU v=true/\df v=true/\v.cells=[v]:=by rcases h with⟨-,rfl⟩|⟨-,rfl⟩<;>exact⟨rfl,rfl,rfl⟩
theorem vt.mO{v:AV}{G:List (List Rat)}{n:Nat}(h:vt v G n):aU v=true/\df v=true/\v.cells=[v]:=by rcases h with⟨-,rfl⟩|⟨-,vs,rfl,-⟩<;>exact⟨rfl,rfl,rfl⟩
theorem DG:aP E 54 [.aH]=some .aH:=kr (n:=60) (by kernel_rfl) (by kernel_rfl)
theorem afl{b:Nat}{R:List (List Rat)}(h:CB b R.length (rf R)):rH (b+1) R:=fun i hi=>As (h.row hi)
theorem EW{n b:Nat}{lv:AV}{L:List (List Rat)}(he:vt lv L n)(hw:nJ L n)(h0:0<n)(hn:n<=8)(hb:CR b L)(hs:Small n b L.length):
  ∃o G P,aP E 21 [.int .i64 (n:Int),lv,.aH]=some (.tuple [.agg [.int .i64 (n:Int),o,.aH],.int .i64 0])/\vJ o G/\nJ G n/\rN n G.length (fun i=>iN G i) P (gy (SR L.length (rf L))):=by
 have hsm:=hs.m;obtain⟨o1,R,P1,vM,ho1,hRw,hE1⟩:=BN (E:=E) he hw h0 hn (by omega) hb (hs.one hs.m);obtain⟨r,Cg,G5,hRl,hRb,hRo⟩:=Nd hw hb hE1;have hRk:gB b r+1<=98000:=by rw[Gm];exact aNm (aLL _ (aQT (by omega) Cg)) hs.t
 obtain⟨tv,htr,htv⟩:=AT (E:=E) ho1 hRw (afl hRb) hRk (by omega) (by omega);have h2:=hs.two G5;rw[<-hRl]at h2;obtain⟨o2,G,P2,tz,VY,Ud,hE2⟩:=BN (E:=E) htv hRw h0 hn (by omega) (Xr hRb) h2;refine⟨o2,G,P2,?_,VY,Ud,hE2.congr hRo⟩;have m1:=ho1.mO;have m2:=VY.mO;have m3:=he.mO;have m4:=htv.mO;have htn:=DG (E:=E);refine dX ?_;refine Vy awe ?_;intro ts hl g0 g1 g2;unfold c21;simp only[↓aN,aO,↓aQ,aJ,↓reduceIte,aa,ah,ae,Tryz.f21,aE,hl,g0,g1,g2,vM,htr,htn,tz,m1,m2,m3,m4]
theorem zu{n b:Nat}{lv:AV}{L:List (List Rat)}(he:vJ lv L)(hw:nJ L n)(h0:0<n)(hn:n<=8)(hb:CR b L)(hs:Small n b L.length):
  ∃o G P,aP E 7 [.int .i64 (n:Int),lv,.aH]=some (.tuple [.agg [.int .i64 (n:Int),o,.aH],.int .i64 0])/\vJ o G/\nJ G n/\rN n G.length (fun i=>iN G i) P (gy (SR L.length (rf L))):=by
 have hsm:=hs.m;have Ho:b+1<=98000:=by
  have:=hs.t
  have h2:1*(b+1)<=2^L.length*(b+1):=aLL _ aVx;omega
 obtain⟨rv,qh,VK⟩:=um (E:=E) (most:=24) he hw hb.ME Ho (by omega) (by omega) (by omega);obtain⟨rn,Ym,hrn⟩:=um (E:=E) (most:=256) (n:=n) (k:=1) (G:=[]) (v:=.aH) (.inl ⟨rfl,rfl⟩) (fun i hi=>absurd hi (by simp)) (fun i hi=>absurd hi (by simp)) (by omega) (by omega) (by simp) (by omega);have ah4:rn=.aH:=by
  rcases hrn with⟨-,rfl⟩|⟨h9,-⟩
  ·rfl
  ·exact absurd rfl h9
 subst ah4;rw[show((24:Nat):Int)=24 from rfl]at qh;rw[show((256:Nat):Int)=256 from rfl]at Ym;obtain⟨o,G,P,hg,ho,Ud,hE⟩:=EW (E:=E) VK hw h0 hn hb hs;refine⟨o,G,P,?_,ho,Ud,hE⟩;have m1:=ho.mO;have m3:=he.mO;have m4:=VK.mO;have d1:decide ((n:Int)<1)=false:=cg (by omega);have d2:decide ((n:Int)>8)=false:=cg (by omega);refine dX ?_;refine Vy fn7 ?_;intro ts hl g0 g1 g2;unfold c7;simp only[↓aN,aO,↓aQ,aJ,↓reduceIte,aa,ah,ae,Tryz.f7,aE,hl,g0,g1,g2,d1,d2,qh,Ym,hg,m1,m3,m4]
end Go.Proofs.YtblnjkjjedanaaaGreatDoor
namespace Go.Proofs.YtblnjkjjedanaaaGreatDoor
open Go Dv Dv.b7
variable{E:Env}[C:Ctx E]
def SV(ss:List (List UInt8)):AV:=.aK (ss.map AV.str) ss.length
def TV(v:AV)(rows:List (List (List UInt8))):Prop:=(rows=[]/\v=.aH)∨(rows≠[]/\v=.aK (rows.map SV) rows.length)
theorem WI{ss:List (List UInt8)}{i:Nat}(h:i<ss.length):(ss.map AV.str).getD i aZ=.str (ss.getD i []):=by rw[aQP,aLI,aQP,aL5 h];rfl
theorem YC{rows:List (List (List UInt8))}{i:Nat}(h:i<rows.length):(rows.map SV).getD i aZ=SV (rows.getD i []):=by rw[aQP,aLI,aQP,aL5 h];rfl
theorem oN{α:Type}{s t:List α}{d:α}(hl:s.length=t.length)(h:∀i,i<s.length->s.getD i d=t.getD i d):s=t:=by
 refine aRt hl (fun i h1 h2=>?_)
 have:=h i h1
 rw[aQP,aL5 h1,aQP,aL5 h2]at this;exact this
theorem DA{s t:List (List UInt8)}(hs:s.length<=1000)(ht:t.length<=1000):aP E 61 [SV s,SV t]=some (.bool (decide (s=t))):=by
 refine dX ?_;refine tp axP ?_;intro ts hl g0 g1;unfold c61;have l1:k9 (SV s)=some (s.length:Int):=rfl;have l2:k9 (SV t)=some (t.length:Int):=rfl;by_cases OA:s.length=t.length
 ·have dn:((s.length:Int)!=(t.length:Int))=false:=by rw[OA];simp
  simp only[↓aN,aO,aJ,aa,ae,Tryz.f61,hl,g0,g1,l1,l2,dn];refine ft (fun k_ ts H=>∃i,k_=s.length-i/\ts.length=26/\gt ts 0=.aK (s.map AV.str) s.length/\gt ts 1=.aK (t.map AV.str) t.length/\gt ts 11=.aK (s.map AV.str) s.length/\gt ts 12=.int .i64 (s.length:Int)/\gt ts 13=.int .i64 (i:Int)/\H=[]/\(i<=s.length)/\(∀j,j<i->s.getD j []=t.getD j [])) (s.length) ?_ ?_
  rotate_left
  ·refine⟨0,(by first|omega|rfl|(simp;done)),(by simp only[cP,hl]),?_⟩;simp only[cR,hl,aa,ae,g0,g1]
   iterate 6 refine⟨by first|trivial|rfl|(congr 1;omega)|(simp;done)|(simp;omega),?_⟩
   refine⟨?_,?_⟩
   ·omega
   ·intro j hj;omega
  clear hl g0 g1 ts;rintro k_ ts H ⟨i,rfl,hl,g0,g1,g11,g12,g13,rfl,hi,he⟩;refine VS ?_;by_cases hd:i<s.length
  ·have dc:decide ((i:Int)<(s.length:Int))=true:=b8 (by omega);have mM:((i:Int)<(s.length:Int))=True:=eq_true (by omega);have ca2:((i:Int)<(t.length:Int))=True:=eq_true (by omega);have w1:aX .i64 ((i:Int)+1)=((i+1:Nat):Int):=by rw[wrap_i64 (by omega) (by omega)];omega
   have p1:=fX (vs:=s.map AV.str) (i:=i) (by rw[aTV];exact hd);have p2:=fX (vs:=t.map AV.str) (i:=i) (by rw[aTV];omega);rw[WI hd]at p1;rw[WI (by omega)]at p2;have IL:∀a b,dC E false .neq 26 (.str a) (.str b)=some (.bool (!(a==b))):=fun a b=>rfl
   by_cases heq:s.getD i []=t.getD i []
   ·have hb:(s.getD i []==t.getD i [])=true:=by rw[heq];exact beq_self_eq_true _
    simp only[↓aN,aO,aJ,↓reduceIte,aa,ah,ae,hl,g0,g1,g12,g13,mM,ca2,w1,p1,p2,IL,hb];refine dG ?_;refine⟨_,?_,i+1,rfl,(by simp only[cP,hl]),?_⟩
    ·first|omega|(simp;omega)
    simp only[cR,hl,aa,ae,g0,g1,g11,g12]
    iterate 6 refine⟨by first|trivial|rfl|(congr 1;omega)|(simp;done)|(simp;omega),?_⟩
    refine⟨?_,?_⟩
    ·omega
    ·intro j hj;by_cases Ow:j=i
     ·rw[Ow];exact heq
     ·exact he j (by omega)
   ·have hb:(s.getD i []==t.getD i [])=false:=beq_eq_false_iff_ne.2 heq;have dY:decide (s=t)=false:=cg (fun e=>heq (by rw[e]));simp only[↓aN,aO,aJ,↓reduceIte,aa,ah,ae,hl,g0,g1,g12,g13,mM,ca2,p1,p2,IL,hb];rw[dY]
  ·have dc:decide ((i:Int)<(s.length:Int))=false:=cg (by omega);have fZ:decide (s=t)=true:=b8 (oN OA (fun j hj=>he j (by omega)));simp only[↓aN,aO,↓reduceIte,aa,hl,g12,g13,dc];rw[fZ]
 ·have dn:((s.length:Int)!=(t.length:Int))=true:=by rw[bne_iff_ne];omega
  have dY:decide (s=t)=false:=cg (fun e=>OA (by rw[e]));simp only[↓aN,aO,aJ,aa,ae,Tryz.f61,hl,g0,g1,l1,l2,dn];rw[dY]
theorem Dj{fn:Nat}(hf:bQ E fn=false)(jE:∀s t:List (List UInt8),s.length<=1000->t.length<=1000->aP E fn [SV s,SV t]=some (.bool (decide (s=t)))){v w:AV}{p q:List (List (List UInt8))}(hv:TV v p)(hw:TV w q)(hp:∀x∈p,x.length<=1000)(hq:∀x∈q,x.length<=1000)(tE:p.length<=1000)(Xu:q.length<=1000):aP E 60 [v,w,.func fn [] []]=some (.bool (decide (p=q))):=by
 refine dX ?_;have nN:=fun{dr st:Bool} {bl:List AV} {H:Hp} {k:AV->cE->Prop}=>gn (E:=E) (dr:=dr) (st:=st) (f:=fn) (bl:=bl) (H:=H) (k:=k) hf
 have l1:k9 v=some (p.length:Int):=by rcases hv with⟨rfl,rfl⟩|⟨-,rfl⟩<;>rfl
 have l2:k9 w=some (q.length:Int):=by rcases hw with⟨rfl,rfl⟩|⟨-,rfl⟩<;>rfl
 refine Vy awQ ?_;intro ts hl g0 g1 g2;unfold c60;by_cases OA:p.length=q.length
 ·have dn:((p.length:Int)!=(q.length:Int))=false:=by rw[OA];simp
  simp only[↓aN,aO,aJ,aa,ae,Tryz.f60,hl,g0,g1,l1,l2,dn];refine ft (fun k_ ts H=>∃i,k_=p.length-i/\ts.length=32/\gt ts 1=w/\gt ts 2=.func fn [] []/\gt ts 15=v/\gt ts 16=.int .i64 (p.length:Int)/\gt ts 17=.int .i64 (i:Int)/\H=[]/\(i<=p.length)/\(∀j,j<i->p.getD j []=q.getD j [])) (p.length) ?_ ?_
  rotate_left
  ·refine⟨0,(by first|omega|rfl|(simp;done)),(by simp only[cP,hl]),?_⟩;simp only[cR,hl,aa,ae,g1,g2]
   iterate 6 refine⟨by first|trivial|rfl|(congr 1;omega)|(simp;done)|(simp;omega),?_⟩
   refine⟨?_,?_⟩
   ·omega
   ·intro j hj;omega
  clear hl g0 g1 g2 ts;rintro k_ ts H ⟨i,rfl,hl,g1,g2,g15,g16,g17,rfl,hi,he⟩;refine VS ?_;by_cases hd:i<p.length
  ·have dc:decide ((i:Int)<(p.length:Int))=true:=b8 (by omega);have mM:((i:Int)<(p.length:Int))=True:=eq_true (by omega);have ca2:((i:Int)<(q.length:Int))=True:=eq_true (by omega);have w1:aX .i64 ((i:Int)+1)=((i+1:Nat):Int):=by rw[wrap_i64 (by omega) (by omega)];omega
   obtain⟨-,rfl⟩:=hv.resolve_left (fun h=>by rw[h.1]at hd;exact absurd hd (by simp));obtain⟨-,rfl⟩:=hw.resolve_left (fun h=>by rw[h.1]at OA;rw[OA]at hd;exact absurd hd (by simp));have p1:=fX (vs:=p.map SV) (i:=i) (by rw[aTV];exact hd);have p2:=fX (vs:=q.map SV) (i:=i) (by rw[aTV];omega);rw[YC hd]at p1;rw[YC (by omega)]at p2;have gm:∀{l:List (List (List UInt8))} {j:Nat},j<l.length->l.getD j []∈l:=by intro l j hj;rw[aQP,aL5 hj];exact aMn hj
   have hfc:=jE (p.getD i []) (q.getD i []) (hp _ (gm hd)) (hq _ (gm (by omega)));have psv:∀s,aU (SV s)=true:=fun s=>rfl
   by_cases heq:p.getD i []=q.getD i []
   ·rw[b8 heq]at hfc;simp only[↓aN,aO,aJ,↓reduceIte,aa,ae,hl,g1,g2,g15,g16,g17,mM,ca2,w1,p1,p2,nN,hfc,psv];refine dG ?_;refine⟨_,?_,i+1,rfl,(by simp only[cP,hl]),?_⟩
    ·first|omega|(simp;omega)
    simp only[cR,hl,aa,ae,g1,g2,g15,g16]
    iterate 6 refine⟨by first|trivial|rfl|(congr 1;omega)|(simp;done)|(simp;omega),?_⟩
    refine⟨?_,?_⟩
    ·omega
    ·intro j hj;by_cases Ow:j=i
     ·rw[Ow];exact heq
     ·exact he j (by omega)
   ·rw[cg heq]at hfc;have dY:decide (p=q)=false:=cg (fun e=>heq (by rw[e]));simp only[↓aN,aO,aJ,↓reduceIte,aa,ae,hl,g1,g2,g15,g16,g17,mM,ca2,p1,p2,nN,hfc,psv];rw[dY]
  ·have dc:decide ((i:Int)<(p.length:Int))=false:=cg (by omega);have fZ:decide (p=q)=true:=b8 (oN OA (fun j hj=>he j (by omega)));simp only[↓aN,aO,↓reduceIte,aa,hl,g16,g17,dc];rw[fZ]
 ·have dn:((p.length:Int)!=(q.length:Int))=true:=by rw[bne_iff_ne];omega
  have dY:decide (p=q)=false:=cg (fun e=>OA (by rw[e]));simp only[↓aN,aO,aJ,aa,ae,Tryz.f60,hl,g0,g1,l1,l2,dn];rw[dY]
end Go.Proofs.YtblnjkjjedanaaaGreatDoor
namespace Go.Proofs.YtblnjkjjedanaaaGreatDoor
open Go Dv Dv.b7
open Go.Proofs.kY
variable{E:Env}[C:Ctx E]
theorem Vk{s t:List (List UInt8)}(hs:s.length<=1000)(ht:t.length<=1000):aP E 97 [SV s,SV t]=some (.bool (decide (s=t))):=by
 refine dX ?_;have h1:=DA (E:=E) hs ht;have psv:∀s,aU (SV s)=true:=fun s=>rfl
 refine tp avo ?_;intro ts hl g0 g1;unfold c97;simp only[↓aN,aO,↓aQ,aJ,aa,ae,Tryz.f97,hl,g0,g1,h1,psv]
theorem TV.mO{v:AV}{p:List (List (List UInt8))}(h:TV v p):aU v=true/\df v=true/\v.cells=[v]:=by rcases h with⟨-,rfl⟩|⟨-,rfl⟩<;>exact⟨rfl,rfl,rfl⟩
theorem IJ{v w:AV}{p q:List (List (List UInt8))}(hv:TV v p)(hw:TV w q)(hp:∀x∈p,x.length<=1000)(hq:∀x∈q,x.length<=1000)(tE:p.length<=1000)(Xu:q.length<=1000):aP E 96 [v,w]=some (.bool (decide (p=q))):=by refine dX ?_;have h1:=Dj (E:=E) (bS C (by kernel_rfl)) (fun s t hs ht=>Vk (E:=E) hs ht) hv hw hp hq tE Xu;have m1:=hv.mO;have m2:=hw.mO;refine tp avt ?_;intro ts hl g0 g1;unfold c96;simp only[↓aN,aO,↓aQ,aJ,aa,ae,Tryz.f96,hl,g0,g1,h1,m1,m2]
theorem Nr{n:Int}{v w:AV}{p q:List (List (List UInt8))}(hv:TV v p)(hw:TV w q)(hp:∀x∈p,x.length<=1000)(hq:∀x∈q,x.length<=1000)(tE:p.length<=1000)(Xu:q.length<=1000):aP E 55 [.agg [.int .i64 n,v,.aH],.agg [.int .i64 n,w,.aH]]=some (.bool (decide (p=q))):=by
 refine dX ?_;have h1:=IJ (E:=E) hv hw hp hq tE Xu;have h2:=IJ (E:=E) (v:=.aH) (w:=.aH) (p:=[]) (q:=[]) (.inl ⟨rfl,rfl⟩) (.inl ⟨rfl,rfl⟩) (by simp) (by simp) (by simp) (by simp);rw[b8 rfl]at h2;have m1:=hv.mO;have m2:=hw.mO;have nN:=fun{dr st:Bool} {bl:List AV} {H:Hp} {k:AV->cE->Prop}=>gn (E:=E) (dr:=dr) (st:=st) (f:=96) (bl:=bl) (H:=H) (k:=k) (bS C (by kernel_rfl))
 have dnn:(n==n)=true:=beq_self_eq_true n;refine tp axS ?_;intro ts hl g0 g1;unfold c55;by_cases hpq:p=q
 ·rw[b8 hpq]at h1⊢;simp only[↓aN,aO,aJ,aa,ae,Tryz.f55,hl,g0,g1,h1,h2,m1,m2,nN]
 ·rw[cg hpq]at h1⊢;simp only[↓aN,aO,aJ,aa,ae,Tryz.f55,hl,g0,g1,h1,m1,m2,nN]
theorem KC{v:AV}{G:List (List Rat)}(h:vJ v G):TV v (G.map fun q=>q.map dh):=by
 rcases h with⟨rfl,rfl⟩|⟨h0,rfl⟩
 ·exact .inl ⟨rfl,rfl⟩
 ·refine .inr ⟨fun e=>h0 (List.map_eq_nil_iff.1 e),?_⟩;rw[aTV,aVE];congr 1;refine List.map_congr_left (fun q _=>?_);show dO q=SV (q.map dh)
  unfold dO SV;rw[aTV,aVE];rfl
structure Canon(n b c:Nat)(L G:List (List Rat)):Prop where
 pos:0<n
 le:n<=8
 wL:nJ L n
 cL:CR b L
 sm:Small n b L.length
 wG:nJ G n
 cG:CR c G
 ex:∃P,rN n G.length (fun i=>iN G i) P (gy (SR L.length (rf L)))
 len:G.length<=n
 b1:5^n*(lB c G.length+1)<=10000000000/\c+lB c G.length+2<=500000
 c1:c+1<=98000
theorem uG{n:Nat}{G:List (List Rat)}(hw:nJ G n)(hn:n<=8):∀x∈G.map (fun q=>q.map dh),x.length<=1000:=by
 intro x hx;rw[aMg]at hx;obtain⟨q,hq,rfl⟩:=hx;obtain⟨j,hj,rfl⟩:=aTU hq
 have:=hw j hj
 unfold row at this;rw[aQP,aL5 hj,aMp]at this;rw[aTV,this];omega
theorem JE{n b c:Nat}{v:AV}{L G:List (List Rat)}(hv:vJ v G)(h:Canon n b c L G):
  ∃d,aP E 22 [.agg [.int .i64 (n:Int),v,.aH]]=some (.tuple [.agg [.int .i64 (n:Int),d,.aH],.int .i64 0])/\(aU d=true/\df d=true/\d.cells=[d]):=by
 obtain⟨P,hE⟩:=h.ex;have h0:=h.pos;have hn:=h.le;have hsm:=h.sm.m;have hgl:=h.len;have qo:∀x,gy (SR G.length (rf G)) x↔gy (SR L.length (rf L)) x:=fun x=>(hE.spn (oZ _)).symm
 obtain⟨rv,qh,VK⟩:=um (E:=E) (most:=8) hv h.wG h.cG.ME h.c1 (by omega) (by omega) (by omega);obtain⟨rn,Ym,hrn⟩:=um (E:=E) (most:=256) (n:=n) (k:=1) (G:=[]) (v:=.aH) (.inl ⟨rfl,rfl⟩) (fun i hi=>absurd hi (by simp)) (fun i hi=>absurd hi (by simp)) (by omega) (by omega) (by simp) (by omega);have ah4:rn=.aH:=by
  rcases hrn with⟨-,rfl⟩|⟨h9,-⟩
  ·rfl
  ·exact absurd rfl h9
 subst ah4;rw[show((8:Nat):Int)=8 from rfl]at qh;rw[show((256:Nat):Int)=256 from rfl]at Ym;obtain⟨o1,R,P1,vM,ho1,hRw,hE1⟩:=BN (E:=E) VK h.wG h0 hn (by omega) h.cG h.b1;obtain⟨r,Cg,G5,hRl,hRb,hRo⟩:=Nd h.wL h.cL (hE1.congr (DW qo));have hRk:gB b r+1<=98000:=by rw[Gm];exact aNm (aLL _ (aQT (by omega) Cg)) h.sm.t
 obtain⟨tv,htr,htv⟩:=AT (E:=E) ho1 hRw (afl hRb) hRk (by omega) (by omega);have h2:=h.sm.two G5;rw[<-hRl]at h2;obtain⟨r2,G2,P2,hbo,⟨o2,rfl,VY⟩,Ud,hE2⟩:=AU (E:=E) htv hRw h0 hn (by omega) (Xr hRb) h2.1 h2.2;have hGG:G=G2:=Fv (oZ _) hE (hE2.congr hRo) h.wG Ud;subst hGG;have heq:=Nr (E:=E) (n:=(n:Int)) (KC hv) (KC VY) (uG h.wG hn) (uG h.wG hn) (by rw[aTV];omega) (by rw[aTV];omega);rw[b8 rfl]at heq;have htn:=DG (E:=E);have m1:=ho1.mO;have m2:=vJ.mO (G:=G) VY;have m3:=hv.mO;have m4:=VK.mO;have m5:=htv.mO;have d1:decide ((n:Int)<1)=false:=cg (by omega);have d2:decide ((n:Int)>8)=false:=cg (by omega);refine⟨o1,?_,m1⟩;refine dX ?_;refine nY axu ?_;intro ts hl g0;unfold c22;simp only[↓aN,aO,↓aQ,aJ,↓reduceIte,aa,ah,ae,Tryz.f22,aE,hl,g0,d1,d2,qh,Ym,vM,htr,htn,hbo,heq,m1,m2,m3,m4,m5]
theorem DE{n b c:Nat}{v:AV}{L G:List (List Rat)}(hv:vJ v G)(h:Canon n b c L G):aP E 8 [.agg [.int .i64 (n:Int),v,.aH]]=some (.int .i64 0):=by refine dX ?_;obtain⟨d,hc,md⟩:=JE (E:=E) hv h;have m3:=hv.mO;refine nY fn8 ?_;intro ts hl g0;unfold c8;simp only[↓aN,aO,↓aQ,aJ,↓reduceIte,aa,ah,ae,Tryz.f8,hl,g0,hc,m3,md]
def jI(ts:List Tw):List (List Rat):=ts.map Tw.qs
theorem oE.get:∀{cs:List AV} {ts:List Tw},oE cs ts->∀{i:Nat},i<ts.length->∃c,(cs.drop (i*24)).take 24=c/\wi (.agg c) (ts.getD i ⟨v0,v0⟩)
 |_,_,.nil,i,hi=>absurd hi (by simp)
 |_,_,.cons (c:=c) h hl h',0,_=>⟨c,by rw[Nat.zero_mul,aPp,<-hl,List.take_left],h⟩
 |_,_,.cons (c:=c) h hl h',i+1,hi=>by
  obtain⟨c2,e,h2⟩:=h'.get (i:=i) (by simpa using hi);refine⟨c2,?_,h2⟩;rw[show(i+1)*24=c.length+i*24 by rw[hl];omega,<-List.drop_drop,List.drop_left];exact e
theorem sX.len{v:AV}{ts:List Tw}(h:sX v ts):k9 v=some (ts.length:Int):=by
 rcases h with⟨rfl,rfl⟩|⟨-,cs,rfl,-⟩<;>rfl
theorem sX.mO{v:AV}{ts:List Tw}(h:sX v ts):aU v=true/\df v=true/\v.cells=[v]:=by
 rcases h with⟨-,rfl⟩|⟨-,cs,rfl,-⟩<;>exact⟨rfl,rfl,rfl⟩
theorem MQ{cs:List AV}{o:Nat}(ho:o+24<=cs.length):fD true 24 cs o=some (.agg ((cs.drop o).take 24)):=by simp[fD,ho]
def BTs(k:Nat)(ts:List Tw):Prop:=∀t∈ts,BT k t
theorem BTs.get{k:Nat}{ts:List Tw}(h:BTs k ts){i:Nat}(hi:i<ts.length):BT k (ts.getD i ⟨v0,v0⟩):=by rw[aQP,aL5 hi,aMp];exact h _ (aMn hi)
theorem tK{ts:List Tw}:nJ (jI ts) 6:=by intro i hi;unfold row jI at*;rw[aTV]at hi;rw[aQP,aLI,aL5 hi];rfl
theorem Q6{k d:Int}{cl:Bool}{a0 a1 a2 b0 b1 b2 h:List UInt8}(vI:a0.length<=65536)(vH:a1.length<=65536)(vG:a2.length<=65536)(wS:b0.length<=65536)(wk:b1.length<=65536)(wh:b2.length<=65536)(lh:h.length<=65536){v:AV}{fJ:List Tw}(hc:qS k d cl a0 a1 a2 b0 b1 b2 h=0)(h8:k≠8)(hv:aP E 40 [bO k d cl a0 a1 a2 b0 b1 b2 h]=some v)(hT:sX v fJ){q:Nat}(bT:BTs q fJ)(hq:q<=1000000000)(htl:fJ.length<=6):
  ∃r,aP E 12 [bO k d cl a0 a1 a2 b0 b1 b2 h]=some (.tuple [r,.int .i64 0])/\aU r=true:=by
 suffices hh:∃u,aP E 12 [bO k d cl a0 a1 a2 b0 b1 b2 h]=some u/\∃r,u=(.tuple [r,.int .i64 0])/\aU r=true by
  obtain⟨u,h1,r,rfl,h2⟩:=hh;exact⟨r,h1,h2⟩
 have nN:=kA (E:=E) (k:=k) (d:=d) (cl:=cl) (a0:=a0) (a1:=a1) (a2:=a2) (b0:=b0) (b1:=b1) (b2:=b2) (h:=h) (by omega) (by omega) (by omega) (by omega) (by omega) (by omega) (by omega);rw[hc]at nN;have Fy:=hT.len;have vm:=hT.mO;have BI:(k==8)=false:=beq_eq_false_iff_ne.2 h8;refine nY ago ?_;intro ts hl g0;unfold c12 bO at*;simp only[↓aN,aO,↓aQ,aJ,↓reduceIte,aa,ah,ae,Tryz.f12,aE,hl,g0,nN,BI,hv,Fy];refine ft (fun k_ ts H=>∃i w HC cs,k_=fJ.length-i/\ts.length=30/\gt ts 5=w/\gt ts 17=v/\gt ts 18=.int .i64 (fJ.length:Int)/\gt ts 19=.int .i64 (i:Int)/\H=HC/\(i<=fJ.length)/\(wW 6 0 w HC i cs)/\(cs.length=i*6/\∀x∈cs,∃s,x=.str s)) (fJ.length) ?_ ?_
 rotate_left
 ·refine⟨0,.aH,[.cells .live [.int .i64 k,.int .i64 d,.bool cl,.str a0,.str a1,.str a2,.str b0,.str b1,.str b2,.str h]],[],(by first|omega|rfl|(simp;done)),(by simp only[cP,hl]),?_⟩;simp only[cR,hl,aa,ae]
  iterate 5 refine⟨by first|trivial|rfl|(congr 1;omega)|(simp;done)|(simp;omega),?_⟩
  refine⟨?_,?_,?_⟩
  ·omega
  ·exact .inl ⟨rfl,rfl,rfl⟩
  ·exact⟨rfl,by simp⟩
 clear hl g0 ts;rintro k_ ts H ⟨i,w,HC,cs,rfl,hl,g5,g17,g18,g19,rfl,hi,pV,sd⟩;refine VS ?_;by_cases hd:i<fJ.length
 ·have dc:decide ((i:Int)<(fJ.length:Int))=true:=b8 (by omega);have mM:((i:Int)<(fJ.length:Int))=True:=eq_true (by omega);have w1:aX .i64 ((i:Int)+1)=((i+1:Nat):Int):=by rw[wrap_i64 (by omega) (by omega)];omega
  obtain⟨-,vs,rfl,hC⟩:=hT.resolve_left (fun h=>by rw[h.1]at hd;exact absurd hd (by simp));have p1:=MQ (cs:=vs) (o:=i*24) (by have:=hC.len;omega);obtain⟨c,e1,ic⟩:=hC.get hd;rw[e1]at p1;have zT:=vZ (E:=E) ic (bT.get hd) (by omega);obtain⟨ct,ZB⟩:∃ct,ct=(fJ.getD i ⟨v0,v0⟩).qs.map (fun q=>AV.str (dh q)):=⟨_,rfl⟩;rw[<-ZB]at zT;have Xb:ct.length=6:=by rw[ZB,aTV];rfl
  have alw:∀x∈ct,∃s,x=.str s:=by intro x hx;rw[ZB,aMg]at hx;obtain⟨q,-,rfl⟩:=hx;exact⟨_,rfl⟩
  have ahA:ct.all df=true:=by rw[aLN];intro x hx;obtain⟨s,rfl⟩:=alw x hx;rfl
  have iD:=xe ic;have Ok:aUr 24 c=c:=by rw[<-iD,aQV]
  have vB:=JS ic;have Es:=x9 ic;have km:∀aL,aT E aL 48 1 [(0,AV.agg ct)]=some (.aI aL 0 1 6 1,[(aL,.cells .live ct)]):=fun aL=>ee apr rfl (by decide) (by decide) Xb
  obtain⟨bU,H2,iR,Ac,t1,t2,t3⟩:=lQ (E:=E) (H:=H++[.cells .live c]) (x:=ct) apr (by decide) (qz (l:=[.cells .live c]) pV) sd.1 Xb ahA (by unfold gO;omega) (by omega);have JC:(H++[cz.cells gu.live c]).length=H.length+1:=by rw[aMf];rfl
  rw[JC]at iR t1 t2 t3;simp only[aRd,aPr,aPg,aMf,aMm,aO9,aLM,ah]at iR Ac;simp only[↓aN,aO,↓aQ,aJ,dJ,↓reduceIte,aa,ah,ae,hl,g5,g17,g18,g19,mM,w1,p1,zT,iD,vB,Es,Ok,km,iR,Ac,aKU,aRd,aMf];refine dG ?_;refine⟨_,?_,i+1,(.aI (H.length+2) 0 (i+1) 6 (i+1)),H2,(cs++ct),rfl,(by simp only[cP,hl]),?_⟩
  ·first|omega|(simp;omega)
  simp only[cR,hl,aa,ae,g17,g18]
  iterate 5 refine⟨by first|trivial|rfl|(congr 1;omega)|(simp;done)|(simp;omega),?_⟩
  refine⟨?_,?_,?_⟩
  ·omega
  ·exact .inr ⟨by omega,H.length+2,aVe _,by omega,rfl,t1⟩
  ·refine⟨by rw[aMf];omega,fun x hx=>?_⟩;rcases List.mem_append.1 hx with h9|h9
   ·exact sd.2 x h9
   ·exact alw x h9
 ·have dc:decide ((i:Int)<(fJ.length:Int))=false:=cg (by omega);rcases pV with⟨e1,e2,rfl⟩|⟨e1,b,e2,e3,rfl,e5⟩
  ·simp only[↓aN,aO,↓reduceIte,aa,ae,hl,g5,g18,g19,dc];exact⟨_,rfl,rfl⟩
  ·have gg:=KL (H:=H) (b:=b) (m:=i) (s:=6) (st:=.live) (y:=.int .i64 0) e5 (by decide) (by omega) (by
    intro x hx;obtain⟨s,rfl⟩:=sd.2 x hx;exact fun _ _=>rfl) (fun _ _=>rfl)
   simp only[↓aN,aO,↓reduceIte,aa,ae,hl,g5,g18,g19,dc,gg];exact⟨_,rfl,rfl⟩
def My(len s:Nat)(Q:Nat->List AV->Prop)(H:Hp)(v:AV)(i:Nat):Prop:=(i=0/\v=.aH)∨(0<i/\∃b hs,v=.aI b 0 i 1 i/\b<H.length/\H[b]?=some (.cells .live hs)/\hs.length=i/\∀j,j<i->∃c cs,hs.getD j aZ=.aI c 0 len s len/\c≠b/\c<H.length/\H[c]?=some (.cells .live cs)/\Q j cs)
theorem My.sl{len s:Nat}{Q:Nat->List AV->Prop}{H:Hp}{v:AV}{i:Nat}(h:My len s Q H v i):∃hs,wW 1 0 v H i hs/\hs.length=i:=by
 rcases h with⟨rfl,rfl⟩|⟨h0,b,hs,e,h1,h2,h3,-⟩
 ·exact⟨[],.inl ⟨rfl,rfl,rfl⟩,rfl⟩
 ·exact⟨hs,.inr ⟨h0,b,aVe _,h1,e,h2⟩,h3⟩
theorem My.step{len s:Nat}{Q:Nat->List AV->Prop}{H H2:Hp}{i k r:Nat}{v:AV}{hs cs:List AV}(h:My len s Q H v i)(sT:wW 1 0 v H i hs)(hi:hs.length=i)(hr:H.length<=r)(hk:r<k)(Lk:k<H2.length)(h1:H2[k]?=some (.cells .live (hs++[.aI r 0 len s len])))(h2:H2[r]?=some (.cells .live cs))(hc:Q i cs)(hp:∀q,q<H.length->(∀m,v≠ .aI q 0 m 1 m)->H2[q]?=H[q]?):My len s Q H2 (.aI k 0 (i+1) 1 (i+1)) (i+1):=by
 refine .inr ⟨by omega,k,_,rfl,Lk,h1,by rw[aMf,hi];rfl,fun j hj=>?_⟩;by_cases e:j=i
 ·subst e;exact⟨r,cs,lS hi.symm,by omega,by omega,h2,hc⟩
 ·rcases h with⟨h0,-⟩|⟨h0,b,Di,e1,Ao,h3,h4,h5⟩
  ·omega
  ·have hss:hs=Di:=by
    rcases sT with⟨h8,-,-⟩|⟨-,b',-,-,e3,h9⟩
    ·omega
    ·rw[e1]at e3;simp only[AV.aI.injEq,and_true]at e3;obtain rfl:=e3;rw[h3]at h9;simpa using h9.symm
   subst hss;obtain⟨c,vK,f1,f2,f4,f5,f6⟩:=h5 j (by omega);refine⟨c,vK,by rw[me (by omega)];exact f1,by omega,by omega,?_,f6⟩;rw[hp c f4]
   ·exact f5
   ·intro m e3;rw[e1]at e3;simp only[AV.aI.injEq]at e3;exact f2 e3.1.symm
theorem My.frz{len s:Nat}{Q:Nat->List AV->Prop}{H:Hp}{v:AV}{i:Nat}(h:My len s Q H v i)(hq:∀j cs,Q j cs->cs.length=len*s/\∀v∈cs,Flat v):∃o bs,Dv.fz H 40 v=some (o,bs)/\((i=0/\o=.aH)∨(0<i/\∃vs,o=.aK vs i/\vs.length=i/\∀j,j<i->∃cs,vs.getD j aZ=.aK cs len/\Q j cs)):=by
 rcases h with⟨h0,e⟩|⟨h0,b,hs,e1,h2,h3,h4,h5⟩
 ·subst e;exact⟨_,_,rfl,.inl ⟨h0,rfl⟩⟩
 ·have key:∀l:List AV,(∀x∈l,∃c cs,x=.aI c 0 len s len/\H[c]?=some (.cells .live cs)/\cs.length=len*s/\∀u∈cs,Flat u)->∃r,dP (Dv.fz H 39) l=some r/\r.length=l.length/\∀j,j<l.length->∃c cs,l.getD j aZ=.aI c 0 len s len/\H[c]?=some (.cells .live cs)/\(r.map (·.1)).getD j aZ=.aK cs len:=by
   intro l;induction l with
   |nil=>intro _;exact⟨[],rfl,rfl,by simp⟩
   |cons x l ih=>
    intro hx;obtain⟨r,Cg,G5,PI⟩:=ih fun y hy=>hx y (by simp[hy])
    obtain⟨c,cs,e,hc,iD,hf⟩:=hx x (by simp);have h6:=oe (n:=38) (off:=0) (len:=len) (esz:=s) (k:=len) hc (by decide) (by omega) (by rw[aPp,<-iD,aQV];exact gf hf);rw[iP,eo]at h6;subst e;refine⟨(.aK cs len,[c])::r,?_,by simp[G5],?_⟩
    ·unfold dP;rw[h6,Cg]
    ·intro j hj;cases j with
     |zero=>exact⟨c,cs,rfl,hc,rfl⟩
     |succ j=>
      obtain⟨c',vK,a1,a2,a3⟩:=PI j (by simpa using hj);exact⟨c',vK,by simpa using a1,a2,by simpa using a3⟩
  obtain⟨r,Cg,G5,PI⟩:=key hs (by
   intro x hx;obtain⟨j,hj,e⟩:=aTU hx;obtain⟨c,cs,a1,-,-,a4,a5⟩:=h5 j (by omega);rw[aQP,aL5 hj,aMp,e]at a1;obtain⟨q1,q2⟩:=hq j cs a5;exact⟨c,cs,a1,a4,q1,q2⟩)
  have h6:=oe (n:=39) (off:=0) (len:=i) (esz:=1) (k:=i) h3 (by decide) (by omega) (by rw[aPp,Nat.mul_one,<-h4,aQV];exact Cg);subst e1;refine⟨_,_,h6,.inr ⟨h0,_,rfl,by rw[aTV,G5,h4],fun j hj=>?_⟩⟩;obtain⟨c,cs,a1,a2,a3⟩:=PI j (by omega);obtain⟨c',vK,b1,-,-,b4,b5⟩:=h5 j hj;rw[a1]at b1;simp only[AV.aI.injEq,and_true]at b1;obtain rfl:=b1;rw[a2]at b4;simp only[aKV.injEq,cz.cells.injEq,true_and]at b4;subst b4;exact⟨cs,a3,b5⟩
theorem GW{v:AV}{fJ:List Tw}(hT:sX v fJ){q b:Nat}(bT:BTs q fJ)(hq:q<=1000000000)(hb:CR b (jI fJ))(hs:Small 6 b fJ.length):
  ∃o G P,aP E 44 [v]=some o/\vJ o G/\nJ G 6/\rN 6 G.length (fun i=>iN G i) P (gy (SR fJ.length (rf (jI fJ)))):=by
 have hlr:(jI fJ).length=fJ.length:=by unfold jI;rw[aTV]
 have hm6:=hs.m;rw[<-hlr]at hs
 suffices hh:∃u,aP E 44 [v]=some u/\∃G P,vJ u G/\nJ G 6/\rN 6 G.length (fun i=>iN G i) P (gy (SR fJ.length (rf (jI fJ))))by
  obtain⟨u,h1,G,P,h2⟩:=hh;exact⟨u,G,P,h1,h2⟩
 have Fy:=hT.len;have vm:=hT.mO;refine nY auv ?_;intro ts hl g0;unfold c44;simp only[↓aN,aO,aJ,aa,ae,Tryz.f44,hl,g0,Fy];refine ft (fun k_ ts H=>∃i w HC,k_=fJ.length-i/\ts.length=29/\gt ts 3=w/\gt ts 9=v/\gt ts 10=.int .i64 (fJ.length:Int)/\gt ts 11=.int .i64 (i:Int)/\H=HC/\(i<=fJ.length)/\(My 6 1 (fun j cs=>cs=(row (jI fJ) j).map (fun q=>AV.str (dh q))/\j<fJ.length) HC w i)) (fJ.length) ?_ ?_
 rotate_left
 ·refine⟨0,.aH,[],(by first|omega|rfl|(simp;done)),(by simp only[cP,hl]),?_⟩;simp only[cR,hl,aa,ae]
  iterate 5 refine⟨by first|trivial|rfl|(congr 1;omega)|(simp;done)|(simp;omega),?_⟩
  refine⟨?_,?_⟩
  ·omega
  ·exact .inl ⟨rfl,rfl⟩
 clear hl g0 ts;rintro k_ ts H ⟨i,w,HC,rfl,hl,g3,g9,g10,g11,rfl,hi,hsa⟩;refine VS ?_;by_cases hd:i<fJ.length
 ·have dc:decide ((i:Int)<(fJ.length:Int))=true:=b8 (by omega);have mM:((i:Int)<(fJ.length:Int))=True:=eq_true (by omega);have w1:aX .i64 ((i:Int)+1)=((i+1:Nat):Int):=by rw[wrap_i64 (by omega) (by omega)];omega
  obtain⟨-,vs,rfl,hC⟩:=hT.resolve_left (fun h=>by rw[h.1]at hd;exact absurd hd (by simp));have p1:=MQ (cs:=vs) (o:=i*24) (by have:=hC.len;omega);obtain⟨c,e1,ic⟩:=hC.get hd;rw[e1]at p1;have zT:=vZ (E:=E) ic (bT.get hd) (by omega);have hrw:row (jI fJ) i=(fJ.getD i ⟨v0,v0⟩).qs:=by unfold row jI;rw[aQP,aLI,aQP,aL5 hd];rfl
  obtain⟨ct,ZB⟩:∃ct,ct=(fJ.getD i ⟨v0,v0⟩).qs.map (fun q=>AV.str (dh q)):=⟨_,rfl⟩;rw[<-ZB]at zT;have Xb:ct.length=6:=by rw[ZB,aTV];rfl
  have ahA:ct.all df=true:=by rw[aLN];intro x hx;rw[ZB,aMg]at hx;obtain⟨q,-,rfl⟩:=hx;rfl
  have iD:=xe ic;have Ok:aUr 24 c=c:=by rw[<-iD,aQV]
  have aei:aUr 6 ct=ct:=by rw[<-Xb,aQV]
  have vB:=JS ic;have Es:=x9 ic;obtain⟨Di,sT,hhl⟩:=hsa.sl;have azT:Ez E (H++[cz.cells gu.live c,cz.cells gu.live ct]) 78 (.b9 (H.length+1) 0) none none=some (.aI (H.length+1) 0 6 1 6):=GU ac0 (st:=.live) (by rw[sb rfl];rfl) (by decide) (by omega) (by decide) (by decide);have km:∀aL,aT E aL 24 1 [(0,.aI (H.length+1) 0 6 1 6)]=some (.aI aL 0 1 1 1,[(aL,.cells .live [.aI (H.length+1) 0 6 1 6])]):=fun aL=>ee Rx rfl (by decide) (by decide) rfl
  obtain⟨bU,H2,iR,Ac,t1,t2,t3⟩:=lQ (E:=E) (H:=H++[.cells .live c,.cells .live ct]) (x:=[.aI (H.length+1) 0 6 1 6]) Rx (by decide) (qz (l:=[.cells .live c,.cells .live ct]) sT) (by omega) rfl rfl (by unfold gO;omega) (by omega);have JC:(H++[cz.cells gu.live c,cz.cells gu.live ct]).length=H.length+2:=by rw[aMf];rfl
  rw[JC]at iR t1 t2 t3;simp only[aRd,aPr,aPg,aMf,aMm,aO9,aLM,ah]at iR Ac;simp only[↓aN,aO,↓aQ,aJ,dJ,↓reduceIte,aa,ah,ae,hl,g3,g9,g10,g11,mM,w1,p1,zT,iD,vB,Es,Ok,Xb,ahA,azT,km,iR,Ac,aKU,aRd,aMf];refine dG ?_;refine⟨_,?_,i+1,(.aI (H.length+3) 0 (i+1) 1 (i+1)),H2,rfl,(by simp only[cP,hl]),?_⟩
  ·first|omega|(simp;omega)
  simp only[cR,hl,aa,ae,g9,g10]
  iterate 5 refine⟨by first|trivial|rfl|(congr 1;omega)|(simp;done)|(simp;omega),?_⟩
  refine⟨?_,?_⟩
  ·omega
  ·refine hsa.step sT hhl (r:=H.length+1) (cs:=ct) (by omega) (by omega) (by omega) t1 ?_ ⟨by rw[hrw];exact ZB,hd⟩ (fun q hq Tp=>?_)
   ·rw[t3 _ (by omega) ?_,sb rfl]
    ·rfl
    ·intro m e;rcases sT with⟨-,-,e2⟩|⟨-,b,-,hb,e2,-⟩
     ·rw[e2]at e;simp at e
     ·rw[e2]at e;simp only[AV.aI.injEq]at e;omega
   ·rw[t3 q (by omega) Tp,aNq hq]
 ·have dc:decide ((i:Int)<(fJ.length:Int))=false:=cg (by omega);obtain rfl:i=fJ.length:=by omega
  obtain⟨o,bs,hfo,ho⟩:=hsa.frz (by
   rintro j cs ⟨rfl,hj⟩;refine⟨by rw[aTV,tK j (by omega)],fun x hx=>?_⟩;rw[aMg]at hx;obtain⟨q,-,rfl⟩:=hx;exact fun _ _=>rfl)
  have hot:vJ o (jI fJ):=by
   rcases ho with⟨h1,h2⟩|⟨h1,vs,h2,h3,h4⟩
   ·exact .inl ⟨List.eq_nil_of_length_eq_zero (by omega),h2⟩
   ·refine .inr ⟨fun e=>by rw[e]at hlr;simp at hlr;omega,?_⟩;rw[h2,hlr];congr 1;refine oN (d:=aZ) (by rw[aTV];omega) (fun j hj=>?_);obtain⟨cs,f1,f2,f3⟩:=h4 j (by omega);rw[f1,Ag (by omega),f2];unfold dO;rw[tK j (by omega)]
  obtain⟨o2,G,P,hg,VY,Ud,hE⟩:=zu (E:=E) (n:=6) hot tK (by omega) (by omega) hb hs;have gg:ow (aU w) H [.int .i64 6,w,.aH]=some ([.int .i64 6,o,.aH],bs):=by
   rcases hsa with⟨h1,h2⟩|⟨h1,b,hs,h2,-⟩
   ·subst h2;simp only[Dv.fz]at hfo;cases hfo;rfl
   ·subst h2;show ow false _ _=_
    rw[nQ];unfold bW;rw[if_neg (by simp[bE,aU])];simp only[dP,hfo];simp[Dv.fz]
  have mo:=VY.mO;rw[show((6:Nat):Int)=6 from rfl]at hg;obtain⟨HB,hHB⟩:∃HB,cE.app H (if bR (.tuple [.agg [.int .i64 6,o2,.aH],.int .i64 0])=true then cE.looks bs else cE.marks bs)=HB:=⟨_,rfl⟩;simp only[↓aN,aO,↓aQ,aJ,dJ,↓reduceIte,aa,ah,ae,hl,g3,g10,g11,dc,gg,hg,hHB,mo];exact⟨G,P,VY,Ud,by rw[<-hlr];exact hE⟩
theorem Vp{G K:List (List Rat)}(h:(G.map fun q=>q.map dh)=K.map fun q=>q.map dh):G=K:=by
 have hi:∀{a b:List Rat},a.map dh=b.map dh->a=b:=by
  intro a b e
  have:=congrArg (aVI fh) e
  rwa[KH,KH]at this
 have:=congrArg (aVI (aVI fh)) h
 rw[aVE,aVE]at this;have e:(aVI fh∘fun q:List Rat=>q.map dh)=id:=by funext q;exact KH
 rw[e,List.map_id,List.map_id]at this;exact this
theorem Qc{jv v o:AV}{fJ:List Tw}{G:List (List Rat)}(hjp:aU jv=true)(hjc:∃cs,jv=.agg cs/\cs.length=10/\cs.all df=true)(hv:aP E 40 [jv]=some v)(hT:sX v fJ){q b:Nat}(bT:BTs q fJ)(hq:q<=1000000000)(hb:CR b (jI fJ))(hs:Small 6 b fJ.length)(ho:vJ o G)(hw:nJ G 6)(R8:G.length<=6):
  ∃K P,aP E 29 [jv,o]=some (.bool (decide (K=G)))/\nJ K 6/\rN 6 K.length (fun i=>iN K i) P (gy (SR fJ.length (rf (jI fJ)))):=by
 obtain⟨o2,K,P,qo,VY,hKw,hE⟩:=GW (E:=E) hT bT hq hb hs;refine⟨K,P,?_,hKw,hE⟩;have hKl:K.length<=6:=by
  rcases aVC K.length with h|h
  ·omega
  ·have:∀i,i<K.length->i<=P i:=by
    intro i;induction i with
    |zero=>intro _;omega
    |succ i ih=>
     intro hi;have h1:=ih (by omega);have h2:=hE.mono i (i+1) (by omega) hi;omega
   have h1:=this (K.length-1) (by omega);have h2:=hE.lt (K.length-1) (by omega);omega
 have heq:=Dj (E:=E) (fn:=61) (bS C (by kernel_rfl)) (fun s t hs ht=>DA (E:=E) hs ht) (KC VY) (KC ho) (uG hKw (by omega)) (uG hw (by omega)) (by rw[aTV];omega) (by rw[aTV];omega);have UM:decide ((K.map fun q=>q.map dh)=G.map fun q=>q.map dh)=decide (K=G):=by
  by_cases h:K=G
  ·rw[b8 h,b8 (by rw[h])]
  ·rw[cg h,cg (fun e=>h (Vp e))]
 rw[UM]at heq;refine dX ?_;have m1:=ho.mO;have m2:=VY.mO;have m3:=hT.mO;obtain⟨cs,rfl,iD,vB⟩:=hjc;have HE:(cs.length==10)=true:=by rw[iD];rfl
 have h10:(10<=cs.length)=True:=eq_true (by omega);have Ok:aUr 10 cs=cs:=by rw[<-iD,aQV]
 have Es:bE cs=true:=hjp;refine tp axz ?_;intro ts hl g0 g1;unfold c29;simp only[↓aN,aO,↓aQ,aJ,↓reduceIte,aa,ae,Tryz.f29,hl,g0,g1,hv,qo,heq,m1,m2,m3,iD,Ok,Es]
end Go.Proofs.YtblnjkjjedanaaaGreatDoor
namespace Go.Proofs.YtblnjkjjedanaaaGreatDoor
open Go Dv Dv.b7
variable{E:Env}[C:Ctx E]
theorem qQ{a:V3}(h:a≠v0):mu a a≠0:=by
 intro e;apply h;have h1:∀q:Rat,0<=q*q:=fun q=>by
  rcases Rat.le_total (a:=0) (b:=q)with h|h
  ·exact Rat.mul_nonneg h h
  ·have:=Rat.mul_nonneg (a:= -q) (b:= -q) (by grind) (by grind)
   grind
 have hz:∀q:Rat,q*q=0->q=0:=fun q hq=>by
  rcases Rat.mul_eq_zero.1 hq with h|h<;>exact h
 unfold mu at e;obtain⟨x,y,z⟩:=a;have hx:=h1 x;have hy:=h1 y;have hz':=h1 z;simp only at e;have ex:x*x=0:=by grind
 have ey:y*y=0:=by grind
 have ez:z*z=0:=by grind
 rw[hz x ex,hz y ey,hz z ez];rfl
theorem Jb{k:Nat}{t:Tw}(bt:BT k t)(dY:mu t.a t.a≠0):BV (10*k+6) (om t)/\Bq (12*k+9) (oh t):=by have bo:Bq 1 ((1:Int):Rat):=⟨by decide,by decide⟩;have bq:=bo.div (rP bt.1 bt.1) dY;have bc:=jG bt.1 bt.2;exact⟨(BV.scale bq bc).mono (by omega),((rP bt.1 bt.2).mul bq).mono (by omega)⟩
def sZ(t:Tw)(n:Int):AV:=if t.a=v0 then bO 2 n false (dh (eM t.l).x) (dh (eM t.l).y) (dh (eM t.l).z) [] [] [] []
 else if oh t=0 then bO 1 n false (dh (eM t.a).x) (dh (eM t.a).y) (dh (eM t.a).z) (dh (om t).x) (dh (om t).y) (dh (om t).z) []
 else bO 3 n false (dh (eM t.a).x) (dh (eM t.a).y) (dh (eM t.a).z) (dh (om t).x) (dh (om t).y) (dh (om t).z) (dh (oh t))
theorem O6{c:List AV}{t:Tw}(h:wi (.agg c) t){k:Nat}(bt:BT k t)(hk:k<=10000000)(dY:¬(t.a=v0/\t.l=v0)):aP E 24 [.aK c 1]=some (sZ t 0):=by
 refine dX ?_;obtain⟨J8,Km,Kz,JK,Ng,MV,N1,Nc,ND,Ol,NW,Oe,G6,G3,Hg,Hb,GB,E7,U7,T4,VR,Vz,VG,VJ,e,ha,hb⟩:=id h;simp only[AV.agg.injEq]at e;subst e;have A:=bP ha;have B:=bP hb;have hz:=gH (E:=E) ha bt.1 (by omega);unfold sZ;refine nY axM ?_;intro ts hl g0;unfold c24;by_cases h0:t.a=v0
 ·rw[b8 h0]at hz;rw[if_pos h0];obtain⟨x,hx,ix⟩:=tV (E:=E) hb bt.2 (by omega) (fun e=>dY ⟨h0,e⟩);have bx:=qV bt.2 (fun e=>dY ⟨h0,e⟩);have hp:=nf (E:=E) ix bx (by omega);have px:=ja ix;simp only[↓aN,aO,↓aQ,aJ,↓reduceIte,aa,ah,ak,ae,an,ao,aq,Tryz.f24,ai,hl,g0,A,B,hz,hx,hp,px];rfl
 ·rw[cg h0]at hz;rw[if_neg h0];obtain⟨x,hx,ix⟩:=tV (E:=E) ha bt.1 (by omega) h0;have bx:=qV bt.1 h0;have hpx:=nf (E:=E) ix bx (by omega);have px:=ja ix;obtain⟨p,q,hn,ip,iq⟩:=AR (E:=E) h bt (by omega) (qQ h0);obtain⟨bp,bq⟩:=Jb bt (qQ h0);have Ov:=nf (E:=E) ip bp (by omega);have sq:=gz (E:=E) iq;have zq:=uD (oh t);have nq:=pM (E:=E) iq bq (by omega);obtain⟨VB,Vx,VE,VI,pn2,pm2,pn3,pm3,pn4,pm4,pn5,pm5,rfl,-,-,-,P,O⟩:=bM ip;obtain⟨zO,zK,zI,zQ,_,_,rfl,-,-,-,-⟩:=bX iq;have Q:=aW _ iq;by_cases hh:oh t=0
  ·rw[if_pos hh];rw[b8 hh]at zq;simp only[↓aN,aO,↓aQ,aJ,↓reduceIte,aa,ah,ak,ae,an,ao,aq,Tryz.f24,ai,aj,aj,hl,g0,A,B,hz,hx,hpx,px,hn,Ov,sq,zq,P,O,Q,wg];rfl
  ·rw[if_neg hh];rw[cg hh]at zq;simp only[↓aN,aO,↓aQ,aJ,↓reduceIte,aa,ah,ak,ae,an,ao,aq,Tryz.f24,ai,aj,aj,hl,g0,A,B,hz,hx,hpx,px,hn,Ov,sq,zq,nq,P,O,Q,wg];rfl
def Cp(t:Tw)(n:Int):AV:=bO 4 n false (dh (eM t.a).x) (dh (eM t.a).y) (dh (eM t.a).z) (dh (om t).x) (dh (om t).y) (dh (om t).z) []
theorem aej{c cs:List AV}{t:Tw}(h:wi (.agg c) t):(c++cs).take 24=c:=by rw[<-xe h,List.take_left]
theorem yW{c c2:List AV}{t:Tw}(h:wi (.agg c) t)(h2:c2.length=24){k:Nat}(bt:BT k t)(hk:k<=10000000)(h0:t.a≠v0):aP E 25 [.aK (c++c2) 2]=some (Cp t 0):=by refine dX ?_;have aGr:=aej (cs:=c2) h;obtain⟨J8,Km,Kz,JK,Ng,MV,N1,Nc,ND,Ol,NW,Oe,G6,G3,Hg,Hb,GB,E7,U7,T4,VR,Vz,VG,VJ,e,ha,hb⟩:=id h;simp only[AV.agg.injEq]at e;subst e;have A:=bP ha;have B:=bP hb;obtain⟨x,hx,ix⟩:=tV (E:=E) ha bt.1 (by omega) h0;have bx:=qV bt.1 h0;have hpx:=nf (E:=E) ix bx (by omega);have px:=ja ix;obtain⟨p,q,hn,ip,iq⟩:=AR (E:=E) h bt (by omega) (qQ h0);obtain⟨bp,bq⟩:=Jb bt (qQ h0);have Ov:=nf (E:=E) ip bp (by omega);obtain⟨VB,Vx,VE,VI,pn2,pm2,pn3,pm3,pn4,pm4,pn5,pm5,rfl,-,-,-,P,O⟩:=bM ip;obtain⟨zO,zK,zI,zQ,_,_,rfl,-,-,-,-⟩:=bX iq;have Q:=aW _ iq;refine nY ayy ?_;intro ts hl g0;unfold c25;simp only[↓aN,aO,↓aQ,aJ,↓reduceIte,aa,ah,ak,ae,an,ao,aq,Tryz.f25,ai,hl,g0,A,B,hx,hpx,px,hn,Ov,P,O,Q,h2];rfl
def zE(t:Tw)(n:Int):AV:=bO 6 n false (dh (eM t.a).x) (dh (eM t.a).y) (dh (eM t.a).z) [] [] [] []
theorem Rp{c c2:List AV}{t:Tw}(h:wi (.agg c) t){k:Nat}(bt:BT k t)(hk:k<=10000000)(h0:t.a≠v0):aP E 27 [.aK (c++c2) 3]=some (zE t 0):=by refine dX ?_;obtain⟨J8,Km,Kz,JK,Ng,MV,N1,Nc,ND,Ol,NW,Oe,G6,G3,Hg,Hb,GB,E7,U7,T4,VR,Vz,VG,VJ,e,ha,hb⟩:=id h;simp only[AV.agg.injEq]at e;subst e;have A:=bP ha;have B:=bP hb;obtain⟨x,hx,ix⟩:=tV (E:=E) ha bt.1 (by omega) h0;have bx:=qV bt.1 h0;have hpx:=nf (E:=E) ix bx (by omega);have px:=ja ix;refine nY azi ?_;intro ts hl g0;unfold c27;simp only[↓aN,aO,↓aQ,aJ,↓reduceIte,aa,ah,ak,ae,an,ao,aq,Tryz.f27,ai,hl,g0,A,hx,hpx,px];rfl
def FP(t0 t1 t2:Tw)(n:Int):AV:=bO 5 n false [] [] [] (dh t1.l.z) (dh t2.l.x) (dh t0.l.y) []
theorem Vf{c0 c1 c2:List AV}{t0 t1 t2:Tw}(h0:wi (.agg c0) t0)(h1:wi (.agg c1) t1)(h2:wi (.agg c2) t2){k:Nat}(b0:BT k t0)(b1:BT k t1)(b2:BT k t2)(hk:k<=10000000):aP E 26 [.aK (c0++(c1++c2)) 3]=some (FP t0 t1 t2 0):=by refine dX ?_;obtain⟨J8,Km,Kz,JK,Ng,MV,N1,Nc,ND,Ol,NW,Oe,G6,G3,Hg,Hb,GB,E7,U7,T4,VR,Vz,VG,VJ,e,-,hb⟩:=id h0;simp only[AV.agg.injEq]at e;subst e;obtain⟨cn0,cm0,cn1,cm1,cn2,cm2,cn3,cm3,cn4,cm4,cn5,cm5,Az,Bu,AL,Al,dn2,dm2,dn3,dm3,dn4,dm4,dn5,dm5,e,-,hd⟩:=id h1;simp only[AV.agg.injEq]at e;subst e;obtain⟨fn0,fm0,fn1,fm1,fn2,fm2,fn3,fm3,fn4,fm4,fn5,fm5,gn0,gm0,gn1,gm1,gn2,gm2,gn3,gm3,gn4,gm4,gn5,gm5,e,-,hg⟩:=id h2;simp only[AV.agg.injEq]at e;subst e;obtain⟨n0,m0,n1,m1,n2,m2,n3,m3,n4,m4,n5,m5,e,Hi,Eu,b3'⟩:=id hb;simp only[AV.agg.injEq,List.cons.injEq,AV.bool.injEq,and_true]at e;obtain⟨rfl,rfl,rfl,rfl,rfl,rfl,rfl,rfl,rfl,rfl,rfl,rfl⟩:=e;obtain⟨n0,m0,n1,m1,n2,m2,n3,m3,n4,m4,n5,m5,e,d1',d2',d3'⟩:=id hd;simp only[AV.agg.injEq,List.cons.injEq,AV.bool.injEq,and_true]at e;obtain⟨rfl,rfl,rfl,rfl,rfl,rfl,rfl,rfl,rfl,rfl,rfl,rfl⟩:=e;obtain⟨n0,m0,n1,m1,n2,m2,n3,m3,n4,m4,n5,m5,e,g1',g2',g3'⟩:=id hg;simp only[AV.agg.injEq,List.cons.injEq,AV.bool.injEq,and_true]at e;obtain⟨rfl,rfl,rfl,rfl,rfl,rfl,rfl,rfl,rfl,rfl,rfl,rfl⟩:=e;have M1:=aW _ d3';have M2:=aW _ g1';have M3:=aW _ Eu;have iv:eY (.agg [.bool dn4,dm4,.bool dn5,dm5,.bool gn0,gm0,.bool gn1,gm1,.bool GB,E7,.bool U7,T4]) ⟨t1.l.z,t2.l.x,t0.l.y⟩:=⟨_,_,_,_,_,_,_,_,_,_,_,_,rfl,d3',g1',Eu⟩;have Ov:=nf (E:=E) iv (k:=k) ⟨b1.2.2.2,b2.2.1,b0.2.2.1⟩ (by omega);have V:=bP iv;refine nY auI ?_;intro ts hl g0;unfold c26;simp only[↓aN,aO,↓aQ,aJ,↓reduceIte,aa,ah,ak,ae,an,ao,aq,Tryz.f26,ai,hl,g0,V,Ov];rfl
end Go.Proofs.YtblnjkjjedanaaaGreatDoor
namespace Go.Proofs.YtblnjkjjedanaaaGreatDoor
open Go Dv Dv.b7
open Go.Proofs.kY
variable{E:Env}[C:Ctx E]
theorem Cj(a b:Nat):lc a b=Nat.lcm a b:=by unfold lc Nat.lcm;rw[Nat.div_mul_right_comm (aSF a b)]
theorem Gf{n D:Int}(hD:D≠0):((n:Rat)/(D:Rat)).den∣D.natAbs:=by
 rw[<-aVc,Rat.den_divInt,if_neg hD];exact Nat.div_dvd_of_dvd (by rw[Int.gcd];exact aSF _ _)
structure FrV(a:V3)(D n0 n1 n2:Int):Prop where
 ne:D≠0
 x:a.x=(n0:Rat)/(D:Rat)
 y:a.y=(n1:Rat)/(D:Rat)
 z:a.z=(n2:Rat)/(D:Rat)
theorem ajR{a:V3}{D n0 n1 n2:Int}(h:FrV a D n0 n1 n2):pD a∣D.natAbs:=by have h1:=Gf (n:=n0) h.ne;have h2:=Gf (n:=n1) h.ne;have h3:=Gf (n:=n2) h.ne;rw[<-h.x]at h1;rw[<-h.y]at h2;rw[<-h.z]at h3;unfold pD;rw[Cj,Cj,Cj];exact aVH (aVH (aVH (Nat.one_dvd _) h1) h2) h3
theorem aj5(a:V3):a.x.den∣pD a/\a.y.den∣pD a/\a.z.den∣pD a:=by unfold pD;rw[Cj,Cj,Cj];exact⟨aVz (aVD 1 _) (aVz (aVF _ _) (aVF _ _)),aVz (aVD _ _) (aVF _ _),aVD _ _⟩
theorem KX{q:Rat}{m:Nat}(h:q.den∣m):∃z:Int,(m:Rat)*q=(z:Rat):=by
 obtain⟨k,rfl⟩:=h;refine⟨(k:Int)*q.num,?_⟩;have hq:(q.den:Rat)*q=(q.num:Rat):=by
  have h1:(q.num:Rat)/((q.den:Int):Rat)=q:=by rw[<-aVc];exact Rat.num_divInt_den q
  have h2:((q.den:Int):Rat)≠0:=fH (by have:=q.den_nz;omega);have h3:((q.den:Int):Rat)=(q.den:Rat):=rfl;rw[h3]at h1 h2
  grind
 rw[aUo,<-hq,Rat.natCast_mul]
 have:((k:Int):Rat)=(k:Rat):=rfl
 rw[this]
 grind
theorem agX{a:V3}{D n0 n1 n2:Int}(h:FrV a D n0 n1 n2):∃z0 z1 z2:Int,pW a=⟨z0,z1,z2⟩/\z0.natAbs<=n0.natAbs/\z1.natAbs<=n1.natAbs/\z2.natAbs<=n2.natAbs:=by
 obtain⟨d1,d2,d3⟩:=aj5 a;obtain⟨z0,e0⟩:=KX d1;obtain⟨z1,e1⟩:=KX d2;obtain⟨z2,e2⟩:=KX d3;have hDq:=fH h.ne;have key:∀{q:Rat} {z n:Int},((pD a:Nat):Rat)*q=(z:Rat)->q=(n:Rat)/(D:Rat)->z.natAbs<=n.natAbs:=by
  intro q z n e1 e2;obtain⟨k,hk⟩:=ajR h;have h1:z*D=n*(pD a:Int):=by
   have:((z*D:Int):Rat)=((n*(pD a:Int):Int):Rat):=by
    rw[aUo,aUo,<-e1,e2]
    have:(((pD a:Nat):Int):Rat)=((pD a:Nat):Rat):=rfl
    rw[this]
    grind
   exact_mod_cast this
  have h2:z.natAbs*D.natAbs=n.natAbs*pD a:=by rw[<-aUq,h1,aUq,aSv]
  have hDn:0<D.natAbs:=by have:=h.ne;omega
  have hkp:1<=k:=by
   rcases aVC k with e|e
   ·rw[e,Nat.mul_zero]at hk;omega
   ·exact e
  have h3:pD a<=D.natAbs:=by rw[hk];exact Nat.le_mul_of_pos_right _ hkp
  have h4:z.natAbs*D.natAbs<=n.natAbs*D.natAbs:=by rw[h2];exact aPQ _ h3
  exact Nat.le_of_mul_le_mul_right h4 hDn
 refine⟨z0,z1,z2,?_,key e0 h.x,key e1 h.y,key e2 h.z⟩;unfold pW dW;rw[e0,e1,e2]
theorem WA{a b c g:Nat}(hg:aSG (aSG (aSG 0 a) b) c=g)(h0:0<g):aSG (aSG (aSG 0 (a/g)) (b/g)) (c/g)=1:=by
 rw[aS1]at hg⊢;have ha:g∣a:=by rw[<-hg];exact aVz (aSF _ _) (aSF _ _)
 have hb:g∣b:=by rw[<-hg];exact aVz (aSF _ _) (aUw _ _)
 have hc:g∣c:=by rw[<-hg];exact aUw _ _
 rw[Nat.gcd_div ha hb,Nat.gcd_div (Nat.dvd_gcd ha hb) hc,hg];exact Nat.div_self h0
theorem VX(x:Rat):uV (0-x) 0= -uV x 0:=by
 unfold uV;by_cases h1:x<0
 ·rw[if_pos h1,if_neg (by grind),if_pos (by grind)];rfl
 ·rw[if_neg h1];by_cases h2:0<x
  ·rw[if_pos h2,if_pos (by grind)]
  ·rw[if_neg h2,if_neg (by grind),if_neg (by grind)];rfl
theorem Zg(a:V3):yE (KR a) v0= -yE a v0:=by
 unfold yE KR v0;simp only[VX]
 grind
structure Rq(d:V3)(m0 m1 m2:Int):Prop where
 e:d=⟨(m0:Rat),(m1:Rat),(m2:Rat)⟩
 g:aSG (aSG (aSG 0 m0.natAbs) m1.natAbs) m2.natAbs=1
theorem Rq.sA{d:V3}{m0 m1 m2:Int}(h:Rq d m0 m1 m2):sA d=d:=by
 obtain⟨rfl,hg⟩:=h;have hD:pD ⟨(m0:Rat),(m1:Rat),(m2:Rat)⟩=1:=by unfold pD;simp only[Rat.den_intCast];rfl
 have hW:pW ⟨(m0:Rat),(m1:Rat),(m2:Rat)⟩=⟨(m0:Rat),(m1:Rat),(m2:Rat)⟩:=by
  unfold pW dW;rw[hD];congr 1<;>exact Rat.one_mul _
 have hG:pG ⟨(m0:Rat),(m1:Rat),(m2:Rat)⟩=1:=by unfold pG;rw[hW];simp only[Rat.num_intCast];exact hg
 unfold Go.Proofs.YtblnjkjjedanaaaGreatDoor.sA;rw[hG,hW];unfold dW
 have:aSu 1 ((1:Nat):Int)=1:=by decide
 rw[this];congr 1<;>exact Rat.one_mul _
theorem WH{a:V3}{D n0 n1 n2:Int}(h:FrV a D n0 n1 n2)(dY:a≠v0):∃m0 m1 m2:Int,Rq (sA a) m0 m1 m2/\m0.natAbs<=n0.natAbs/\m1.natAbs<=n1.natAbs/\m2.natAbs<=n2.natAbs/\∃c:Rat,c≠0/\sA a=dW c a:=by
 obtain⟨z0,z1,z2,hz,l0,l1,l2⟩:=agX h;have hGp:=PV dY;have hG:pG a=aSG (aSG (aSG 0 z0.natAbs) z1.natAbs) z2.natAbs:=by unfold pG;rw[hz];simp only[Rat.num_intCast]
 have d0:pG a∣z0.natAbs:=by rw[hG,aS1];exact aVz (aSF _ _) (aSF _ _)
 have d1:pG a∣z1.natAbs:=by rw[hG,aS1];exact aVz (aSF _ _) (aUw _ _)
 have d2:pG a∣z2.natAbs:=by rw[hG];exact aUw _ _
 have q0:∀{z:Int},pG a∣z.natAbs->∃m:Int,z=m*(pG a:Int)/\m.natAbs=z.natAbs/pG a:=by
  intro z hd
  have:(pG a:Int)∣z:=Int.ofNat_dvd_left.2 hd
  obtain⟨m,hm⟩:=this;refine⟨m,by rw[hm,Int.mul_comm],?_⟩;rw[hm,aUq,aSv,Nat.mul_div_cancel_left _ hGp]
 obtain⟨m0,e0,f0⟩:=q0 d0;obtain⟨m1,e1,f1⟩:=q0 d1;obtain⟨m2,e2,f2⟩:=q0 d2;have hGq:(((pG a:Nat):Int):Rat)≠0:=fH (by omega);have Y6:∀{z m:Int},z=m*(pG a:Int)->aSu 1 (pG a)*(z:Rat)=(m:Rat):=by
  intro z m e;rw[aVc,e,aUo]
  grind
 refine⟨m0,m1,m2,⟨?_,?_⟩,?_,?_,?_,aSu 1 (pG a)*(pD a:Rat),?_,?_⟩
 ·unfold sA;rw[hz];unfold dW;simp only[Y6 e0,Y6 e1,Y6 e2]
 ·rw[f0,f1,f2];exact WA hG.symm hGp
 ·rw[f0];exact aNm (aQ9 _ _) l0
 ·rw[f1];exact aNm (aQ9 _ _) l1
 ·rw[f2];exact aNm (aQ9 _ _) l2
 ·have hp:=WQ a;have hpq:(((pD a:Nat):Int):Rat)≠0:=fH (by omega);have h3:(((pD a:Nat):Int):Rat)=((pD a:Nat):Rat):=rfl;rw[h3]at hpq;rw[aVc];have h4:((1:Int):Rat)=1:=rfl;rw[h4];intro e;rcases Rat.mul_eq_zero.1 e with h|h
  ·have:(1:Rat)/(((pG a:Nat):Int):Rat)*(((pG a:Nat):Int):Rat)=1:=by grind
   rw[h]at this
   grind
  ·exact hpq h
 ·unfold sA pW dW;simp only[Rat.mul_assoc]
theorem Rq.neg{d:V3}{m0 m1 m2:Int}(h:Rq d m0 m1 m2):Rq (KR d) (-m0) (-m1) (-m2):=by
 obtain⟨rfl,hg⟩:=h;refine⟨?_,by simpa only[Int.natAbs_neg]using hg⟩;unfold KR;simp only[aVy];congr 1<;>grind
theorem tM{a:V3}{D n0 n1 n2:Int}(h:FrV a D n0 n1 n2)(dY:a≠v0):∃m0 m1 m2:Int,Rq (eM a) m0 m1 m2/\m0.natAbs<=n0.natAbs/\m1.natAbs<=n1.natAbs/\m2.natAbs<=n2.natAbs/\(∃c:Rat,c≠0/\eM a=dW c a)/\eM (eM a)=eM a:=by
 obtain⟨m0,m1,m2,hi,l0,l1,l2,c,hc,rm⟩:=WH h dY;unfold eM;by_cases hs:yE (sA a) v0<0
 ·rw[if_pos hs];refine⟨-m0,-m1,-m2,hi.neg,by omega,by omega,by omega,⟨-c,by grind,?_⟩,?_⟩
  ·rw[rm];unfold KR dW;congr 1<;>grind
  ·rw[hi.neg.sA,Zg,if_neg (by omega)]
 ·rw[if_neg hs];refine⟨m0,m1,m2,hi,l0,l1,l2,⟨c,hc,rm⟩,?_⟩;rw[hi.sA,if_neg hs]
def dS(r:List Rat):Tw:=⟨⟨r.getD 0 0,r.getD 1 0,r.getD 2 0⟩,⟨r.getD 3 0,r.getD 4 0,r.getD 5 0⟩⟩
theorem agc{r:List Rat}(h:r.length=6):r=[r.getD 0 0,r.getD 1 0,r.getD 2 0,r.getD 3 0,r.getD 4 0,r.getD 5 0]:=by
 match r,h with
 |[a,b,c,d,e,f],_=>rfl
theorem qT{k:Nat}{r:List Rat}(h:r.length=6)(b:BL k r):BT k (dS r):=
 ⟨⟨b.get (by omega),b.get (by omega),b.get (by omega)⟩,⟨b.get (by omega),b.get (by omega),b.get (by omega)⟩⟩
theorem DI{r:List Rat}(h:r.length=6){k:Nat}(b:BL k r)(hk:k<=98000):∃a,aP E 23 [.agg (r.map fun q=>.str (dh q))]=some (.tuple [a,.int .i64 0])/\wi a (dS r):=by
 have n8:∀s∈r.map dh,s.length<=4611686018427387904:=by
  intro s hs;rw[aMg]at hs;obtain⟨x,hx,rfl⟩:=hs
  have:=yb (b x hx)
  omega
 have hc:=SK b hk;rw[agc h]at n8 hc;simp only[List.map_cons,List.map_nil]at n8 hc;obtain⟨a,h1,h2⟩:=Jr (E:=E) n8;rw[hc]at h1;refine⟨a,?_,?_⟩
 ·conv=>lhs;rw[agc h]
  exact h1
 ·unfold twS at h2;rw[if_pos hc]at h2;simp only[rh]at h2;exact h2
theorem agv{H:Hp}{b:Nat}{ks vs:List AV}{k v:AV}{r:cz}(h:H[b]?=some (.map .live ks vs))(hc:fP E0 [.map .live ks vs] 81 (.jt 0) k v=some [(0,r)]):fP E H 81 (.jt b) k v=some [(b,r)]:=by
 rw[nj C];unfold fP at hc⊢;cases hi:E0.ty 81 with
 |none=>rw[hi]at hc;simp at hc
 |some i=>
  rw[hi]at hc;obtain⟨cV,isAgg,size,bytes,zero,eS⟩:=i;cases cV<;>simp only[h,aPa]at hc⊢<;>try (simp at hc;done)
  split at hc<;>try (simp at hc;done)
  rename_i hp;rw[if_neg hp];split at hc
  ·rename_i e1 e2
   try simp only at hc⊢
   split at hc<;>try (simp at hc;done)
   rename_i Zh
   try rw[Zh]
   try simp only at hc⊢
   split at hc<;>try (simp at hc;done)
   rename_i hs
   try rw[if_pos hs]
   simp only[aKV.injEq,List.cons.injEq,Prod.mk.injEq,true_and,and_true]at hc⊢;exact hc
  ·rename_i e1 e2;simp only[aKV.injEq,List.cons.injEq,Prod.mk.injEq,true_and,and_true]at hc⊢;exact hc
  ·simp at hc
theorem Pf{H:Hp}{b:Nat}{st:gu}{ks vs:List AV}{k r:AV}(h:H[b]?=some (.map st ks vs))(hc:gL E0 [.map st ks vs] 81 (.jt 0) k false=some r):gL E H 81 (.jt b) k false=some r:=by
 rw[nj C,<-hc];unfold gL
 have:FJ H (.jt b)=FJ [.map st ks vs] (.jt 0):=by simp only[FJ,h,aPa]
 rw[this]
theorem sR{aL:Nat}:Aw E aL 81 none=some (.jt aL,[(aL,.map .live [] [])]):=by
 rw[nj C]
 kernel_rfl
theorem xk{aL f:Nat}:aT E aL 80 1 [(0,.func f [] [])]=some (.aI aL 0 1 1 1,[(aL,.cells .live [.func f [] []])]):=by
 rw[nj C]
 kernel_rfl
theorem wJ{aL f g:Nat}:aT E aL 80 2 [(0,.func f [] []),(1,.func g [] [])]=some (.aI aL 0 2 1 2,[(aL,.cells .live [.func f [] [],.func g [] []])]):=by
 rw[nj C]
 kernel_rfl
theorem MF{H l:Hp}{L:Nat}{v:AV}(h:H.length=L):fP E (H++ .map .live [] []::l) 81 (.jt L) (.int .i64 1) v=some [(L,.map .live [.int .i64 1] [v])]:=agv (by rw[jU h];rfl) (by kernel_rfl)
theorem Lu{H l:Hp}{L:Nat}{a v:AV}(h:H.length=L):fP E (H++ .map .live [.int .i64 1] [a]::l) 81 (.jt L) (.int .i64 2) v=some [(L,.map .live [.int .i64 1,.int .i64 2] [a,v])]:=agv (by rw[jU h];rfl) (by kernel_rfl)
theorem L7{H l:Hp}{L:Nat}{a b v:AV}(h:H.length=L):fP E (H++ .map .live [.int .i64 1,.int .i64 2] [a,b]::l) 81 (.jt L) (.int .i64 3) v=some [(L,.map .live [.int .i64 1,.int .i64 2,.int .i64 3] [a,b,v])]:=agv (by rw[jU h];rfl) (by kernel_rfl)
theorem apS{H l:Hp}{L:Nat}{a b c:AV}(h:H.length=L):gL E (H++ .map .live [.int .i64 1,.int .i64 2,.int .i64 3] [a,b,c]::l) 81 (.jt L) (.int .i64 0) false=some .aH:=Pf (by rw[jU h];rfl) (by kernel_rfl)
theorem asf{H l:Hp}{L:Nat}{a b c:AV}(h:H.length=L):gL E (H++ .map .live [.int .i64 1,.int .i64 2,.int .i64 3] [a,b,c]::l) 81 (.jt L) (.int .i64 4) false=some .aH:=Pf (by rw[jU h];rfl) (by kernel_rfl)
theorem amx{H l:Hp}{L:Nat}{a b c:AV}(h:H.length=L):gL E (H++ .map .live [.int .i64 1,.int .i64 2,.int .i64 3] [a,b,c]::l) 81 (.jt L) (.int .i64 5) false=some .aH:=Pf (by rw[jU h];rfl) (by kernel_rfl)
theorem ap6{H l:Hp}{L:Nat}{a b c:AV}(h:H.length=L):gL E (H++ .map .live [.int .i64 1,.int .i64 2,.int .i64 3] [a,b,c]::l) 81 (.jt L) (.int .i64 6) false=some .aH:=Pf (by rw[jU h];rfl) (by kernel_rfl)
theorem W0{n b o:Nat}{H l:Hp}{cs:List AV}(h:b<H.length):lZ n (H.set b (.cells .live cs)++l) b o=if o+n<=cs.length then some (.agg ((cs.drop o).take n))else none:=by
 rw[pC (by rw[List.length_set];exact h),pk (List.getElem?_set_self h) (by decide)]
theorem aw9{H l:Hp}{L:Nat}{a b c:AV}(h:H.length=L):gL E (H++ .map .live [.int .i64 1,.int .i64 2,.int .i64 3] [a,b,c]::l) 81 (.jt L) (.int .i64 1) false=some a:=Pf (by rw[jU h];rfl) (by kernel_rfl)
theorem ano{H l:Hp}{L:Nat}{a b c:AV}(h:H.length=L):gL E (H++ .map .live [.int .i64 1,.int .i64 2,.int .i64 3] [a,b,c]::l) 81 (.jt L) (.int .i64 2) false=some b:=Pf (by rw[jU h];rfl) (by kernel_rfl)
theorem az4{H l:Hp}{L:Nat}{a b c:AV}(h:H.length=L):gL E (H++ .map .live [.int .i64 1,.int .i64 2,.int .i64 3] [a,b,c]::l) 81 (.jt L) (.int .i64 3) false=some c:=Pf (by rw[jU h];rfl) (by kernel_rfl)
def Ae(G:List (List Rat)):List Tw:=G.map dS
def eJ(k n:Int)(cl:Bool):AV:=bO k n cl [] [] [] [] [] [] []
def Jx(G:List (List Rat))(r:AV):Prop:=(G.length=0/\r=eJ 0 0 true)∨(G.length=6/\r=eJ 7 6 true)∨(2<=G.length/\G.length<=5/\r=eJ 8 (G.length:Int) true)∨(G.length=1/\∃k a0 a1 a2 b0 b1 b2 h,sZ (dS (row G 0)) 0=bO k 0 false a0 a1 a2 b0 b1 b2 h/\r=bO k 1 true a0 a1 a2 b0 b1 b2 h)∨(G.length=2/\(dS (row G 0)).a≠v0/\∃k a0 a1 a2 b0 b1 b2 h,Cp (dS (row G 0)) 0=bO k 0 false a0 a1 a2 b0 b1 b2 h/\r=bO k 2 true a0 a1 a2 b0 b1 b2 h)∨(G.length=3/\(dS (row G 0)).a≠v0/\∃k a0 a1 a2 b0 b1 b2 h,(FP (dS (row G 0)) (dS (row G 1)) (dS (row G 2)) 0=bO k 0 false a0 a1 a2 b0 b1 b2 h∨zE (dS (row G 0)) 0=bO k 0 false a0 a1 a2 b0 b1 b2 h)/\r=bO k 3 true a0 a1 a2 b0 b1 b2 h)
theorem nF{k d:Int}{cl:Bool}{a0 a1 a2 b0 b1 b2 h:List UInt8}:bR (.agg [.int .i64 k,.int .i64 d,.bool cl,.str a0,.str a1,.str a2,.str b0,.str b1,.str b2,.str h])=true:=rfl
theorem US(t:Tw):∃k a0 a1 a2 b0 b1 b2 h,sZ t 0=bO k 0 false a0 a1 a2 b0 b1 b2 h:=by
 unfold sZ
 split
 ·exact⟨_,_,_,_,_,_,_,_,rfl⟩
 ·split
  ·exact⟨_,_,_,_,_,_,_,_,rfl⟩
  ·exact⟨_,_,_,_,_,_,_,_,rfl⟩
theorem tw2{cs:List AV}{t0 t1:Tw}(h:oE cs [t0,t1]):∃c0 c1,cs=c0++c1/\wi (.agg c0) t0/\wi (.agg c1) t1:=by
 cases h with
 |@cons c0 vK _ _ h0 OA h'=>
  cases h' with
  |@cons c1 aju _ _ h1 DY h''=>
   cases h'';exact⟨c0,c1,by rw[List.append_nil],h0,h1⟩
theorem tw3{cs:List AV}{t0 t1 t2:Tw}(h:oE cs [t0,t1,t2]):∃c0 c1 c2,cs=c0++(c1++c2)/\wi (.agg c0) t0/\wi (.agg c1) t1/\wi (.agg c2) t2:=by
 cases h with
 |@cons c0 vK _ _ h0 OA h'=>
  obtain⟨c1,c2,rfl,h1,h2⟩:=tw2 h';exact⟨c0,c1,c2,rfl,h0,h1,h2⟩
theorem JD{o:AV}{G:List (List Rat)}{k:Nat}(ho:vJ o G)(hw:nJ G 6)(hb:rH k G)(hk:k<=98000)(R8:G.length<=6)(nN:aP E 8 [.agg [.int .i64 6,o,.aH]]=some (.int .i64 0))
  (h1:∀k a0 a1 a2 b0 b1 b2 h,G.length=1->sZ (dS (row G 0)) 0=bO k 0 false a0 a1 a2 b0 b1 b2 h->aP E 29 [bO k 1 false a0 a1 a2 b0 b1 b2 h,o]=some (.bool true)/\¬((dS (row G 0)).a=v0/\(dS (row G 0)).l=v0))
  (h2:G.length=2->(dS (row G 0)).a≠v0->∃b,aP E 29 [Cp (dS (row G 0)) 2,o]=some (.bool b))
  (h3:G.length=3->(dS (row G 0)).a≠v0->(∃b,aP E 29 [FP (dS (row G 0)) (dS (row G 1)) (dS (row G 2)) 3,o]=some (.bool b))/\∃b,aP E 29 [zE (dS (row G 0)) 3,o]=some (.bool b)):
  ∃r,aP E 9 [.agg [.int .i64 6,o,.aH]]=some (.tuple [r,.int .i64 0])/\Jx G r:=by
 suffices hh:∃u,aP E 9 [.agg [.int .i64 6,o,.aH]]=some u/\∃r,u=(.tuple [r,.int .i64 0])/\Jx G r by
  obtain⟨u,h1,r,rfl,h2⟩:=hh;exact⟨r,h1,h2⟩
 have kO:=ho.len;have mo:=ho.mO;refine nY fn9 ?_;intro ts hl g0;unfold c9;simp only[↓aN,aO,↓aQ,aJ,↓reduceIte,aa,ah,ae,Tryz.f9,aE,hl,g0,nN,mo,kO];refine ft (fun k_ ts H=>∃i w HC cs,k_=G.length-i/\ts.length=98/\gt ts 1=.b9 0 0/\gt ts 2=.b9 1 0/\gt ts 5=w/\gt ts 26=o/\gt ts 27=.int .i64 (G.length:Int)/\gt ts 28=.int .i64 (i:Int)/\H=HC/\(i<=G.length)/\(2<=HC.length)/\(HC[0]?=some (.cells .live [.int .i64 6,o,.aH]))/\(HC[1]?=some (.cells .live [.int .i64 0,.int .i64 0,.bool false,.str [],.str [],.str [],.str [],.str [],.str [],.str []]))/\(wW 24 2 w HC i cs)/\(oE cs (Ae (G.take i)))) (G.length) ?_ ?_
 rotate_left
 ·refine⟨0,.aH,[.cells .live [.int .i64 6,o,.aH],.cells .live [.int .i64 0,.int .i64 0,.bool false,.str [],.str [],.str [],.str [],.str [],.str [],.str []]],[],(by first|omega|rfl|(simp;done)),(by simp only[cP,hl]),?_⟩;simp only[cR,hl,aa,ae]
  iterate 7 refine⟨by first|trivial|rfl|(congr 1;omega)|(simp;done)|(simp;omega),?_⟩
  refine⟨?_,?_,?_,?_,?_,?_⟩
  ·omega
  ·simp
  ·rfl
  ·rfl
  ·exact .inl ⟨rfl,rfl,rfl⟩
  ·exact .nil
 clear hl g0 ts;rintro k_ ts H ⟨i,w,HC,cs,rfl,hl,g1,g2,g5,g26,OD,Kf,rfl,hi,hCl,Td,OH,pV,hT⟩;refine VS ?_;by_cases hd:i<G.length
 ·have dc:decide ((i:Int)<(G.length:Int))=true:=b8 (by omega);have mM:((i:Int)<(G.length:Int))=True:=eq_true (by omega);have w1:aX .i64 ((i:Int)+1)=((i+1:Nat):Int):=by rw[wrap_i64 (by omega) (by omega)];omega
  obtain⟨-,rfl⟩:=ho.resolve_left (fun h=>by rw[h.1]at hd;exact absurd hd (by simp));have p1:=fX (vs:=G.map dO) (i:=i) (by rw[aTV];exact hd);rw[Ag hd]at p1;obtain⟨a,ha,ia⟩:=DI (E:=E) (hw i hd) (hb i hd) hk;obtain⟨c,rfl,iD,vB,Es⟩:=fu ia;obtain⟨tc,htc⟩:∃tc,tc=(row G i).map (fun q=>AV.str (dh q)):=⟨_,rfl⟩;have XO:tc.length=6:=by rw[htc,aTV,hw i hd]
  have ag7:bE tc=true:=by
   rw[htc];generalize row G i=q;induction q with
   |nil=>rfl
   |cons x q ih=>simp only[List.map_cons,bE,aU,ih,Bool.and_self]
  have aiM:dO (row G i)=.aK tc 6:=by unfold dO;rw[<-htc,hw i hd]
  rw[<-htc]at ha;rw[aiM]at p1;have hs2:Kr E 78 (.aK tc 6)=some (.eX tc 0):=Si ac0;have aei:aUr 6 tc=tc:=by rw[<-XO,aQV]
  have YR:aUr 24 c=c:=by rw[<-iD,aQV]
  have pt6:fD true 6 tc 0=some (.agg tc):=by simp[fD,XO,aei]
  have km:∀aL,aT E aL 70 1 [(0,AV.agg c)]=some (.aI aL 0 1 24 1,[(aL,.cells .live c)]):=fun aL=>ee fC rfl (by decide) (by decide) iD
  have V8:=hT.len;have agY:(Ae (G.take i)).length=i:=by unfold Ae;rw[aTV,List.length_take];omega
  obtain⟨bU,H2,iR,Ac,t1,t2,t3⟩:=lQ (E:=E) (H:=H++[.cells .live c]) (x:=c) fC (by decide) (qz (l:=[.cells .live c]) (AZ pV)) (by rw[V8,agY]) iD vB (by unfold gO;omega) (by omega);have JC:(H++[cz.cells gu.live c]).length=H.length+1:=by rw[aMf];rfl
  rw[JC]at iR t1 t2 t3;simp only[aRd,aPr,aPg,aMf,aMm,aO9,aLM,ah]at iR Ac;have ah2:Ae (G.take (i+1))=Ae (G.take i)++[dS (row G i)]:=by unfold Ae;rw[List.take_add_one,List.map_append];congr 1;unfold row;rw[aL5 hd,aQP,aL5 hd];rfl
  simp only[↓aN,aO,↓aQ,aJ,dJ,↓reduceIte,aa,ah,ae,hl,g5,g26,OD,Kf,mM,w1,p1,hs2,pt6,ha,ag7,iD,vB,YR,km,iR,Ac,aKU,aRd,aMf];refine dG ?_;refine⟨_,?_,i+1,(.aI (H.length+2) 0 (i+1) 24 (i+1)),H2,(cs++c),rfl,(by simp only[cP,hl]),?_⟩
  ·first|omega|(simp;omega)
  simp only[cR,hl,aa,ae,g1,g2,g26,OD]
  iterate 7 refine⟨by first|trivial|rfl|(congr 1;omega)|(simp;done)|(simp;omega),?_⟩
  refine⟨?_,?_,?_,?_,?_,?_⟩
  ·omega
  ·omega
  ·rw[t3 0 (by omega) (oP pV (by omega)),aNq (by omega)];exact Td
  ·rw[t3 1 (by omega) (oP pV (by omega)),aNq (by omega)];exact OH
  ·exact .inr ⟨by omega,H.length+2,by omega,by omega,rfl,t1⟩
  ·rw[ah2];exact hT.app ia iD
 ·have dc:decide ((i:Int)<(G.length:Int))=false:=cg (by omega);obtain rfl:i=G.length:=by omega
  rw[aQV]at hT;have wR:k9 w=some (G.length:Int):=by
   rcases pV with⟨h0,-,rfl⟩|⟨-,b,-,-,rfl,-⟩
   ·rw[h0];rfl
   ·rfl
  have c0:=fun l o=>lU (T:=H) (l:=l) (o:=o) (show 0<H.length by omega)
  have Px:=fun o=>kR (o:=o) Td (by decide)
  have a0L:=fun n l o=>pC (T:=H) (n:=n) (l:=l) (o:=o) (show 0<H.length by omega)
  have a0F:=fun n o=>pk (n:=n) (o:=o) Td (by decide)
  have a1L:=fun n l o=>pC (T:=H) (n:=n) (l:=l) (o:=o) (show 1<H.length by omega)
  have QT:=fun n xs l o=>sJ (T:=H) (n:=n) (xs:=xs) (l:=l) (o:=o) (show 1<H.length by omega)
  have QJ:=fun n xs o=>pn (n:=n) (xs:=xs) (o:=o) OH
  have Rb:=fun x l=>rW (T:=H) (l:=l) (x:=x) (show 1<H.length by omega)
  have aS:=fun n cs l o=>W0 (H:=H) (n:=n) (b:=1) (cs:=cs) (l:=l) (o:=o) (show 1<H.length by omega)
  have zH:E.pairs 29 10=[(3,7),(4,7)]:=eR C rfl;have uL:k9 AV.aH=some 0:=rfl;have Z1:0<G.length->∃b,b<H.length/\w=.aI b 0 G.length 24 G.length/\H[b]?=some (.cells .live cs)/\∀l,ow false (H++l) [.aI b 0 G.length 24 G.length]=some ([.aK cs G.length],[b]):=by
   intro h0;rcases pV with⟨h1,-,-⟩|⟨-,b,f1,f2,f3,f4⟩
   ·omega
   ·exact⟨b,f2,f3,f4,fun l=>iJ (st:=.live) (by rw[aNq f2];exact f4) (by decide) (by rw[hT.len];unfold Ae;rw[aTV]) hT.flat⟩
  have afZ:=fun{dr st:Bool} {bl:List AV} {H:Hp} {k:AV->cE->Prop}=>gn (E:=E) (dr:=dr) (st:=st) (f:=24) (bl:=bl) (H:=H) (k:=k) (bS C (by kernel_rfl))
  have NU:=fun{dr st:Bool} {bl:List AV} {H:Hp} {k:AV->cE->Prop}=>gn (E:=E) (dr:=dr) (st:=st) (f:=25) (bl:=bl) (H:=H) (k:=k) (bS C (by kernel_rfl))
  have SH:=fun{dr st:Bool} {bl:List AV} {H:Hp} {k:AV->cE->Prop}=>gn (E:=E) (dr:=dr) (st:=st) (f:=26) (bl:=bl) (H:=H) (k:=k) (bS C (by kernel_rfl))
  have W7:=fun{dr st:Bool} {bl:List AV} {H:Hp} {k:AV->cE->Prop}=>gn (E:=E) (dr:=dr) (st:=st) (f:=27) (bl:=bl) (H:=H) (k:=k) (bS C (by kernel_rfl))
  have aiZ:G.length=0∨G.length=1∨G.length=2∨G.length=3∨G.length=4∨G.length=5∨G.length=6:=by omega
  have D0:∀j,j<G.length->(Ae G).getD j ⟨v0,v0⟩=dS (row G j):=by intro j hj;unfold Ae row;rw[aQP,aLI,aQP,aL5 hj];rfl
  rcases aiZ with h0|h0|h0|h0|h0|h0|h0
  ·rw[h0,show((0:Nat):Int)=0 from rfl]at wR;simp only[↓aN,aO,aJ,dJ,↓reduceIte,aa,ah,ae,ai,hl,g5,OD,Kf,sR,xk,wJ,MF,Lu,L7,wR,apS,uL,dc,aRd,aMf];refine ew 1 ?_;simp only[↓aN,aO,aJ,dJ,↓reduceIte,aa,ah,ae,ao,ai,hl,g1,g2,g5,wR,c0,Px,QT,QJ,Rb,uL,aS,zH,aMf];exact⟨_,rfl,.inl ⟨h0,rfl⟩⟩
  ·rw[h0,show((1:Nat):Int)=1 from rfl]at wR;obtain⟨b,VM,rfl,hbH,gg⟩:=Z1 (by omega);obtain⟨k',x0,x1,x2,y0,y1,y2,hh,hj⟩:=US (dS (row G 0));obtain⟨hs1,hnz⟩:=h1 k' x0 x1 x2 y0 y1 y2 hh h0 hj;obtain⟨c,hc,ZB⟩:=hT.get (i:=0) (by unfold Ae;rw[aTV];omega);rw[D0 0 (by omega)]at ZB;have sd:cs=c:=by
    have:=hT.len
    rw[show(Ae G).length=1 by unfold Ae;rw[aTV,h0]]at this;rw[<-hc,Nat.zero_mul,aPp,List.take_of_length_le (by omega)]
   subst sd;have hal:=O6 (E:=E) ZB (qT (hw 0 (by omega)) (hb 0 (by omega))) (by omega) hnz;rw[hj]at hal;unfold bO at hal hs1;rw[h0]at gg g5 wR;simp only[↓aN,aO,aJ,dJ,↓reduceIte,aa,ah,ae,ai,aD,hl,g5,OD,Kf,sR,xk,wJ,MF,Lu,L7,wR,aw9,dc,aRd,aMf];refine ew 2 ?_;simp only[↓aN,aO,↓aQ,aJ,dJ,↓reduceIte,aa,ah,ae,an,ao,aq,ai,ar,hl,g1,g2,g5,wR,c0,Px,QT,QJ,Rb,nF,mo,uL,aS,zH,gg,afZ,hal,hs1,aRd,aMf];exact⟨_,rfl,.inr (.inr (.inr (.inl ⟨h0,k',x0,x1,x2,y0,y1,y2,hh,hj,rfl⟩)))⟩
  ·rw[h0,show((2:Nat):Int)=2 from rfl]at wR;obtain⟨b,VM,rfl,hbH,gg⟩:=Z1 (by omega);have bL:=fun n l o=>pC (T:=H) (n:=n) (l:=l) (o:=o) VM
   have bF:=fun n o=>pk (n:=n) (o:=o) hbH (by decide)
   have hT2:oE cs [dS (row G 0),dS (row G 1)]:=by
    have:Ae G=[dS (row G 0),dS (row G 1)]:=by
     refine oN (d:=⟨v0,v0⟩) (by unfold Ae;rw[aTV,h0];rfl) (fun j hj=>?_);unfold Ae at hj;rw[aTV,h0]at hj;rw[D0 j (by omega)]
     match j,hj with
     |0,_=>rfl
     |1,_=>rfl
    rw[<-this];exact hT
   obtain⟨e0,e1,rfl,q0,q1⟩:=tw2 hT2;have l1:=xe q1;have VW:=qT (hw 0 (by omega)) (hb 0 (by omega));obtain⟨J8,Km,Kz,JK,Ng,MV,N1,Nc,ND,Ol,NW,Oe,G6,G3,Hg,Hb,GB,E7,U7,T4,VR,Vz,VG,VJ,e,ha,hbb⟩:=id q0;simp only[AV.agg.injEq]at e;subst e;have A:=bP ha;have hz:=gH (E:=E) ha VW.1 (by omega);rw[h0]at gg g5 wR;simp only[↓aN,aO,aJ,dJ,↓reduceIte,aa,ah,ae,ai,aD,hl,g5,OD,Kf,sR,xk,wJ,MF,Lu,L7,wR,ano,dc,aRd,aMf];by_cases HK:(dS (row G 0)).a=v0
   ·rw[b8 HK]at hz;refine ew 2 ?_;simp only[↓aN,aO,↓aQ,aJ,dJ,↓reduceIte,aa,ah,ak,ae,an,ao,aq,ai,ar,aA,hl,g1,g2,g5,wR,c0,Px,QT,QJ,Rb,uL,aS,zH,bL,bF,hz,A,l1,uj,aMf];exact⟨_,rfl,.inr (.inr (.inl ⟨by omega,by omega,by rw[h0];rfl⟩))⟩
   ·rw[cg HK]at hz;have hcy:=yW (E:=E) q0 l1 VW (by omega) HK;obtain⟨bb,qo⟩:=h2 h0 HK;unfold Cp bO at hcy qo;simp only[aPr,aPg]at hcy;refine ew 2 ?_;cases bb with
    |true=>
     simp only[↓aN,aO,↓aQ,aJ,dJ,↓reduceIte,aa,ah,ak,ae,an,ao,aq,ai,ar,hl,g1,g2,g5,wR,c0,Px,QT,QJ,Rb,nF,mo,uL,aS,zH,bL,bF,hz,A,l1,NU,gg,hcy,qo,aRd,aMf];exact⟨_,rfl,.inr (.inr (.inr (.inr (.inl ⟨h0,HK,_,_,_,_,_,_,_,_,rfl,rfl⟩))))⟩
    |false=>
     simp only[↓aN,aO,↓aQ,aJ,dJ,↓reduceIte,aa,ah,ak,ae,an,ao,aq,ai,ar,aA,hl,g1,g2,g5,wR,c0,Px,QT,QJ,Rb,nF,mo,uL,aS,zH,bL,bF,hz,A,l1,uj,NU,gg,hcy,qo,aRd,aMf];exact⟨_,rfl,.inr (.inr (.inl ⟨by omega,by omega,by rw[h0];rfl⟩))⟩
  ·rw[h0,show((3:Nat):Int)=3 from rfl]at wR;obtain⟨b,VM,rfl,hbH,gg⟩:=Z1 (by omega);have bL:=fun n l o=>pC (T:=H) (n:=n) (l:=l) (o:=o) VM
   have bF:=fun n o=>pk (n:=n) (o:=o) hbH (by decide)
   have hT3:oE cs [dS (row G 0),dS (row G 1),dS (row G 2)]:=by
    have:Ae G=[dS (row G 0),dS (row G 1),dS (row G 2)]:=by
     refine oN (d:=⟨v0,v0⟩) (by unfold Ae;rw[aTV,h0];rfl) (fun j hj=>?_);unfold Ae at hj;rw[aTV,h0]at hj;rw[D0 j (by omega)]
     match j,hj with
     |0,_=>rfl
     |1,_=>rfl
     |2,_=>rfl
    rw[<-this];exact hT
   obtain⟨e0,e1,e2,rfl,q0,q1,q2⟩:=tw3 hT3;have l1:=xe q1;have l2:=xe q2;have VW:=qT (hw 0 (by omega)) (hb 0 (by omega));have ayj:=qT (hw 1 (by omega)) (hb 1 (by omega));have ayh:=qT (hw 2 (by omega)) (hb 2 (by omega));obtain⟨J8,Km,Kz,JK,Ng,MV,N1,Nc,ND,Ol,NW,Oe,G6,G3,Hg,Hb,GB,E7,U7,T4,VR,Vz,VG,VJ,e,ha,hbb⟩:=id q0;simp only[AV.agg.injEq]at e;subst e;have A:=bP ha;have hz:=gH (E:=E) ha VW.1 (by omega);rw[h0]at gg g5 wR;simp only[↓aN,aO,aJ,dJ,↓reduceIte,aa,ah,ae,ai,aD,hl,g5,OD,Kf,sR,xk,wJ,MF,Lu,L7,wR,az4,dc,aRd,aMf];by_cases HK:(dS (row G 0)).a=v0
   ·rw[b8 HK]at hz;refine ew 3 ?_;simp only[↓aN,aO,↓aQ,aJ,dJ,↓reduceIte,aa,ah,ak,ae,an,ao,aq,ai,ar,aA,hl,g1,g2,g5,wR,c0,Px,QT,QJ,Rb,uL,aS,zH,bL,bF,hz,A,l1,l2,uj,zZ,aMf];exact⟨_,rfl,.inr (.inr (.inl ⟨by omega,by omega,by rw[h0];rfl⟩))⟩
   ·rw[cg HK]at hz;have hba:=Vf (E:=E) q0 q1 q2 VW ayj ayh (by omega);have tE:=Rp (E:=E) (c2:=e1++e2) q0 VW (by omega) HK;obtain⟨⟨bb,qo⟩,bp,hsq⟩:=h3 h0 HK;unfold FP bO at hba qo;simp only[aPr,aPg]at hba tE;unfold zE bO at tE hsq;refine ew 3 ?_;cases bb with
    |true=>
     simp only[↓aN,aO,↓aQ,aJ,dJ,↓reduceIte,aa,ah,ak,ae,an,ao,aq,ai,ar,hl,g1,g2,g5,wR,c0,Px,QT,QJ,Rb,nF,mo,uL,aS,zH,bL,bF,hz,A,l1,l2,SH,gg,hba,qo,aRd,aMf];exact⟨_,rfl,.inr (.inr (.inr (.inr (.inr ⟨h0,HK,_,_,_,_,_,_,_,_,.inl rfl,rfl⟩))))⟩
    |false=>
     cases bp with
     |true=>
      simp only[↓aN,aO,↓aQ,aJ,dJ,↓reduceIte,aa,ah,ak,ae,an,ao,aq,ai,ar,aA,hl,g1,g2,g5,wR,c0,Px,QT,QJ,Rb,nF,mo,uL,aS,zH,bL,bF,hz,A,l1,l2,uj,SH,W7,gg,hba,qo,tE,hsq,aRd,aMf];exact⟨_,rfl,.inr (.inr (.inr (.inr (.inr ⟨h0,HK,_,_,_,_,_,_,_,_,.inr rfl,rfl⟩))))⟩
     |false=>
      simp only[↓aN,aO,↓aQ,aJ,dJ,↓reduceIte,aa,ah,ak,ae,an,ao,aq,ai,ar,aA,hl,g1,g2,g5,wR,c0,Px,QT,QJ,Rb,nF,mo,uL,aS,zH,bL,bF,hz,A,l1,l2,uj,zZ,SH,W7,gg,hba,qo,tE,hsq,aRd,aMf];exact⟨_,rfl,.inr (.inr (.inl ⟨by omega,by omega,by rw[h0];rfl⟩))⟩
  ·rw[h0,show((4:Nat):Int)=4 from rfl]at wR;simp only[↓aN,aO,aJ,dJ,↓reduceIte,aa,ah,ae,ai,aD,hl,g5,OD,Kf,sR,xk,wJ,MF,Lu,L7,wR,asf,uL,dc,aRd,aMf];refine ew 1 ?_;simp only[↓aN,aO,aJ,dJ,↓reduceIte,aa,ah,ae,ao,ai,hl,g1,g2,g5,wR,c0,Px,QT,QJ,Rb,uL,aS,zH,aMf];exact⟨_,rfl,.inr (.inr (.inl ⟨by omega,by omega,by rw[h0];rfl⟩))⟩
  ·rw[h0,show((5:Nat):Int)=5 from rfl]at wR;simp only[↓aN,aO,aJ,dJ,↓reduceIte,aa,ah,ae,ai,aD,hl,g5,OD,Kf,sR,xk,wJ,MF,Lu,L7,wR,amx,uL,dc,aRd,aMf];refine ew 1 ?_;simp only[↓aN,aO,aJ,dJ,↓reduceIte,aa,ah,ae,ao,ai,hl,g1,g2,g5,wR,c0,Px,QT,QJ,Rb,uL,aS,zH,aMf];exact⟨_,rfl,.inr (.inr (.inl ⟨by omega,by omega,by rw[h0];rfl⟩))⟩
  ·rw[h0,show((6:Nat):Int)=6 from rfl]at wR;simp only[↓aN,aO,aJ,dJ,↓reduceIte,aa,ah,ae,ai,aD,hl,g5,OD,Kf,sR,xk,wJ,MF,Lu,L7,wR,ap6,uL,dc,aRd,aMf];refine ew 1 ?_;simp only[↓aN,aO,aJ,dJ,↓reduceIte,aa,ah,ae,ao,ai,hl,g1,g2,g5,wR,c0,Px,QT,QJ,Rb,uL,aS,zH,aMf];exact⟨_,rfl,.inr (.inl ⟨h0,rfl⟩)⟩
theorem oV{B:Nat}{D n0 n1 n2 n3 n4 n5:Int}(hD:D≠0)(hB:D.natAbs<=2^B)(h:∀z∈[n0,n1,n2,n3,n4,n5],z.natAbs<=2^B):CV B (fv [(n0:Rat)/D,(n1:Rat)/D,(n2:Rat)/D,(n3:Rat)/D,(n4:Rat)/D,(n5:Rat)/D]):=by
 have hDq:=fH hD;simp only[aMc,aS7,or_false,forall_eq_or_imp,forall_eq]at h;obtain⟨h0,h1,h2,h3,h4,h5⟩:=h;refine⟨D,fun c=>[n0,n1,n2,n3,n4,n5].getD c 0,hD,hB,fun c=>?_⟩
 match c with
 |0=>exact⟨rfl,h0⟩
 |1=>exact⟨rfl,h1⟩
 |2=>exact⟨rfl,h2⟩
 |3=>exact⟨rfl,h3⟩
 |4=>exact⟨rfl,h4⟩
 |5=>exact⟨rfl,h5⟩
 |c+6=>
  refine⟨?_,aVe _⟩;show(0:Rat)=((0:Int):Rat)/D
  have:((0:Int):Rat)=0:=rfl
  rw[this]
  grind
theorem I3{B:Nat}{r:List Rat}(h:CV B (fv r)):∃D n0 n1 n2 m0 m1 m2:Int,FrV (dS r).a D n0 n1 n2/\FrV (dS r).l D m0 m1 m2/\D.natAbs<=2^B/\n0.natAbs<=2^B/\n1.natAbs<=2^B/\n2.natAbs<=2^B/\m0.natAbs<=2^B/\m1.natAbs<=2^B/\m2.natAbs<=2^B:=by obtain⟨D,A,h0,h1,h2⟩:=h;exact⟨D,A 0,A 1,A 2,A 3,A 4,A 5,⟨h0,(h2 0).1,(h2 1).1,(h2 2).1⟩,⟨h0,(h2 3).1,(h2 4).1,(h2 5).1⟩,h1,(h2 0).2,(h2 1).2,(h2 2).2,(h2 3).2,(h2 4).2,(h2 5).2⟩
theorem fe{a b:Int}{x y:Nat}(ha:a.natAbs<=x)(hb:b.natAbs<=y):(a*b).natAbs<=x*y:=by rw[aUq];exact aQY ha hb
theorem az3(B:Nat):2^(3*B+3)=8*(2^B*2^B*2^B):=by rw[show 3*B+3=3+(B+B+B)by omega,aQ3,aQ3,aQ3]
theorem ax0(B:Nat):2^(2*B+2)=4*(2^B*2^B):=by rw[show 2*B+2=2+(B+B)by omega,aQ3,aQ3]
theorem acq(a b c D:Rat)(hD:D≠0):0+a/D*(a/D)+b/D*(b/D)+c/D*(c/D)=(a*a+b*b+c*c)/(D*D):=by grind
theorem Uh(a b c d D N:Rat)(hD:D≠0)(hN:N≠0):1/(N/(D*D))*(a/D*(b/D)-c/D*(d/D))=(a*b-c*d)/N:=by
 have h1:1/(N/(D*D))=D*D/N:=by grind
 rw[h1];have h2:a/D*(b/D)-c/D*(d/D)=(a*b-c*d)/(D*D):=by grind
 rw[h2]
 grind
theorem QX(a b c d e f D N:Rat)(hD:D≠0)(hN:N≠0):(0+a/D*(b/D)+c/D*(d/D)+e/D*(f/D))*(1/(N/(D*D)))=(a*b+c*d+e*f)/N:=by
 have h1:1/(N/(D*D))=D*D/N:=by grind
 rw[h1];have h2:0+a/D*(b/D)+c/D*(d/D)+e/D*(f/D)=(a*b+c*d+e*f)/(D*D):=by grind
 rw[h2]
 grind
theorem bd2{x y:Int}{X:Nat}(hx:x.natAbs<=X)(hy:y.natAbs<=X):(x-y).natAbs<=2*X:=by omega
theorem bd3{x y z:Int}{X:Nat}(hx:x.natAbs<=X)(hy:y.natAbs<=X)(hz:z.natAbs<=X):(x+y+z).natAbs<=3*X:=by omega
theorem Eo{B:Nat}{t:Tw}{D n0 n1 n2 m0 m1 m2:Int}(ha:FrV t.a D n0 n1 n2)(hl:FrV t.l D m0 m1 m2)(b0:n0.natAbs<=2^B)(b1:n1.natAbs<=2^B)(b2:n2.natAbs<=2^B)(c0:m0.natAbs<=2^B)(c1:m1.natAbs<=2^B)(c2:m2.natAbs<=2^B)(dY:t.a≠v0):
  ∃u0 u1 u2 N p0 p1 p2 q:Int,eM t.a=⟨u0,u1,u2⟩/\u0.natAbs<=2^B/\u1.natAbs<=2^B/\u2.natAbs<=2^B/\N≠0/\N.natAbs<=3*(2^B*2^B)/\om t=⟨(p0:Rat)/N,(p1:Rat)/N,(p2:Rat)/N⟩/\oh t=(q:Rat)/N/\p0.natAbs<=2*(2^B*2^B)/\p1.natAbs<=2*(2^B*2^B)/\p2.natAbs<=2*(2^B*2^B)/\q.natAbs<=3*(2^B*2^B)/\(∃c:Rat,c≠0/\eM t.a=dW c t.a)/\eM (eM t.a)=eM t.a:=by
 obtain⟨u0,u1,u2,hi,e0,e1,e2,hc,hid⟩:=tM ha dY;have hDq:=fH ha.ne;have hs:=qQ dY;have hdd:mu t.a t.a=((n0*n0+n1*n1+n2*n2:Int):Rat)/((D:Rat)*(D:Rat)):=by unfold mu;rw[ha.x,ha.y,ha.z,acq _ _ _ _ hDq,aVB,aVB,aUo,aUo,aUo]
 have hN:(n0*n0+n1*n1+n2*n2:Int)≠0:=by
  intro e;apply hs;rw[hdd,e]
  have:((0:Int):Rat)=0:=rfl
  rw[this]
  grind
 have Vs:=fH hN;obtain⟨N,hNe⟩:∃N,N=n0*n0+n1*n1+n2*n2:=⟨_,rfl⟩;rw[<-hNe]at hdd hN Vs;have k00:=fe b0 b0;have k11:=fe b1 b1;have k22:=fe b2 b2;have x12:=fe b1 c2;have x21:=fe b2 c1;have x20:=fe b2 c0;have x02:=fe b0 c2;have x01:=fe b0 c1;have x10:=fe b1 c0;have y0:=fe b0 c0;have y1:=fe b1 c1;have y2:=fe b2 c2;have h1:((1:Int):Rat)=1:=rfl;refine⟨u0,u1,u2,N,n1*m2-n2*m1,n2*m0-n0*m2,n0*m1-n1*m0,n0*m0+n1*m1+n2*m2,hi.e,aNm e0 b0,aNm e1 b1,aNm e2 b2,hN,by rw[hNe];exact bd3 k00 k11 k22,?_,?_,bd2 x12 x21,bd2 x20 x02,bd2 x01 x10,bd3 y0 y1 y2,hc,hid⟩
 ·unfold om;rw[hdd,h1];unfold dW dH;simp only[ha.x,ha.y,ha.z,hl.x,hl.y,hl.z,aVG,aUo,Uh _ _ _ _ _ _ hDq Vs]
 ·unfold oh;rw[hdd,h1];unfold mu;simp only[ha.x,ha.y,ha.z,hl.x,hl.y,hl.z,aVB,aUo,QX _ _ _ _ _ _ _ _ hDq Vs]
theorem Tg{f g:Nat->FV}{c:Rat}(hc:c≠0)(h:∀i,f 0 i=c*g 0 i)(x:FV):gy (SR 1 f) x↔gy (SR 1 g) x:=by
 refine⟨gy.trans ?_,gy.trans ?_⟩
 ·rintro a ⟨i,hi,e⟩
  have:i=0:=by omega
  subst this;exact gy.uB (x:=fun _=>0) c (.zero fun _=>rfl) (gy.of (SR.get (f:=g) (i:=0) (by omega))) (fun j=>by rw[e,h];grind)
 ·rintro a ⟨i,hi,e⟩
  have:i=0:=by omega
  subst this;exact gy.uB (x:=fun _=>0) (1/c) (.zero fun _=>rfl) (gy.of (SR.get (f:=f) (i:=0) (by omega))) (fun j=>by rw[e,h];grind)
theorem ach{b:Nat}{t:Tw}(h:CV b (fv t.qs)):BT (b+1) t:=by
 have:=As h
 unfold Tw.qs at this;exact⟨⟨this _ (by simp),this _ (by simp),this _ (by simp)⟩,⟨this _ (by simp),this _ (by simp),this _ (by simp)⟩⟩
theorem UG{ts:List Tw}{i:Nat}(h:i<ts.length):row (jI ts) i=(ts.getD i ⟨v0,v0⟩).qs:=by unfold row jI;rw[aQP,aLI,aQP,aL5 h];rfl
theorem Ft{b:Nat}{ts:List Tw}(h:∀t∈ts,CV b (fv t.qs)):CR b (jI ts)/\BTs (b+1) ts:=by
 refine⟨fun i hi=>?_,fun t ht=>ach (h t ht)⟩;have AK:i<ts.length:=by unfold jI at hi;rwa[aTV]at hi
 rw[UG AK];refine h _ ?_;rw[aQP,aL5 AK];exact aMn AK
theorem ah0{b m:Nat}(hb:b<=7600)(hm:m<=3):Small 6 b m:=by refine⟨by omega,by omega,?_,by omega⟩;have h1:2^m<=2^3:=aQT (by omega) hm;exact aNm (aQY h1 (show b+1<=7601 by omega)) (by decide)
theorem UC{x:Int}{X:Nat}(hx:x.natAbs<=3*X):x.natAbs<=8*X:=by omega
theorem akr{x y z:Int}{X:Nat}(hx:x.natAbs<=2*X)(hy:y.natAbs<=2*X)(hz:z.natAbs<=3*X):(x-y+z).natAbs<=8*X:=by omega
theorem aiE{x y:Int}{X:Nat}(hx:x.natAbs<=2*X)(hy:y.natAbs<=2*X):(x-y).natAbs<=8*X:=by omega
theorem Ma{B:Nat}{u0 u1 u2 N p0 p1 p2 q:Int}(hN:N≠0)(Ly:u0.natAbs<=2^B)(NY:u1.natAbs<=2^B)(NC:u2.natAbs<=2^B)(bN:N.natAbs<=3*(2^B*2^B))(bp0:p0.natAbs<=2*(2^B*2^B))(bp1:p1.natAbs<=2*(2^B*2^B))(bp2:p2.natAbs<=2*(2^B*2^B))(bq:q.natAbs<=3*(2^B*2^B)):
  CV (3*B+3) (fv (Bs (ed ⟨u0,u1,u2⟩ ⟨(p0:Rat)/N,(p1:Rat)/N,(p2:Rat)/N⟩) (kd (dW ((q:Rat)/N) ⟨u0,u1,u2⟩))).qs)/\CV (3*B+3) (fv (ed ⟨u0,u1,u2⟩ ⟨(p0:Rat)/N,(p1:Rat)/N,(p2:Rat)/N⟩).qs):=by
 have Vs:=fH hN;have h3:=az3 B;have hNB:N.natAbs<=2^(3*B+3):=by
  rw[h3]
  have:2^B*2^B*1<=2^B*2^B*2^B:=aPQ _ aVx
  omega
 have l3:∀{a b:Int} {k:Nat},a.natAbs<=k*(2^B*2^B)->b.natAbs<=2^B->(a*b).natAbs<=k*(2^B*2^B*2^B):=by intro a b k ha hb;rw[<-aPv,aUq];exact aQY ha hb
 have a0:=l3 bN Ly;have a1:=l3 bN NY;have a2:=l3 bN NC;have b12:=l3 bp1 NC;have b21:=l3 bp2 NY;have b20:=l3 bp2 Ly;have b02:=l3 bp0 NC;have b01:=l3 bp0 NY;have b10:=l3 bp1 Ly;have q0:=l3 bq Ly;have q1:=l3 bq NY;have q2:=l3 bq NC;generalize hX:2^B*2^B*2^B=X at*;constructor
 ·have e:(Bs (ed ⟨(u0:Rat),u1,u2⟩ ⟨(p0:Rat)/N,(p1:Rat)/N,(p2:Rat)/N⟩) (kd (dW ((q:Rat)/N) ⟨u0,u1,u2⟩))).qs=[((N*u0:Int):Rat)/N,((N*u1:Int):Rat)/N,((N*u2:Int):Rat)/N,((p1*u2-p2*u1+q*u0:Int):Rat)/N,((p2*u0-p0*u2+q*u1:Int):Rat)/N,((p0*u1-p1*u0+q*u2:Int):Rat)/N]:=by
   unfold Bs ed kd Tw.qs CS dH dW v0;simp only[aVB,aVG,aUo,List.cons.injEq,and_true];refine⟨?_,?_,?_,?_,?_,?_⟩<;>grind
  rw[e];refine oV hN hNB ?_;rw[h3];simp only[aMc,aS7,or_false,forall_eq_or_imp,forall_eq];exact⟨UC a0,UC a1,UC a2,akr b12 b21 q0,akr b20 b02 q1,akr b01 b10 q2⟩
 ·have e:(ed ⟨(u0:Rat),u1,u2⟩ ⟨(p0:Rat)/N,(p1:Rat)/N,(p2:Rat)/N⟩).qs=[((N*u0:Int):Rat)/N,((N*u1:Int):Rat)/N,((N*u2:Int):Rat)/N,((p1*u2-p2*u1:Int):Rat)/N,((p2*u0-p0*u2:Int):Rat)/N,((p0*u1-p1*u0:Int):Rat)/N]:=by
   unfold ed Tw.qs dH;simp only[aVG,aUo,List.cons.injEq,and_true];refine⟨?_,?_,?_,?_,?_,?_⟩<;>grind
  rw[e];refine oV hN hNB ?_;rw[h3];simp only[aMc,aS7,or_false,forall_eq_or_imp,forall_eq];exact⟨UC a0,UC a1,UC a2,aiE b12 b21,aiE b20 b02,aiE b01 b10⟩
theorem Mh{B:Nat}{u0 u1 u2:Int}(b0:u0.natAbs<=2^B)(b1:u1.natAbs<=2^B)(b2:u2.natAbs<=2^B):CV B (fv (kd ⟨u0,u1,u2⟩).qs):=by
 have e:(kd ⟨(u0:Rat),u1,u2⟩).qs=[((0:Int):Rat)/((1:Int):Rat),((0:Int):Rat)/((1:Int):Rat),((0:Int):Rat)/((1:Int):Rat),(u0:Rat)/((1:Int):Rat),(u1:Rat)/((1:Int):Rat),(u2:Rat)/((1:Int):Rat)]:=by
  have h0:((0:Int):Rat)=0:=rfl;have h1:((1:Int):Rat)=1:=rfl;unfold kd Tw.qs v0;rw[h0,h1];simp only[List.cons.injEq,and_true];refine⟨?_,?_,?_,?_,?_,?_⟩<;>grind
 rw[e];refine oV (by decide) aVx ?_;intro z hz;simp only[aMc,aS7,or_false]at hz;rcases hz with rfl|rfl|rfl|rfl|rfl|rfl<;>first|assumption|exact aVe _
theorem cI{q:Rat}{k:Nat}(h:Bq k q)(hk:k<=98000):(dh q).length<=65536:=by have:=yb h;omega
theorem FT{a:V3}{k:Nat}(h:BV k a)(hk:k<=98000):kQ 65536 (dh a.x) (dh a.y) (dh a.z)=0/\cT 65536 (dh a.x) (dh a.y) (dh a.z)=a:=by
 have h1:=oG h.1 hk;have h2:=oG h.2.1 hk;have h3:=oG h.2.2 hk;have hc:kQ 65536 (dh a.x) (dh a.y) (dh a.z)=0:=by unfold kQ;rw[h1,h2,h3];rfl
 refine⟨hc,?_⟩;unfold cT;rw[if_pos hc,rh,rh,rh]
theorem vS{B:Nat}{u0 u1 u2:Int}(b0:u0.natAbs<=2^B)(b1:u1.natAbs<=2^B)(b2:u2.natAbs<=2^B):BV (B+1) ⟨(u0:Rat),u1,u2⟩:=by have hp:2^B<2^(B+1):=Nat.pow_lt_pow_right (by omega) (by omega);exact⟨Bq.int (by omega) (by omega),Bq.int (by omega) (by omega),Bq.int (by omega) (by omega)⟩
theorem x5{B:Nat}{N p0 p1 p2:Int}(hN:N≠0)(bN:N.natAbs<=3*(2^B*2^B))(b0:p0.natAbs<=3*(2^B*2^B))(b1:p1.natAbs<=3*(2^B*2^B))(b2:p2.natAbs<=3*(2^B*2^B)):BV (2*B+3) ⟨(p0:Rat)/N,(p1:Rat)/N,(p2:Rat)/N⟩:=by have h:=ax0 B;exact⟨fO hN (by omega) (by omega),fO hN (by omega) (by omega),fO hN (by omega) (by omega)⟩
theorem apI{k d:Int}{cl:Bool}{a0 a1 a2 b0 b1 b2 h:List UInt8}:∃cs,bO k d cl a0 a1 a2 b0 b1 b2 h=.agg cs/\cs.length=10/\cs.all df=true:=⟨_,rfl,rfl,rfl⟩
theorem GP(ax ay az lx ly lz c r S:Rat)(hS:S=0+ax*ax+ay*ay+az*az)(hr:r*S=1):r*(az*lx-ax*lz)*(c*az)-r*(ax*ly-ay*lx)*(c*ay)+(0+ax*lx+ay*ly+az*lz)*r*(c*ax)=c*lx:=by
 have:r*(az*lx-ax*lz)*(c*az)-r*(ax*ly-ay*lx)*(c*ay)+(0+ax*lx+ay*ly+az*lz)*r*(c*ax)=c*lx*(r*S):=by rw[hS];grind
 rw[this,hr,Rat.mul_one]
theorem T8{t:Tw}{c:Rat}(dY:t.a≠v0)(hc:eM t.a=dW c t.a):CS (dH (om t) (eM t.a)) (dW (oh t) (eM t.a))=dW c t.l:=by
 have hS:=qQ dY;have hr:(((1:Int):Rat)/mu t.a t.a)*mu t.a t.a=1:=by
  have h1:((1:Int):Rat)=1:=rfl;rw[h1]
  grind
 rw[hc];unfold om oh;obtain⟨r,Ln⟩:∃r,r=((1:Int):Rat)/mu t.a t.a:=⟨_,rfl⟩;rw[<-Ln]at hr⊢;obtain⟨⟨ax,ay,az⟩,lx,ly,lz⟩:=t;have h1:=GP ax ay az lx ly lz c r _ rfl hr;have h2:=GP ay az ax ly lz lx c r (0+ax*ax+ay*ay+az*az) (by grind) hr;have h3:=GP az ax ay lz lx ly c r (0+ax*ax+ay*ay+az*az) (by grind) hr;unfold CS dH dW mu;simp only;congr 1
 ·rw[<-h2];grind
 ·rw[<-h3];grind
theorem nE{k d:Int}{cl:Bool}{a0 a1 a2 b0 b1 b2 h:List UInt8}{v o:AV}{fJ:List Tw}{G:List (List Rat)}{b:Nat}(hv:aP E 40 [bO k d cl a0 a1 a2 b0 b1 b2 h]=some v)(hT:sX v fJ)(Hk:∀t∈fJ,CV b (fv t.qs))(hb:b<=7600)(hm:fJ.length<=3)(ho:vJ o G)(hw:nJ G 6)(R8:G.length<=6):
  ∃K P,aP E 29 [bO k d cl a0 a1 a2 b0 b1 b2 h,o]=some (.bool (decide (K=G)))/\nJ K 6/\rN 6 K.length (fun i=>iN K i) P (gy (SR fJ.length (rf (jI fJ)))):=by
 obtain⟨h1,h2⟩:=Ft Hk;exact Qc (E:=E) rfl apI hv hT h2 (by omega) h1 (ah0 hb hm) ho hw R8
theorem zV{k d:Int}{cl:Bool}{a0 a1 a2 b0 b1 b2 h:List UInt8}{v o:AV}{t:Tw}{G:List (List Rat)}{b:Nat}{P:Nat->Nat}{c:Rat}(hv:aP E 40 [bO k d cl a0 a1 a2 b0 b1 b2 h]=some v)(hT:sX v [t])(Hk:CV b (fv t.qs))(hb:b<=7600)(ho:vJ o G)(hw:nJ G 6)(hG1:G.length=1)(hE:rN 6 G.length (fun i=>iN G i) P (gy (SR G.length (rf G))))(hc:c≠0)(ht:∀i,fv t.qs i=c*fv (row G 0) i):
  aP E 29 [bO k d cl a0 a1 a2 b0 b1 b2 h,o]=some (.bool true):=by
 obtain⟨K,P',qo,hKw,hKE⟩:=nE (E:=E) hv hT (by intro x hx;rw[List.mem_singleton]at hx;subst hx;exact Hk) hb (by simp) ho hw (by omega);have hKG:K=G:=by
  refine Fv (oZ _) (hKE.congr (V:=gy (SR G.length (rf G))) (fun x=>?_)) hE hKw hw;rw[hG1];refine Tg (f:=rf (jI [t])) (g:=rf G) hc (fun i=>?_) x;show fv (row (jI [t]) 0) i=c*fv (row G 0) i
  rw[<-ht i];rfl
 rw[b8 hKG]at qo;exact qo
theorem KT{r:List Rat}(h:r.length=6){t:Tw}{c:Rat}(ha:t.a=dW c (dS r).a)(hl:t.l=dW c (dS r).l)(i:Nat):fv t.qs i=c*fv r i:=by
 obtain⟨⟨a0,a1,a2⟩,⟨l0,l1,l2⟩⟩:=t;unfold dW dS at ha hl;simp only[V3.mk.injEq]at ha hl;obtain⟨rfl,rfl,rfl⟩:=ha;obtain⟨rfl,rfl,rfl⟩:=hl
 match i with
 |0=>rfl
 |1=>rfl
 |2=>rfl
 |3=>rfl
 |4=>rfl
 |5=>rfl
 |i+6=>
  have:fv r (i+6)=0:=sO h (by omega)
  rw[this];show(0:Rat)=_
  grind
theorem Iy(a:V3):CS a v0=a:=by
 obtain⟨x,y,z⟩:=a;unfold CS v0;simp only;congr 1<;>grind
theorem NQ(a:V3):dW 0 a=v0:=by
 obtain⟨x,y,z⟩:=a;unfold dW v0;simp only;congr 1<;>grind
theorem UP(c:Rat):dW c v0=v0:=by
 unfold dW v0;simp only;congr 1<;>grind
theorem YJ{G:List (List Rat)}{P:Nat->Nat}{W:FV->Prop}(hE:rN 6 G.length (fun i=>iN G i) P W)(h:0<G.length):¬((dS (row G 0)).a=v0/\(dS (row G 0)).l=v0):=by
 rintro⟨ha,hl⟩;have h1:=hE.one 0 0 h h;have h2:=hE.lt 0 h;rw[if_pos rfl]at h1;unfold dS v0 at ha hl;simp only[V3.mk.injEq]at ha hl;have h3:∀i,i<6->(row G 0).getD i 0=0:=by
  intro i hi
  match i,hi with
  |0,_=>exact ha.1
  |1,_=>exact ha.2.1
  |2,_=>exact ha.2.2
  |3,_=>exact hl.1
  |4,_=>exact hl.2.1
  |5,_=>exact hl.2.2
 have h4:=h3 (P 0) h2;have h5:(row G 0).getD (P 0) 0=1:=h1;rw[h4]at h5;exact absurd h5 (by decide)
theorem aoE{o:AV}{G:List (List Rat)}{P:Nat->Nat}{B:Nat}(ho:vJ o G)(hw:nJ G 6)(hG1:G.length=1)(hE:rN 6 G.length (fun i=>iN G i) P (gy (SR G.length (rf G))))(Oz:CV B (fv (row G 0)))(hB:B<=2500)(k:Int)(a0 a1 a2 b0 b1 b2 h:List UInt8)(hj:sZ (dS (row G 0)) 0=bO k 0 false a0 a1 a2 b0 b1 b2 h):
  aP E 29 [bO k 1 false a0 a1 a2 b0 b1 b2 h,o]=some (.bool true)/\¬((dS (row G 0)).a=v0/\(dS (row G 0)).l=v0):=by
 have dY:=YJ hE (by omega);refine⟨?_,dY⟩;have hr6:=hw 0 (by omega);obtain⟨D,n0,n1,n2,m0,m1,m2,fa,fl,bD,G6,Hg,GB,G3,Hb,E7⟩:=I3 Oz;unfold sZ at hj;by_cases hz:(dS (row G 0)).a=v0
 ·rw[if_pos hz]at hj;have hlz:(dS (row G 0)).l≠v0:=fun e=>dY ⟨hz,e⟩
  obtain⟨u0,u1,u2,hi,e0,e1,e2,⟨c,hc,rm⟩,-⟩:=tM fl hlz;have bu:=vS (B:=B) (u0:=u0) (u1:=u1) (u2:=u2) (by omega) (by omega) (by omega);rw[<-hi.e]at bu;obtain⟨-,hvv⟩:=FT bu (by omega);unfold bO at hj;simp only[AV.agg.injEq,List.cons.injEq,AV.int.injEq,AV.str.injEq,true_and,and_true]at hj;obtain⟨rfl,rfl,rfl,rfl,rfl,rfl,rfl,rfl⟩:=hj;have l0:=cI bu.1 (by omega);have l1:=cI bu.2.1 (by omega);have l2:=cI bu.2.2 (by omega);obtain⟨v,hv,hT⟩:=A5 (E:=E) (d:=1) (cl:=false) (b0:=[]) (b1:=[]) (b2:=[]) (h:=[]) l0 l1 l2 (by simp) (by simp) (by simp) (k:=B+1) (l:=1) (by rw[hvv];exact bu) (by
   have:cT 65536 [] [] []=v0:=rfl
   rw[this];exact⟨BA,BA,BA⟩) (by omega)
  rw[hvv]at hT;refine zV (E:=E) hv hT (b:=B) ?_ (by omega) ho hw hG1 hE hc (KT hr6 ?_ ?_)
  ·rw[hi.e];exact Mh (by omega) (by omega) (by omega)
  ·rw[hz,UP];rfl
  ·exact rm
 ·rw[if_neg hz]at hj;obtain⟨u0,u1,u2,N,p0,p1,p2,q,hu,Ly,NY,NC,hN,bN,hp,hh,bp0,bp1,bp2,bq,⟨c,hc,rm⟩,-⟩:=Eo fa fl G6 Hg GB G3 Hb E7 hz;have bu:=vS Ly NY NC;have bp:=x5 (B:=B) hN bN (p0:=p0) (p1:=p1) (p2:=p2) (by omega) (by omega) (by omega);have bh:Bq (2*B+3) ((q:Rat)/N):=(x5 (B:=B) hN bN (p0:=q) (p1:=q) (p2:=q) bq bq bq).1;obtain⟨sc1,sc2⟩:=Ma hN Ly NY NC bN bp0 bp1 bp2 bq;have hmul:=T8 hz rm;rw[<-hu]at bu sc1 sc2;rw[<-hp]at bp sc1 sc2;rw[<-hh]at bh sc1;obtain⟨-,hvu⟩:=FT bu (by omega);obtain⟨-,VH⟩:=FT bp (by omega);have lu0:=cI bu.1 (by omega);have lu1:=cI bu.2.1 (by omega);have lu2:=cI bu.2.2 (by omega);have lp0:=cI bp.1 (by omega);have lp1:=cI bp.2.1 (by omega);have lp2:=cI bp.2.2 (by omega);have lh:=cI bh (by omega);by_cases pY:oh (dS (row G 0))=0
  ·rw[if_pos pY]at hj;unfold bO at hj;simp only[AV.agg.injEq,List.cons.injEq,AV.int.injEq,AV.str.injEq,true_and,and_true]at hj;obtain⟨rfl,rfl,rfl,rfl,rfl,rfl,rfl,rfl⟩:=hj;obtain⟨v,hv,hT⟩:=Ay (E:=E) (d:=1) (cl:=false) (h:=[]) lu0 lu1 lu2 lp0 lp1 lp2 (k:=B+1) (l:=2*B+3) (by rw[hvu];exact bu) (by rw[VH];exact bp) (by omega);rw[hvu,VH]at hT;refine zV (E:=E) hv hT sc2 (by omega) ho hw hG1 hE hc (KT hr6 rm ?_);rw[<-hmul,pY,NQ,Iy];rfl
  ·rw[if_neg pY]at hj;unfold bO at hj;simp only[AV.agg.injEq,List.cons.injEq,AV.int.injEq,AV.str.injEq,true_and,and_true]at hj;obtain⟨rfl,rfl,rfl,rfl,rfl,rfl,rfl,rfl⟩:=hj;have pX:cN 65536 (dh (oh (dS (row G 0))))=0:=oG bh (by omega);have VK:(if cN 65536 (dh (oh (dS (row G 0))))=0 then fh (dh (oh (dS (row G 0))))else 0)=oh (dS (row G 0)):=by rw[if_pos pX,rh]
   obtain⟨v,hv,hT⟩:=Ba (E:=E) (d:=1) (cl:=false) lu0 lu1 lu2 lp0 lp1 lp2 lh (k:=B+1) (l:=2*B+3) (q:=2*B+3) (by rw[VK];exact bh) (by rw[hvu];exact bu) (by rw[VH];exact bp) (by omega) (by omega);rw[hvu,VH,VK]at hT;refine zV (E:=E) hv hT sc1 (by omega) ho hw hG1 hE hc (KT hr6 ?_ ?_)
   ·show CS (eM (dS (row G 0)).a) v0=_
    rw[Iy];exact rm
   ·exact hmul
theorem aqQ{o:AV}{G:List (List Rat)}{B:Nat}(ho:vJ o G)(hw:nJ G 6)(R8:G.length<=6)(Oz:CV B (fv (row G 0)))(hB:B<=2500)(hz:(dS (row G 0)).a≠v0):∃b,aP E 29 [Cp (dS (row G 0)) 2,o]=some (.bool b):=by
 obtain⟨D,n0,n1,n2,m0,m1,m2,fa,fl,bD,G6,Hg,GB,G3,Hb,E7⟩:=I3 Oz;obtain⟨u0,u1,u2,N,p0,p1,p2,q,hu,Ly,NY,NC,hN,bN,hp,hh,bp0,bp1,bp2,bq,⟨c,hc,rm⟩,-⟩:=Eo fa fl G6 Hg GB G3 Hb E7 hz;have bu:=vS Ly NY NC;have bp:=x5 (B:=B) hN bN (p0:=p0) (p1:=p1) (p2:=p2) (by omega) (by omega) (by omega);obtain⟨-,sc2⟩:=Ma hN Ly NY NC bN bp0 bp1 bp2 bq;have st:=Mh Ly NY NC;rw[<-hu]at bu sc2 st;rw[<-hp]at bp sc2;obtain⟨-,hvu⟩:=FT bu (by omega);obtain⟨-,VH⟩:=FT bp (by omega);obtain⟨v,hv,hT⟩:=qJ (E:=E) (d:=2) (cl:=false) (h:=[]) (cI bu.1 (by omega)) (cI bu.2.1 (by omega)) (cI bu.2.2 (by omega)) (cI bp.1 (by omega)) (cI bp.2.1 (by omega)) (cI bp.2.2 (by omega)) (k:=B+1) (l:=2*B+3) (by rw[hvu];exact bu) (by rw[VH];exact bp) (by omega);rw[hvu,VH]at hT;obtain⟨K,P',qo,-,-⟩:=nE (E:=E) hv hT (b:=3*B+3) (by
  intro t ht;simp only[aMc,aS7,or_false]at ht;rcases ht with rfl|rfl
  ·exact sc2
  ·exact st.mono (by omega)) (by omega) (by simp) ho hw R8
 exact⟨_,qo⟩
theorem q1:((1:Int):Rat)=1:=rfl
theorem q0:((0:Int):Rat)=0:=rfl
theorem aa3{B:Nat}{D p0 p1 p2:Int}(hD:D≠0)(bD:D.natAbs<=2^B)(b0:p0.natAbs<=2^B)(b1:p1.natAbs<=2^B)(b2:p2.natAbs<=2^B):∀t∈[ed Dy ⟨(p0:Rat)/D,(p1:Rat)/D,(p2:Rat)/D⟩,ed G4 ⟨(p0:Rat)/D,(p1:Rat)/D,(p2:Rat)/D⟩,ed G1 ⟨(p0:Rat)/D,(p1:Rat)/D,(p2:Rat)/D⟩],CV B (fv t.qs):=by
 have hDq:=fH hD;have z0:(0:Int).natAbs<=2^B:=aVe _;intro t ht;simp only[aMc,aS7,or_false]at ht;rcases ht with rfl|rfl|rfl
 ·have e:(ed Dy ⟨(p0:Rat)/D,(p1:Rat)/D,(p2:Rat)/D⟩).qs=[(D:Rat)/D,((0:Int):Rat)/D,((0:Int):Rat)/D,((0:Int):Rat)/D,(p2:Rat)/D,((-p1:Int):Rat)/D]:=by
   unfold ed Tw.qs dH Dy;simp only[aVy,q0,q1,List.cons.injEq,and_true];refine⟨?_,?_,?_,?_,?_,?_⟩<;>grind
  rw[e];refine oV hD bD ?_;simp only[aMc,aS7,or_false,forall_eq_or_imp,forall_eq];exact⟨bD,z0,z0,z0,b2,by omega⟩
 ·have e:(ed G4 ⟨(p0:Rat)/D,(p1:Rat)/D,(p2:Rat)/D⟩).qs=[((0:Int):Rat)/D,(D:Rat)/D,((0:Int):Rat)/D,((-p2:Int):Rat)/D,((0:Int):Rat)/D,(p0:Rat)/D]:=by
   unfold ed Tw.qs dH G4;simp only[aVy,q0,q1,List.cons.injEq,and_true];refine⟨?_,?_,?_,?_,?_,?_⟩<;>grind
  rw[e];refine oV hD bD ?_;simp only[aMc,aS7,or_false,forall_eq_or_imp,forall_eq];exact⟨z0,bD,z0,by omega,z0,b0⟩
 ·have e:(ed G1 ⟨(p0:Rat)/D,(p1:Rat)/D,(p2:Rat)/D⟩).qs=[((0:Int):Rat)/D,((0:Int):Rat)/D,(D:Rat)/D,(p1:Rat)/D,((-p0:Int):Rat)/D,((0:Int):Rat)/D]:=by
   unfold ed Tw.qs dH G1;simp only[aVy,q0,q1,List.cons.injEq,and_true];refine⟨?_,?_,?_,?_,?_,?_⟩<;>grind
  rw[e];refine oV hD bD ?_;simp only[aMc,aS7,or_false,forall_eq_or_imp,forall_eq];exact⟨z0,z0,bD,b1,by omega,z0⟩
theorem XQ{B:Nat}{u0 u1 u2:Int}(b0:u0.natAbs<=2^B)(b1:u1.natAbs<=2^B)(b2:u2.natAbs<=2^B){ts:List Tw}(h:SP ⟨(u0:Rat),u1,u2⟩ ts):∀t∈ts,CV B (fv t.qs):=by
 have z0:(0:Int).natAbs<=2^B:=aVe _;have o1:(1:Int).natAbs<=2^B:=aVx;obtain⟨rest,rfl,-,jn⟩:=h;intro t ht;rw[aMc]at ht;rcases ht with rfl|ht
 ·have e:(ed ⟨(u0:Rat),u1,u2⟩ v0).qs=[(u0:Rat)/((1:Int):Rat),(u1:Rat)/((1:Int):Rat),(u2:Rat)/((1:Int):Rat),((0:Int):Rat)/((1:Int):Rat),((0:Int):Rat)/((1:Int):Rat),((0:Int):Rat)/((1:Int):Rat)]:=by
   unfold ed Tw.qs dH v0;simp only[q0,q1,List.cons.injEq,and_true];refine⟨?_,?_,?_,?_,?_,?_⟩<;>grind
  rw[e];refine oV (by decide) o1 ?_;simp only[aMc,aS7,or_false,forall_eq_or_imp,forall_eq];exact⟨b0,b1,b2,z0,z0,z0⟩
 ·obtain⟨j,rfl⟩:=jn t ht
  match j with
  |0=>
   have e:dH ⟨(u0:Rat),u1,u2⟩ (eV 0)=⟨((0:Int):Rat),(u2:Rat),((-u1:Int):Rat)⟩:=by
    unfold dH eV Dy;simp only[aVy,q0,q1];congr 1<;>grind
   rw[e];exact Mh z0 b2 (by omega)
  |1=>
   have e:dH ⟨(u0:Rat),u1,u2⟩ (eV 1)=⟨((-u2:Int):Rat),((0:Int):Rat),(u0:Rat)⟩:=by
    unfold dH eV G4;simp only[aVy,q0,q1];congr 1<;>grind
   rw[e];exact Mh (by omega) z0 b0
  |j+2=>
   have e:dH ⟨(u0:Rat),u1,u2⟩ (eV (j+2))=⟨(u1:Rat),((-u0:Int):Rat),((0:Int):Rat)⟩:=by
    unfold dH eV G1;simp only[aVy,q0,q1];congr 1<;>grind
   rw[e];exact Mh b1 (by omega) z0
theorem amL{o:AV}{G:List (List Rat)}{B:Nat}(ho:vJ o G)(hw:nJ G 6)(hG3:G.length=3)(Oz:CB B G.length (rf G))(hB:B<=7500)(hz:(dS (row G 0)).a≠v0):(∃b,aP E 29 [FP (dS (row G 0)) (dS (row G 1)) (dS (row G 2)) 3,o]=some (.bool b))/\∃b,aP E 29 [zE (dS (row G 0)) 3,o]=some (.bool b):=by
 constructor
 ·obtain⟨D,A,d0,d1,d2⟩:=Oz;have e1:=d2 1 (by omega) 5;have e2:=d2 2 (by omega) 3;have e3:=d2 0 (by omega) 4;have hx:(dS (row G 1)).l.z=(A 1 5:Rat)/D:=e1.1;have hy:(dS (row G 2)).l.x=(A 2 3:Rat)/D:=e2.1;have HK:(dS (row G 0)).l.y=(A 0 4:Rat)/D:=e3.1;have bp:BV (B+1) ⟨(A 1 5:Rat)/D,(A 2 3:Rat)/D,(A 0 4:Rat)/D⟩:=⟨fO d0 e1.2 d1,fO d0 e2.2 d1,fO d0 e3.2 d1⟩;obtain⟨-,VH⟩:=FT bp (by omega);have Hk:=aa3 d0 d1 e1.2 e2.2 e3.2;unfold FP;rw[hx,hy,HK];obtain⟨v,hv,hT⟩:=Bh (E:=E) (d:=3) (cl:=false) (a0:=[]) (a1:=[]) (a2:=[]) (h:=[]) (by simp) (by simp) (by simp) (cI bp.1 (by omega)) (cI bp.2.1 (by omega)) (cI bp.2.2 (by omega)) (l:=B+1) (by rw[VH];exact bp) (by omega);rw[VH]at hT;obtain⟨K,P',qo,-,-⟩:=nE (E:=E) hv hT (b:=B) Hk (by omega) (by simp) ho hw (by omega);exact⟨_,qo⟩
 ·obtain⟨D,n0,n1,n2,m0,m1,m2,fa,fl,bD,G6,Hg,GB,G3,Hb,E7⟩:=I3 (Oz.row (i:=0) (by omega));obtain⟨u0,u1,u2,hi,e0,e1,e2,-,-⟩:=tM fa hz;have bu:=vS (B:=B) (u0:=u0) (u1:=u1) (u2:=u2) (by omega) (by omega) (by omega);rw[<-hi.e]at bu;obtain⟨-,hvu⟩:=FT bu (by omega);unfold zE;obtain⟨v,hv,ts,hT,hPl⟩:=AI (E:=E) (d:=3) (cl:=false) (b0:=[]) (b1:=[]) (b2:=[]) (h:=[]) (cI bu.1 (by omega)) (cI bu.2.1 (by omega)) (cI bu.2.2 (by omega)) (by simp) (by simp) (by simp) (k:=B+1) (by rw[hvu];exact bu) (by omega);rw[hvu,hi.e]at hPl;have Hk:=XQ (B:=B) (by omega) (by omega) (by omega) hPl;have n8:ts.length<=3:=by obtain⟨rest,rfl,h2,-⟩:=hPl;rw[aMm];omega
  obtain⟨K,P',qo,-,-⟩:=nE (E:=E) hv hT (b:=B) Hk (by omega) n8 ho hw (by omega);exact⟨_,qo⟩
theorem MN{P:Nat->Nat}{f:Nat->FV}{W:FV->Prop}(h:rN 6 6 f P W):∀i,i<6->P i=i:=by
 have h0:=h.lt 0 (by omega);have h1:=h.lt 1 (by omega);have h2:=h.lt 2 (by omega);have h3:=h.lt 3 (by omega);have h4:=h.lt 4 (by omega);have h5:=h.lt 5 (by omega);have m0:=h.mono 0 1 (by omega) (by omega);have m1:=h.mono 1 2 (by omega) (by omega);have m2:=h.mono 2 3 (by omega) (by omega);have m3:=h.mono 3 4 (by omega) (by omega);have m4:=h.mono 4 5 (by omega) (by omega);intro i hi
 match i,hi with
 |0,_=>omega
 |1,_=>omega
 |2,_=>omega
 |3,_=>omega
 |4,_=>omega
 |5,_=>omega
theorem aa1{G:List (List Rat)}{P:Nat->Nat}{W:FV->Prop}(hw:nJ G 6)(hG:G.length=6)(h:rN 6 G.length (fun i=>iN G i) P W):CR 0 G:=by
 rw[hG]at h;have hp:=MN h;intro i hi;rw[hG]at hi;refine⟨1,fun c=>if i=c then 1 else 0,by decide,by decide,fun c=>⟨?_,by simp only;split<;>decide⟩⟩;simp only;by_cases hc:c<6
 ·have h1:=h.one i c hi hc;rw[hp c hc]at h1;have h2:fv (row G i) c=if i=c then 1 else 0:=h1
  rw[h2];by_cases e:i=c
  ·rw[if_pos e,if_pos e];simp only[q1];grind
  ·rw[if_neg e,if_neg e];simp only[q0,q1];grind
 ·have h2:fv (row G i) c=0:=sO (hw i (by omega)) (by omega);rw[h2,if_neg (by omega)];simp only[q0,q1];grind
theorem Nf{b:Nat}{L G:List (List Rat)}{P:Nat->Nat}(SE:nJ L 6)(hcL:CR b L)(hb:b<=440)(hL:L.length<=6)(hwG:nJ G 6)(hE:rN 6 G.length (fun i=>iN G i) P (gy (SR L.length (rf L)))):∃c,Canon 6 b c L G:=by
 obtain⟨s1,s2,s3⟩:=Fb SE hcL hE;have hsm:Small 6 b L.length:=by refine⟨by omega,by omega,?_,hL⟩;have h1:2^L.length<=2^6:=aQT (by omega) hL;exact aNm (aQY h1 (show b+1<=441 by omega)) (by decide)
 by_cases h6:G.length=6
 ·refine⟨0,⟨by omega,by omega,SE,hcL,hsm,hwG,aa1 hwG h6 hE,⟨P,hE⟩,s2,?_,by omega⟩⟩;rw[h6];decide
 ·refine⟨gB b G.length,⟨by omega,by omega,SE,hcL,hsm,hwG,Xr s3,⟨P,hE⟩,s2,?_,?_⟩⟩
  ·have h1:=R3 (b:=gB b G.length) (m:=G.length);have h2:=Gm (b:=b) (r:=G.length);have h5:G.length=0∨G.length=1∨G.length=2∨G.length=3∨G.length=4∨G.length=5:=by omega
   rcases h5 with h5|h5|h5|h5|h5|h5<;>rw[h5]at h1 h2⊢<;>simp only[aVA]at h1 h2⊢<;>omega
  ·have h2:=Gm (b:=b) (r:=G.length);have h5:G.length=0∨G.length=1∨G.length=2∨G.length=3∨G.length=4∨G.length=5:=by omega
   rcases h5 with h5|h5|h5|h5|h5|h5<;>rw[h5]at h2⊢<;>simp only[aVA]at h2⊢<;>omega
theorem zm{o:AV}{b:Nat}{L G:List (List Rat)}{P:Nat->Nat}(SE:nJ L 6)(hcL:CR b L)(hb:b<=440)(hL:L.length<=6)(ho:vJ o G)(hwG:nJ G 6)(hE:rN 6 G.length (fun i=>iN G i) P (gy (SR L.length (rf L)))):
  ∃r,aP E 9 [.agg [.int .i64 6,o,.aH]]=some (.tuple [r,.int .i64 0])/\Jx G r:=by
 obtain⟨c,hC⟩:=Nf SE hcL hb hL hwG hE;obtain⟨s1,s2,s3⟩:=Fb SE hcL hE;have nN:=DE (E:=E) ho hC;rw[show((6:Nat):Int)=6 from rfl]at nN;have hEG:rN 6 G.length (fun i=>iN G i) P (gy (SR G.length (rf G))):=hE.congr (fun x=>hE.spn (oZ _));have h2:=Gm (b:=b) (r:=G.length);refine JD (E:=E) ho hwG hC.cG.ME hC.c1 s2 nN (fun k a0 a1 a2 b0 b1 b2 h hG1 hj=>?_) (fun hG2 hz=>?_) (fun hG3 hz=>?_)
 ·exact aoE (E:=E) ho hwG hG1 hEG (s3.row (by omega)) (by rw[hG1]at h2⊢;simp only[aVA]at h2;omega) k a0 a1 a2 b0 b1 b2 h hj
 ·exact aqQ (E:=E) ho hwG s2 (s3.row (by omega)) (by rw[hG2]at h2⊢;simp only[aVA]at h2;omega) hz
 ·exact amL (E:=E) ho hwG hG3 s3 (by rw[hG3]at h2⊢;simp only[aVA]at h2;omega) hz
end Go.Proofs.YtblnjkjjedanaaaGreatDoor
