/- A part of the proof that PairRefuses returns true for every input; no condition of its own. -/
import Derived.Test.YtblnjkjjedanaaaGreatDoorTaw
set_option linter.all false
set_option maxHeartbeats 100000000
set_option maxRecDepth 100000
open List renaming getD_eq_getElem?_getD->aSW,getElem?_eq_getElem->aMh,getElem?_append_left->aOB,length_append->aMk,getElem?_set_ne->aN9,length_map->aOT,getElem?_set_self->aOc,eq_nil_of_length_eq_zero->aVC,getElem_of_mem->aVB,getElem?_map->aNe,ext_getElem->aXw,take_length->aR7,mem_append->aNg,length_set->aPp,drop_zero->aQh,length_singleton->aWX,mem_map->aNp,map_map->aXx
open Nat renaming le_trans->aNR,le_refl->aLr,mul_le_mul->aSb,pow_le_pow_right->aRX,mul_le_mul_left->aQn,zero_le->aXy,mul_one->aQq,reduceLT->aa,reduceEqDiff->ae,reduceAdd->ah
open Option renaming getD_some->aNt
open Int renaming reduceBNe->aE
namespace Go.Proofs.YtblnjkjjedanaaaGreatDoor
open Go Dv Dv.bV
variable{E:Env}[C:Ctx E]
def mz(v:AV)(G:List (List Rat)):Prop:=(G=[]/\v=.aH)∨(G≠[]/\v=.aJ (G.map dS) G.length)
theorem mz.len{v:AV}{G:List (List Rat)}(h:mz v G):jP v=some (G.length:Int):=by
 rcases h with⟨rfl,rfl⟩|⟨h0,rfl⟩<;>rfl
theorem mz.pure{v:AV}{G:List (List Rat)}(h:mz v G):aN v=true:=by
 rcases h with⟨rfl,rfl⟩|⟨h0,rfl⟩<;>rfl
theorem sX{G:List (List Rat)}{i:Nat}(h:i<G.length):(G.map dS).getD i aX=dS (row G i):=by unfold row;rw[aSW,aNe,aSW,aMh h];rfl
theorem Hz{q:List Rat}{k:Nat}(h:BL k q)(hk:k<=98000)(hn:q.length<=1000):∃r,aO E 52 [dS q]=some (.tuple [r,.int .i64 0])/\gy r q:=by
 obtain⟨r,h1,h2,-⟩:=yN (E:=E) (ss:=q.map bC) (by
  intro s hs;rw[aNp]at hs;obtain⟨x,hx,rfl⟩:=hs
  have:=rm (h x hx)
  omega) (by rw[aOT];exact hn)
 rw[Jc h hk]at h1 h2
 have:=h2 rfl
 rw[Jx]at this;refine⟨r,?_,this⟩;unfold dS;rw[aOT,aXx]at h1;exact h1
theorem qU{v:AV}{G:List (List Rat)}{n k:Nat}(h:mz v G)(hw:iX G n)(hb:mR k G)(hk:k<=98000)(hn:n<=1000)(hm:G.length<=1000):
  ∃r,aO E 54 [v]=some r/\tG r G n:=by
 have zN:=h.len;have pv:=h.pure;refine mO avp ?_;intro ts hl g0;unfold c54;simp only[↓aQ,aR,aK,aa,ae,Tryz.f54,hl,g0,zN];refine fh (fun k_ ts H=>∃i w vr HC,k_=G.length-i/\ts.length=25/\gt ts 3=w/\gt ts 8=v/\gt ts 9=.int .i64 (G.length:Int)/\gt ts 10=.int .i64 (i:Int)/\H=HC/\(i<=G.length)/\(u7 1 0 w HC i vr)/\(vr.length=i/\∀j,j<i->gy (vr.getD j aX) (row G j))) (G.length) ?_ ?_
 rotate_left
 ·refine⟨0,.aH,[],[],(by first|omega|rfl|(simp;done)),(by simp only[cK,hl]),?_⟩;simp only[cM,hl,aa,ae]
  iterate 5 refine⟨by first|trivial|rfl|(congr 1;omega)|(simp;done)|(simp;omega),?_⟩
  refine⟨?_,?_,?_⟩
  ·omega
  ·exact .inl ⟨rfl,rfl,rfl⟩
  ·exact⟨rfl,fun j hj=>by omega⟩
 clear hl g0 ts;rintro k_ ts H ⟨i,w,vr,HC,rfl,hl,g3,g8,g9,g10,rfl,hi,vL,Ez⟩;refine VS ?_;by_cases hd:i<G.length
 ·have dc:decide ((i:Int)<(G.length:Int))=true:=cF (by omega);have oF:((i:Int)<(G.length:Int))=True:=eq_true (by omega);have w1:aV .i64 ((i:Int)+1)=((i+1:Nat):Int):=by rw[wrap_i64 (by omega) (by omega)];omega
  obtain⟨-,rfl⟩:=h.resolve_left (fun h=>by rw[h.1]at hd;exact absurd hd (by simp));have p1:=dL (vs:=G.map dS) (i:=i) (by rw[aOT];exact hd);rw[sX hd]at p1;obtain⟨r,hr,ir⟩:=Hz (E:=E) (hb i hd) hk (by rw[hw i hd];exact hn);obtain⟨cs,rfl,rc⟩:=id ir;have ptx:aN (dS (row G i))=true:=rfl;obtain⟨R,hR⟩:∃R,R=AV.aJ cs (row G i).length:=⟨_,rfl⟩;rw[<-hR]at hr;have hRM:R.cells=[R]/\b7 R=true/\aN R=true/\bJ R=false/\Flat R:=by subst hR;exact⟨rfl,rfl,rfl,rfl,fun _ _=>rfl⟩
  have zO:bJ (.tuple [R,.int .i64 0])=false:=by subst hR;rfl
  obtain⟨bM,H2,gT,uJ,t1,t2,t3⟩:=jR (E:=E) (H:=H) (x:=[R]) By (by decide) vL (by omega) rfl (by simp only[List.all_cons,hRM.2.1,List.all_nil,Bool.and_self]) (by unfold gq;omega) (by omega);have pS:∀aM,aW E aM 65 1 [(0,R)]=some (.aI aM 0 1 1 1,[(aM,.cells .live [R])]):=fun aM=>by
   have:=gE (E:=E) (aM:=aM) (v:=R) By rfl (by decide) (by decide) (by rw[hRM.1];rfl)
   rw[hRM.1]at this;exact this
  simp only[↓aQ,aR,↓aT,aK,↓reduceIte,aa,ae,hl,g3,g8,g9,g10,oF,w1,p1,ptx,hr,zO,pS,eO,gT,uJ,tH];refine dO ?_;refine⟨_,?_,i+1,(.aI (H.length+1) 0 (i+1) 1 (i+1)),(vr++[R]),H2,rfl,(by simp only[cK,hl]),?_⟩
  ·first|omega|(simp;omega)
  simp only[cM,hl,aa,ae,g8,g9]
  iterate 5 refine⟨by first|trivial|rfl|(congr 1;omega)|(simp;done)|(simp;omega),?_⟩
  refine⟨?_,?_,?_⟩
  ·omega
  ·exact .inr ⟨by omega,H.length+1,aXy _,by omega,rfl,t1⟩
  ·refine⟨by rw[aMk,Ez.1];rfl,fun j hj=>?_⟩;by_cases MZ:j<i
   ·rw[jC (by omega)];exact Ez.2 j MZ
   ·rw[jB (by omega),show j=i by omega,hR];exact ir
 ·have dc:decide ((i:Int)<(G.length:Int))=false:=cH (by omega);obtain rfl:i=G.length:=by omega
  rcases vL with⟨e1,e2,rfl⟩|⟨e1,b,e2,e3,rfl,e5⟩
  ·simp only[↓aQ,aR,↓reduceIte,aa,ae,hl,g3,g9,g10,dc];exact .inl ⟨aVC e1,rfl⟩
  ·have gf:=jQ (H:=H) (b:=b) (m:=G.length) (s:=1) (st:=.live) e5 (by decide) (by omega) (by
    intro x hx;obtain⟨j,hj,e⟩:=aVB hx;obtain⟨cs,f1,-⟩:=Ez.2 j (by omega);rw[aSW,aMh hj,aNt,e]at f1;rw[f1];exact fun _ _=>rfl)
   simp only[↓aQ,aR,↓reduceIte,aa,ae,hl,g3,g9,g10,dc,gf];exact .inr ⟨fun h=>by rw[h]at e1;exact absurd e1 (by simp),vr,rfl,Ez.1,fun j hj=>⟨Ez.2 j hj,hw j hj⟩⟩
theorem rR{v:AV}{G:List (List Rat)}{n k most:Nat}(h:mz v G)(hw:iX G n)(hb:mR k G)(hk:k<=98000)(hn:n<=1000)(hm:G.length<=most)(Wo:most<=256):
  ∃r,aO E 20 [.int .i64 (n:Int),v,.int .i64 (most:Int)]=some (.tuple [r,.int .i64 0])/\tG r G n:=by
 suffices hh:∃u,aO E 20 [.int .i64 (n:Int),v,.int .i64 (most:Int)]=some u/\∃r,u=.tuple [r,.int .i64 0]/\tG r G n by
  obtain⟨u,h1,r,rfl,h2⟩:=hh;exact⟨r,h1,h2⟩
 have hgt:decide ((G.length:Int)>(most:Int))=false:=cH (by omega);have zN:=h.len;have pv:=h.pure;refine Zj anj ?_;intro ts hl g0 g1 g2;unfold c20;simp only[↓aQ,aR,aK,aa,ae,Tryz.f20,hl,g1,g2,zN,hgt];refine fh (fun k_ ts H=>∃i w vr HC,k_=G.length-i/\ts.length=41/\gt ts 0=.int .i64 (n:Int)/\gt ts 8=w/\gt ts 17=v/\gt ts 18=.int .i64 (G.length:Int)/\gt ts 19=.int .i64 (i:Int)/\H=HC/\(i<=G.length)/\(u7 1 0 w HC i vr)/\(vr.length=i/\∀j,j<i->gy (vr.getD j aX) (row G j))) (G.length) ?_ ?_
 rotate_left
 ·refine⟨0,.aH,[],[],(by first|omega|rfl|(simp;done)),(by simp only[cK,hl]),?_⟩;simp only[cM,hl,aa,ae,g0]
  iterate 6 refine⟨by first|trivial|rfl|(congr 1;omega)|(simp;done)|(simp;omega),?_⟩
  refine⟨?_,?_,?_⟩
  ·omega
  ·exact .inl ⟨rfl,rfl,rfl⟩
  ·exact⟨rfl,fun j hj=>by omega⟩
 clear hl g0 g1 g2 ts;rintro k_ ts H ⟨i,w,vr,HC,rfl,hl,g0,g8,g17,g18,g19,rfl,hi,vL,Ez⟩;refine VS ?_;by_cases hd:i<G.length
 ·have dc:decide ((i:Int)<(G.length:Int))=true:=cF (by omega);have oF:((i:Int)<(G.length:Int))=True:=eq_true (by omega);have w1:aV .i64 ((i:Int)+1)=((i+1:Nat):Int):=by rw[wrap_i64 (by omega) (by omega)];omega
  obtain⟨-,rfl⟩:=h.resolve_left (fun h=>by rw[h.1]at hd;exact absurd hd (by simp));have p1:=dL (vs:=G.map dS) (i:=i) (by rw[aOT];exact hd);rw[sX hd]at p1;obtain⟨r,hr,ir⟩:=Hz (E:=E) (hb i hd) hk (by rw[hw i hd];exact hn);obtain⟨cs,rfl,rc⟩:=id ir;have aw9:jP (dS (row G i))=some (n:Int):=by rw[<-hw i hd];rfl
  have hnn:((n:Int)!=(n:Int))=false:=by simp
  have ptx:aN (dS (row G i))=true:=rfl;obtain⟨R,hR⟩:∃R,R=AV.aJ cs (row G i).length:=⟨_,rfl⟩;rw[<-hR]at hr;have hRM:R.cells=[R]/\b7 R=true/\aN R=true/\bJ R=false/\Flat R:=by subst hR;exact⟨rfl,rfl,rfl,rfl,fun _ _=>rfl⟩
  have zO:bJ (.tuple [R,.int .i64 0])=false:=by subst hR;rfl
  obtain⟨bM,H2,gT,uJ,t1,t2,t3⟩:=jR (E:=E) (H:=H) (x:=[R]) By (by decide) vL (by omega) rfl (by simp only[List.all_cons,hRM.2.1,List.all_nil,Bool.and_self]) (by unfold gq;omega) (by omega);have pS:∀aM,aW E aM 65 1 [(0,R)]=some (.aI aM 0 1 1 1,[(aM,.cells .live [R])]):=fun aM=>by
   have:=gE (E:=E) (aM:=aM) (v:=R) By rfl (by decide) (by decide) (by rw[hRM.1];rfl)
   rw[hRM.1]at this;exact this
  simp only[↓aQ,aR,↓aT,aK,↓reduceIte,aa,ae,aE,hl,g0,g8,g17,g18,g19,oF,w1,p1,ptx,hr,zO,pS,hnn,aw9,eO,gT,uJ,tH];refine dO ?_;refine⟨_,?_,i+1,(.aI (H.length+1) 0 (i+1) 1 (i+1)),(vr++[R]),H2,rfl,(by simp only[cK,hl]),?_⟩
  ·first|omega|(simp;omega)
  simp only[cM,hl,aa,ae,g0,g17,g18]
  iterate 6 refine⟨by first|trivial|rfl|(congr 1;omega)|(simp;done)|(simp;omega),?_⟩
  refine⟨?_,?_,?_⟩
  ·omega
  ·exact .inr ⟨by omega,H.length+1,aXy _,by omega,rfl,t1⟩
  ·refine⟨by rw[aMk,Ez.1];rfl,fun j hj=>?_⟩;by_cases MZ:j<i
   ·rw[jC (by omega)];exact Ez.2 j MZ
   ·rw[jB (by omega),show j=i by omega,hR];exact ir
 ·have dc:decide ((i:Int)<(G.length:Int))=false:=cH (by omega);obtain rfl:i=G.length:=by omega
  rcases vL with⟨e1,e2,rfl⟩|⟨e1,b,e2,e3,rfl,e5⟩
  ·simp only[↓aQ,aR,↓reduceIte,aa,ae,hl,g8,g18,g19,dc];exact⟨_,rfl,.inl ⟨aVC e1,rfl⟩⟩
  ·have gf:=QA (H:=H) (b:=b) (m:=G.length) (s:=1) (st:=.live) (y:=.int .i64 0) e5 (by decide) (by omega) (by
    intro x hx;obtain⟨j,hj,e⟩:=aVB hx;obtain⟨cs,f1,-⟩:=Ez.2 j (by omega);rw[aSW,aMh hj,aNt,e]at f1;rw[f1];exact fun _ _=>rfl) (fun _ _=>rfl)
   simp only[↓aQ,aR,↓reduceIte,aa,ae,hl,g8,g18,g19,dc,gf];exact⟨_,rfl,.inr ⟨fun h=>by rw[h]at e1;exact absurd e1 (by simp),vr,rfl,Ez.1,fun j hj=>⟨Ez.2 j hj,hw j hj⟩⟩⟩
end Go.Proofs.YtblnjkjjedanaaaGreatDoor
namespace Go.Proofs.YtblnjkjjedanaaaGreatDoor
open Go Dv Dv.bV
open Go.Proofs.dN
variable{E:Env}[C:Ctx E]
abbrev rf(rows:List (List Rat)):Nat->FV:=fun i=>fv (row rows i)
theorem Mg{n b:Nat}{rows:List (List Rat)}(hw:iX rows n)(hb:CR b rows):∃f0:Nat->FV,CB b rows.length f0/\(∀i,i<rows.length->∀c,n<=c->f0 i c=0)/\∀x,eK (SR rows.length f0) x↔eK (SR rows.length (rf rows)) x:=by
 have h1:∀i,∃p:Int×(Nat->Int),i<rows.length->p.1≠0/\p.1.natAbs<=2^b/\∀c,fv (row rows i) c=(p.2 c:Rat)/(p.1:Rat)/\(p.2 c).natAbs<=2^b:=by
  intro i;by_cases h:i<rows.length
  ·obtain⟨D,A,h0,h1,h2⟩:=hb i h;exact⟨(D,A),fun _=>⟨h0,h1,h2⟩⟩
  ·exact⟨(1,fun _=>0),fun hh=>absurd hh h⟩
 obtain⟨g,hg⟩:=Classical.skolem.1 h1;have key:∀i,i<rows.length->∀c,fv (row rows i) c=(1/((g i).1:Rat))*(((g i).2 c:Int):Rat)/\(((g i).2 c:Int):Rat)=((g i).1:Rat)*fv (row rows i) c:=by
  intro i hi c;obtain⟨a1,a2,a3⟩:=hg i hi
  have:=iK a1
  rw[(a3 c).1];constructor<;>grind
 refine⟨fun i c=>(((g i).2 c:Int):Rat),⟨1,fun i c=>(g i).2 c,by decide,Nat.one_le_two_pow,fun i hi c=>⟨?_,((hg i hi).2.2 c).2⟩⟩,fun i hi c hc=>?_,fun x=>⟨eK.trans ?_,eK.trans ?_⟩⟩
 ·simp only[Rat.intCast_one]
  grind
 ·show(((g i).2 c:Int):Rat)=0
  rw[(key i hi c).2,show fv (row rows i) c=0 from sQ (hw i hi) hc]
  grind
 ·rintro a ⟨i,hi,e⟩;exact eK.pO (x:=fun _=>0) ((g i).1:Rat) (.zero fun _=>rfl) (eK.of (SR.get (f:=rf rows) hi)) (fun c=>by rw[e];show(((g i).2 c:Int):Rat)=0+((g i).1:Rat)*fv (row rows i) c;rw[(key i hi c).2];grind)
 ·rintro a ⟨i,hi,e⟩;exact eK.pO (x:=fun _=>0) (1/((g i).1:Rat)) (.zero fun _=>rfl) (eK.of (SR.get (f:=fun i c=>(((g i).2 c:Int):Rat)) hi)) (fun c=>by rw[e];show fv (row rows i) c=_;rw[(key i hi c).1];grind)
theorem sT{n m m':Nat}{l l':Nat->FV}(h:∀x,eK (SR m l) x↔eK (SR m' l') x)(x:FV):iY n m l x↔iY n m' l' x:=by
 have aux:∀{m m':Nat} {l l':Nat->FV},(∀x,eK (SR m l) x↔eK (SR m' l') x)->iY n m l x->iY n m' l' x:=by
  intro m m' l l' h hx;refine⟨hx.1,fun i hi=>?_⟩;have h1:=(h (l' i)).2 (eK.of (SR.get hi));have hl:Lsp (fun y=>ip n y x=0):=⟨fun y hy=>by rw[jD];exact gw (fun i _=>by rw[hy];grind),fun y z w q hy hz e=>by rw[jD,od e,jD (a:=x),jD (a:=x),hy,hz];grind⟩;exact hl.Yb (fun a ⟨j,hj,e⟩=>by rw[oU e (fun _=>rfl)];exact hx.2 j hj) h1
 exact⟨aux h,aux (fun x=>(h x).symm)⟩
theorem St.asq{n M r:Nat}{f:Nat->FV}{P:Nat->Nat}{W:FV->Prop}{sC:Nat->Nat}(h:St n M n r sC f P W)(awJ:∀c,c<n->∃t,t<n/\sC t=c)(hw:∀i,i<M->∀c,n<=c->f i c=0)(i:Nat)(hi:r<=i)(hM:i<M)(c:Nat):f i c=0:=by
 by_cases hc:c<n
 ·obtain⟨t,ht,e⟩:=awJ c hc;rw[<-e];exact h.zero i t hi hM ht
 ·exact hw i hM c (by omega)
theorem rT{n b:Nat}{eqs R:List (List Rat)}{P:Nat->Nat}(hw:iX eqs n)(hb:CR b eqs)(hE:kU n R.length (fun i=>dW R i) P (iY n eqs.length (rf eqs))):
  ∃r,r<=eqs.length/\r<=n/\R.length=n-r/\CB (gB b r) R.length (rf R)/\∀y,iY n R.length (rf R) y↔eK (SR eqs.length (rf eqs)) y:=by
 obtain⟨f0,JY,hw0,M4⟩:=Mg hw hb;obtain⟨r,f,P',fK,T0,hwf⟩:=IS (sC:=lZ n) JY hw0 n;have hz:=St.asq fK (fun c hc=>⟨lZ n c,xT hc,rq hc⟩) hwf;have yK:∀x,eK (SR r f) x↔eK (SR eqs.length (rf eqs)) x:=fun x=>(fK.fin hz x).symm.trans (M4 x)
 obtain⟨g,F,hg,hrn,hgb,hgw,hgo⟩:=ON fK hwf T0;have hg':=hg.congr (V:=iY n eqs.length (rf eqs)) (sT yK);obtain⟨hlen,-,Eo⟩:=hE.uniq hg' (mJ _ _ _);refine⟨r,fK.le,hrn,hlen,?_,fun y=>?_⟩
 ·obtain⟨D,A,d0,d1,d2⟩:=hgb;exact⟨D,A,d0,d1,fun i hi c=>by show dW R i c=_/\_;rw[Eo i hi c];exact d2 i (by omega) c⟩
 ·rw[<-yK,<-hgo y];unfold iY;refine and_congr Iff.rfl ⟨fun h i hi=>?_,fun h i hi=>?_⟩
  ·rw[oU (b:=rf R i) (fun c=>(Eo i (by omega) c).symm) (fun _=>rfl)];exact h i (by omega)
  ·rw[oU (a:=rf R i) (b:=g i) (fun c=>Eo i hi c) (fun _=>rfl)];exact h i (by omega)
theorem Ya{n b:Nat}{rows G:List (List Rat)}{P:Nat->Nat}(hw:iX rows n)(hb:CR b rows)(hE:kU n G.length (fun i=>dW G i) P (eK (SR rows.length (rf rows)))):G.length<=rows.length/\G.length<=n/\CB (gB b G.length) G.length (rf G):=by
 obtain⟨f0,JY,hw0,M4⟩:=Mg hw hb;obtain⟨r,f,P',fK,T0,hwf⟩:=IS (sC:=fun t=>t) JY hw0 n;have hz:=St.asq fK (fun c hc=>⟨c,hc,rfl⟩) hwf;have hE':=(fK.ech (aLr n) hz).congr M4;obtain⟨hlen,hP,Eo⟩:=hE.uniq hE' (jn _);subst hlen;refine⟨fK.le,?_,?_⟩
 ·rcases Nat.eq_zero_or_pos G.length with h0|h0
  ·omega
  ·
   have:∀i,i<G.length->i<=P i:=by
    intro i;induction i with
    |zero=>intro _;omega
    |succ i ih=>
     intro hi;have h1:=ih (by omega);have h2:=hE.mono i (i+1) (by omega) hi;omega
   have h1:=this (G.length-1) (by omega);have h2:=hE.lt (G.length-1) (by omega);omega
 ·obtain⟨D,A,d0,d1,d2⟩:=T0;exact⟨D,A,d0,d1,fun i hi c=>by show dW G i c=_/\_;rw[Eo i hi c];exact d2 i (by have:=fK.le;omega) c⟩
theorem we{n:Nat}{R R':List (List Rat)}{P P':Nat->Nat}{W:FV->Prop}(hW:Lsp W)(h:kU n R.length (fun i=>dW R i) P W)(h':kU n R'.length (fun i=>dW R' i) P' W)(hw:iX R n)(hw':iX R' n):R=R':=by
 obtain⟨hl,-,he⟩:=h.uniq h' hW;refine aXw hl (fun i h1 h2=>?_);have e1:row R i=R[i]:=by unfold row;rw[aSW,aMh h1];rfl
 have e2:row R' i=R'[i]:=by unfold row;rw[aSW,aMh h2];rfl
 rw[<-e1,<-e2];refine aXw (by rw[hw i h1,hw' i h2]) (fun c h3 h4=>?_)
 have:=he i h1 c
 unfold dW at this;rw[aSW,aMh h3,aSW,aMh h4]at this;exact this
theorem adL{b:Nat}{R:List (List Rat)}(h:CB b R.length (rf R)):CR b R:=fun i hi=>h.row hi
end Go.Proofs.YtblnjkjjedanaaaGreatDoor
namespace Go.Proofs.YtblnjkjjedanaaaGreatDoor
open Go Dv Dv.bV
variable{E:Env}[C:Ctx E]
theorem TE{q:List Rat}:∀v∈mZ q,Flat v:=by
 intro v hv;obtain⟨x,_,rfl⟩:=aNp.1 hv;exact fun _ _=>rfl
theorem ahk{H:Hp}{c:Nat}{st:iH}{q:List Rat}(h:H[c]?=some (.cells st (mZ q)))(hd:st≠ .dead)(m:Nat):Dv.fz H (m+2) (.aI c 0 q.length 1 q.length)=some (dS q,[c]):=by have h6:=kD (n:=m+1) (off:=0) (len:=q.length) (esz:=1) (k:=q.length) h hd (by rw[ML];omega) (by rw[aQh,aQq,show List.take q.length (mZ q)=mZ q by rw[<-ML (q:=q),aR7]];exact fj TE);rw[gn,dH]at h6;exact h6
theorem JB{H:Hp}{lo:Nat}(m:Nat):∀(l:List AV) (G:List (List Rat)),l.length=G.length->(∀j,j<G.length->∃c,l.getD j aX=.aI c 0 (row G j).length 1 (row G j).length/\lo<=c/\c<H.length/\∃st,st≠ .dead/\H[c]?=some (.cells st (mZ (row G j))))->
  ∃r,dh (Dv.fz H (m+2)) l=some r/\r.map (·.1)=G.map dS/\∀b∈r.flatMap (·.2),lo<=b/\b<H.length
 |[],[],_,_=>⟨[],rfl,rfl,by simp⟩
 |[],_::_,h,_=>absurd h (by simp)
 |_::_,[],h,_=>absurd h (by simp)
 |x::l,q::G,h,hx=>by
  obtain⟨r,h1,h2,h3⟩:=JB m l G (by simpa using h) (fun j hj=>hx (j+1) (by simpa using hj));obtain⟨c,e,G0,JZ,st,hd,hc⟩:=hx 0 (by simp);have e':x=.aI c 0 q.length 1 q.length:=e;subst e';have hf:=ahk (q:=q) hc hd m;refine⟨(dS q,[c])::r,?_,by rw[List.map_cons,List.map_cons,h2],?_⟩
  ·unfold dh;rw[hf,h1]
  ·intro b hb;rw[List.flatMap_cons,aNg]at hb;rcases hb with hb|hb
   ·rw[List.mem_singleton]at hb;subst hb;exact⟨G0,JZ⟩
   ·exact h3 b hb
theorem qf.fz{H:Hp}{lo:Nat}{v:AV}{G:List (List Rat)}(h:qf H lo v G)(m:Nat):∃o bs,Dv.fz H (m+3) v=some (o,bs)/\mz o G/\(∀b∈bs,lo<=b/\b<H.length)/\(G=[]->bs=[]):=by
 rcases h with⟨rfl,rfl⟩|⟨h0,b,hs,rfl,h1,h2,h3,h4,h5⟩
 ·exact⟨.aH,[],rfl,.inl ⟨rfl,rfl⟩,by simp,fun _=>rfl⟩
 ·obtain⟨r,wJ,yp,Bb⟩:=JB (H:=H) (lo:=lo) m hs G h4 (fun j hj=>by
   obtain⟨c,f1,f2,f3,f4,f5⟩:=h5 j hj;exact⟨c,f1,f3,f4,.live,by decide,f5⟩)
  have h6:=kD (n:=m+2) (off:=0) (len:=G.length) (esz:=1) (k:=G.length) h3 (by decide) (by omega) (by rw[aQh,aQq,<-h4,aR7];exact wJ);have hG:G≠[]:=fun e=>by rw[e]at h0;exact absurd h0 (by simp)
  refine⟨_,_,h6,.inr ⟨hG,by rw[yp]⟩,fun x hx=>?_,fun e=>absurd e hG⟩;rcases List.mem_cons.1 hx with rfl|hx
  ·exact⟨h1,h2⟩
  ·exact Bb x hx
theorem qf.len{H:Hp}{lo:Nat}{v:AV}{G:List (List Rat)}(h:qf H lo v G):jP v=some (G.length:Int):=by
 rcases h with⟨rfl,rfl⟩|⟨h0,b,hs,rfl,-⟩<;>rfl
theorem rJ.le{n kw:Nat}{eqs G rays:List (List Rat)}{jZ:Option (List Rat)}{P:Nat->Nat}(h:rJ n kw eqs jZ G rays P):rays.length<=1:=by
 rcases h with⟨-,rfl,-⟩|⟨r,w,-,rfl,-⟩
 ·exact aXy _
 ·exact aLr _
theorem AX{E:Env} [C:lS E]{H0:Hp}{n b k kg:Nat}{ev rv:AV}{eqs:List (List Rat)}{jZ:Option (List Rat)}(he:tG ev eqs n)(hr:tG rv jZ.toList n)(hw:iX eqs n)(h0:0<n)(hn:n<=8)(hR:eqs.length<=256)(hb:CR b eqs)(hk:∀r,jZ=some r->dN.CV k (fv r))(yn:5^n*(2*lB b eqs.length+k+5)<=10000000000)(tz:b+k+lB b eqs.length+4<=500000)(hkg:kg<=500000)
  (hG:∀(G:List (List Rat)) (P:Nat->Nat),iX G n->(dN.kU n G.length (fun i=>dW G i) P (dN.iY n eqs.length (fun i=>fv (row eqs i)))∨∃r,jZ=some r/\dN.kU n G.length (fun i=>dW G i) P (dN.iY n (eqs++[r]).length (fun i=>fv (row (eqs++[r]) i))))->G.length<=8/\dN.CB kg G.length (fun i=>dW G i)):
  ∃r H',cL E 53 [.int .i64 (n:Int),ev,rv] H0=some (r,H')/\(∀k,k<H0.length->H'[k]?=H0[k]?)/\H0.length<=H'.length/\∃(v sn:AV) (G rays:List (List Rat)) (P:Nat->Nat),r=.tuple [.agg [.int .i64 (n:Int),v,sn],.int .i64 0]/\qf H' H0.length v G/\qf H' H0.length sn rays/\iX G n/\rJ n (lB b eqs.length+kg+4) eqs jZ G rays P:=by
 obtain⟨r,H1,hbo,Es,tV,v,sn,G,rays,P,rfl,r9,td,yU,hO⟩:=zo (E:=E) (H0:=H0++[.cells .live [.int .i64 0,.aH,.aH]]) he hr hw h0 hn hR hb hk yn tz hkg hG;have uN:(H0++[cG.cells iH.live [AV.int IntKind.i64 0,AV.aH,AV.aH]]).length=H0.length+1:=by rw[aMk];rfl
 rw[uN]at Es tV r9 td;have hz:H1[H0.length]?=some (.cells .live [.int .i64 0,.aH,.aH]):=by rw[Es _ (by omega),gk rfl];rfl
 have Db:=td.len;have hgt:decide ((rays.length:Int)>256)=false:=cH (by have:=hO.le;omega);have m1:=r9.one;have m2:=td.one;have s1:=fun xs l o=>vt (T:=H1) (n:=3) (xs:=xs) (l:=l) (o:=o) (show H0.length<H1.length by omega)
 have s2:=fun xs o=>kG (n:=3) (xs:=xs) (o:=o) hz
 have p1:=fun x l=>vj (T:=H1) (l:=l) (x:=x) (show H0.length<H1.length by omega)
 obtain⟨H5,oN⟩:∃H5,H5=H1.set H0.length (.cells .live [.int .i64 (n:Int),v,sn]):=⟨_,rfl⟩;have hl5:H5.length=H1.length:=by rw[oN,aPp]
 have h05:H5[H0.length]?=some (.cells .live [.int .i64 (n:Int),v,sn]):=by rw[oN,aOc (by omega)]
 have a4:=fun m l o=>rN (T:=H5) (n:=m) (l:=l) (o:=o) (show H0.length<H5.length by omega)
 have a5:=fun m o=>jL (n:=m) (o:=o) h05 (by decide)
 have pev:=he.pure;have Fg:=hr.pure;refine gi3 (by rw[C.ud]) (by rw[C.fn];exact avo) (by decide) ?_;intro ts hl g0 g1 g2;unfold c53;simp only[↓aQ,aR,↓aT,aK,dt,↓reduceIte,aa,ah,ae,Tryz.f53,hl,g0,g1,g2,hbo,Db,hgt,m1,m2,s1,s2,p1,<-oN,a4,a5,Nat.add_assoc,aMk];refine⟨fun k hk=>by rw[aOB (by omega),oN,aN9 (by omega),Es k (by omega),aOB hk],by omega,v,sn,G,rays,P,rfl,?_,?_,yU,hO⟩
 ·exact r9.mono (by omega) (by rw[aMk];omega) (fun k hk qY=>by rw[aOB (by omega),oN,aN9 (by omega)])
 ·exact td.mono (by omega) (by rw[aMk];omega) (fun k hk qY=>by rw[aOB (by omega),oN,aN9 (by omega)])
end Go.Proofs.YtblnjkjjedanaaaGreatDoor
namespace Go.Proofs.YtblnjkjjedanaaaGreatDoor
open Go Dv Dv.bV
open Go.Proofs.dN
variable{E:Env}[C:Ctx E]
theorem sP{b b' r r':Nat}(hb:b<=b')(hr:r<=r'):gB b r<=gB b' r':=by unfold gB;have h1:2^r*(b+1)<=2^r'*(b'+1):=aSb (aRX (by omega) hr) (by omega);omega
theorem CR.snoc{b:Nat}{L:List (List Rat)}{r:List Rat}(h:CR b L)(hr:CV b (fv r)):CR b (L++[r]):=by
 intro i hi;rw[aMk,aWX]at hi;by_cases e:i=L.length
 ·subst e;rw[ll];exact hr
 ·rw[nI (by omega)];exact h i (by omega)
theorem CR.mono{b b':Nat}{L:List (List Rat)}(h:CR b L)(hb:b<=b'):CR b' L:=fun i hi=>(h i hi).mono hb
theorem iX.snoc{n:Nat}{L:List (List Rat)}{r:List Rat}(h:iX L n)(hr:r.length=n):iX (L++[r]) n:=by
 intro i hi;rw[aMk,aWX]at hi;by_cases e:i=L.length
 ·subst e;rw[ll];exact hr
 ·rw[nI (by omega)];exact h i (by omega)
theorem A7{n b kg:Nat}{eqs:List (List Rat)}{jZ:Option (List Rat)}(hw:iX eqs n)(hb:CR b eqs)(hr:∀r,jZ=some r->CV b (fv r)/\r.length=n)(hn:n<=8)(hm:∀r,r<=n->r<=eqs.length+1->gB b r<=kg)(G:List (List Rat))(P:Nat->Nat)(yU:iX G n)
  (h:kU n G.length (fun i=>dW G i) P (iY n eqs.length (fun i=>fv (row eqs i)))∨∃r,jZ=some r/\kU n G.length (fun i=>dW G i) P (iY n (eqs++[r]).length (fun i=>fv (row (eqs++[r]) i)))):G.length<=8/\CB kg G.length (fun i=>dW G i):=by
 rcases h with h|⟨r,e,h⟩
 ·obtain⟨q,h1,h2,h3,h4,-⟩:=rT hw hb h;exact⟨by omega,h4.mono (hm q h2 (by omega))⟩
 ·obtain⟨c1,c2⟩:=hr r e;obtain⟨q,h1,h2,h3,h4,-⟩:=rT (hw.snoc c2) (hb.snoc c1) h;rw[sg]at h1;exact⟨by omega,h4.mono (hm q h2 h1)⟩
theorem rJ.opt{n kw:Nat}{eqs G rays:List (List Rat)}{jZ:Option (List Rat)}{P:Nat->Nat}(h:rJ n kw eqs jZ G rays P):∃o:Option (List Rat),rays=o.toList/\(∀w,o=some w->w.length=n/\CV kw (fv w))/\iX rays n:=by
 rcases h with⟨-,rfl,-⟩|⟨r,w,-,rfl,h1,-,-,-,h2⟩
 ·exact⟨none,rfl,fun w h=>(by cases h),fun i hi=>absurd hi (by simp)⟩
 ·refine⟨some w,rfl,fun u h=>(by cases h;exact⟨h1,h2⟩),fun i hi=>?_⟩
  have:i=0:=by simpa using hi
  subst this;exact h1
theorem rJ.ech{n kw:Nat}{eqs G rays:List (List Rat)}{jZ:Option (List Rat)}{P:Nat->Nat}(h:rJ n kw eqs jZ G rays P):kU n G.length (fun i=>dW G i) P (iY n eqs.length (fun i=>fv (row eqs i)))∨∃r,jZ=some r/\kU n G.length (fun i=>dW G i) P (iY n (eqs++[r]).length (fun i=>fv (row (eqs++[r]) i))):=by
 rcases h with⟨-,-,h⟩|⟨r,w,h1,-,-,h,-⟩
 ·exact .inl h
 ·exact .inr ⟨r,h1,h⟩
def Im(n ks:Nat)(L:List (List Rat))(jZ:Option (List Rat))(G rays:List (List Rat)):Prop:=
 (∃P,kU n G.length (fun i=>dW G i) P (eK (SR L.length (rf L))))/\(rays=[]∨∃r s w,jZ=some r/\rays=[s]/\s.length=n/\eK (SR (L++[r]).length (rf (L++[r]))) (fv s)/\(∀i,i<L.length->ip n (rf L i) w=0)/\ip n w (fv s)≠0/\CV ks (fv s))
theorem aaN{n b k1 k2:Nat}{L G1 G2 sj Fk:List (List Rat)}{jZ o:Option (List Rat)}{P1 P2:Nat->Nat}(hw:iX L n)(hb:CR b L)(hr:∀r,jZ=some r->CV b (fv r)/\r.length=n)(h1:rJ n k1 L jZ G1 sj P1)(ho:sj=o.toList)(h2:rJ n k2 G1 o G2 Fk P2):Im n k2 L jZ G2 Fk:=by
 rcases h1 with⟨-,e1,hE1⟩|⟨r,w,er,e1,hwl,hE1,hwO,hwr,-⟩
 ·obtain⟨-,-,-,-,-,hO⟩:=rT hw hb hE1;have eo:o=none:=by cases o with|none=>rfl|some x=>rw[e1]at ho;cases ho
  subst eo;rcases h2 with⟨-,e2,hE2⟩|⟨r,w,er,-⟩
  ·exact⟨⟨P2,hE2.congr hO⟩,.inl e2⟩
  ·cases er
 ·obtain⟨c1,c2⟩:=hr r er;obtain⟨-,-,-,-,-,hO⟩:=rT (hw.snoc c2) (hb.snoc c1) hE1;have eo:o=some w:=by
   cases o with
   |none=>rw[e1]at ho;cases ho
   |some x=>rw[e1]at ho;simp only[Option.toList,List.cons.injEq,and_true]at ho;rw[ho]
  subst eo;have hrS:eK (SR (L++[r]).length (rf (L++[r]))) (fv r):=eK.of ⟨L.length,by rw[sg];omega,fun c=>by show fv r c=fv (row (L++[r]) L.length) c;rw[ll]⟩;have Uc:ip n (fv w) (fv r)≠0:=by rw[jD];grind
  have Ue:∀i,i<L.length->ip n (rf L i) (fv w)=0:=fun i hi=>hwO.2 i hi
  rcases h2 with⟨hA,-,-⟩|⟨w',s,ew,e2,lJ,hE2,hsO,hsw,KV⟩
  ·exact absurd (hA w rfl (fv r) ((hO _).2 hrS)) Uc
  ·cases ew;have aw6:∀x,iY n (G1++[w]).length (fun i=>fv (row (G1++[w]) i)) x↔eK (SR L.length (rf L)) x:=by
    intro x;have hO':=hO;rw[sg]at hO';rw[sg];exact XB (l:=rf L) (uq (eqs:=L) (r:=r)) (uq (eqs:=G1) (r:=w)) hO' Ue (by rw[jD];exact Uc) x
   exact⟨⟨P2,hE2.congr aw6⟩,.inr ⟨r,s,fv w,er,e2,lJ,(hO _).1 hsO,Ue,by grind,KV⟩⟩
theorem VU{n:Nat}{L G:List (List Rat)}{r s:List Rat}{w:FV}{P:Nat->Nat}(hE:kU n G.length (fun i=>dW G i) P (eK (SR L.length (rf L))))(hs:eK (SR (L++[r]).length (rf (L++[r]))) (fv s))(hw:∀i,i<L.length->ip n (rf L i) w=0)(dM:ip n w (fv s)≠0)(x:FV):iY n (G++[s]).length (fun i=>fv (row (G++[s]) i)) x↔iY n (L++[r]).length (fun i=>fv (row (L++[r]) i)) x:=by
 refine sT (fun x=>?_) x;have hG:∀y,eK (SR G.length (rf G)) y↔eK (SR L.length (rf L)) y:=fun y=>(hE.Yb (jn _)).symm
 rw[sg]at hs⊢;rw[sg];exact XC (n:=n) (l:=rf L) (g:=rf G) (uq (eqs:=L) (r:=r)) (uq (eqs:=G) (r:=s)) hG hs hw dM x
def Kd(H:Hp)(lo:Nat)(v:AV)(G:List (List Rat)):Prop:=(G=[]/\v=.aH)∨(0<G.length/\∃b st hs,v=.aI b 0 G.length 1 G.length/\lo<=b/\b<H.length/\H[b]?=some (.cells st hs)/\st≠ .dead/\hs.length=G.length/\∀j,j<G.length->∃c,hs.getD j aX=.aI c 0 (row G j).length 1 (row G j).length/\lo<=c/\c<H.length/\∃st,st≠ .dead/\H[c]?=some (.cells st (mZ (row G j))))
theorem qf.r{H:Hp}{lo:Nat}{v:AV}{G:List (List Rat)}(h:qf H lo v G):Kd H lo v G:=by
 rcases h with h|⟨h0,b,hs,e,h1,h2,h3,h4,h5⟩
 ·exact .inl h
 ·refine .inr ⟨h0,b,.live,hs,e,h1,h2,h3,by decide,h4,fun j hj=>?_⟩;obtain⟨c,f1,f2,f3,f4,f5⟩:=h5 j hj;exact⟨c,f1,f3,f4,.live,by decide,f5⟩
theorem Kd.mono{H H2:Hp}{B lo:Nat}{v:AV}{G:List (List Rat)}(h:Kd H lo v G)(hB:B<lo)(hl:nK B H H2):Kd H2 lo v G:=by
 rcases h with h|⟨h0,b,st,hs,e,h1,h2,h3,hd,h4,h5⟩
 ·exact .inl h
 ·obtain⟨st',d',e'⟩:=hl.2 b st hs (by omega) h3 hd
  have:=hl.1.1
  refine .inr ⟨h0,b,st',hs,e,h1,by omega,e',d',h4,fun j hj=>?_⟩;obtain⟨c,f1,f2,f3,st2,d2,f5⟩:=h5 j hj;obtain⟨st3,d3,e3⟩:=hl.2 c st2 _ (by omega) f5 d2;exact⟨c,f1,f2,by omega,st3,d3,e3⟩
theorem Kd.fz{H:Hp}{lo:Nat}{v:AV}{G:List (List Rat)}(h:Kd H lo v G)(m:Nat):∃o bs,Dv.fz H (m+3) v=some (o,bs)/\mz o G/\(∀b∈bs,lo<=b/\b<H.length):=by
 rcases h with⟨rfl,rfl⟩|⟨h0,b,st,hs,rfl,h1,h2,h3,hd,h4,h5⟩
 ·exact⟨.aH,[],rfl,.inl ⟨rfl,rfl⟩,by simp⟩
 ·obtain⟨r,wJ,yp,Bb⟩:=JB (H:=H) (lo:=lo) m hs G h4 h5;have h6:=kD (n:=m+2) (off:=0) (len:=G.length) (esz:=1) (k:=G.length) h3 hd (by omega) (by rw[aQh,aQq,<-h4,aR7];exact wJ);have hG:G≠[]:=fun e=>by rw[e]at h0;exact absurd h0 (by simp)
  refine⟨_,_,h6,.inr ⟨hG,by rw[yp]⟩,fun x hx=>?_⟩;rcases List.mem_cons.1 hx with rfl|hx
  ·exact⟨h1,h2⟩
  ·exact Bb x hx
theorem lU{H:Hp}{n:Nat}{x r:AV}{bs:List Nat}(h:Dv.fz H n x=some (r,bs))(hb:∀b∈bs,b<H.length)(l:Hp):Dv.fz (H++l) n x=some (r,bs):=
 wo n x r bs h (fun b hm=>by unfold rI;rw[aOB (hb b hm)])
theorem P7{H:Hp}{x o:AV}{bs:List Nat}(h:Dv.fz H 40 x=some (o,bs))(hp:aN x=false):oG (aN x) H [x]=some ([o],bs):=by
 rw[hp,kV];unfold bW;rw[if_neg (by simp[bE,hp])];simp only[dh,h]
 simp
theorem Kd.frz{H:Hp}{lo:Nat}{v:AV}{G:List (List Rat)}(h:Kd H lo v G):∃o bs,(∀l,oG (aN v) (H++l) [v]=some ([o],bs))/\mz o G/\(∀b∈bs,lo<=b/\b<H.length):=by
 obtain⟨o,bs,h1,h2,h3⟩:=h.fz 37;rcases id h with⟨rfl,rfl⟩|⟨h0,b,st,hs,rfl,-⟩
 ·refine⟨.aH,[],fun l=>rfl,.inl ⟨rfl,rfl⟩,by simp⟩
 ·exact⟨o,bs,fun l=>P7 (lU h1 (fun b hb=>(h3 b hb).2) l) rfl,h2,h3⟩
theorem WS{b:Nat}{n:Nat}(hb:23=b)(h:n<=8):lB b n<=6885:=by subst hb;exact aNR (zU h) (by decide)
theorem Ij{b:Nat}{G:List (List Rat)}(h:CB b G.length (fun i=>dW G i)):CR b G/\mR (b+1) G:=by
 have:CR b G:=fun i hi=>h.row hi
 exact⟨this,this.yd⟩
structure Dx(n:Nat)(L:List (List Rat))(jZ:Option (List Rat)):Prop where
 pos:0<n
 le:n<=8
 wid:iX L n
 two:L.length<=2
 cr:CR 2 L
 jZ:∀r,jZ=some r->CV 2 (fv r)/\r.length=n
theorem aq3{n:Nat}(h:n<=8):5^n<=390625:=aNR (aRX (by omega) h) (by decide)
structure Gq(n b k kg ks:Nat)(L:List (List Rat))(jZ:Option (List Rat)):Prop where
 pos:0<n
 le:n<=8
 wid:iX L n
 len:L.length<=24
 cr:CR b L
 XD:∀r,jZ=some r->CV k (fv r)/\r.length=n
 b98:b+1<=98000/\k+1<=98000/\kg+1<=98000/\lB b L.length+kg+5<=98000
 one:5^n*(2*lB b L.length+k+5)<=10000000000/\b+k+lB b L.length+4<=500000
 hG:∀(G:List (List Rat)) (P:Nat->Nat),iX G n->(kU n G.length (fun i=>dW G i) P (iY n L.length (fun i=>fv (row L i)))∨∃r,jZ=some r/\kU n G.length (fun i=>dW G i) P (iY n (L++[r]).length (fun i=>fv (row (L++[r]) i))))->G.length<=8/\CB kg G.length (fun i=>dW G i)
 two:∀(G1 sj:List (List Rat)) (P1:Nat->Nat) (o:Option (List Rat)),iX G1 n->rJ n (lB b L.length+kg+4) L jZ G1 sj P1->sj=o.toList->(∀w,o=some w->w.length=n/\CV (lB b L.length+kg+4) (fv w))->∃b1 kg2,CR b1 G1/\5^n*(2*lB b1 G1.length+(lB b L.length+kg+4)+5)<=10000000000/\b1+(lB b L.length+kg+4)+lB b1 G1.length+4<=500000/\kg2<=500000/\lB b1 G1.length+kg2+4<=ks/\
  ∀(G:List (List Rat)) (P:Nat->Nat),iX G n->(kU n G.length (fun i=>dW G i) P (iY n G1.length (fun i=>fv (row G1 i)))∨∃r,o=some r/\kU n G.length (fun i=>dW G i) P (iY n (G1++[r]).length (fun i=>fv (row (G1++[r]) i))))->G.length<=8/\CB kg2 G.length (fun i=>dW G i)
theorem Dx.sz{n:Nat}{L:List (List Rat)}{jZ:Option (List Rat)}(hs:Dx n L jZ):Gq n 2 2 23 18664 L jZ:=by
 have h0:=hs.pos;have hn:=hs.le;have h2:=hs.two;have h5:=aq3 hn;have aoB:lB 2 L.length<=18:=aNR (zU h2) (by decide);have hG:=fun(G:List (List Rat)) (P:Nat->Nat) (hw:iX G n)=>A7 hs.wid hs.cr hs.jZ hn (kg:=23) (fun r h1 h3=>aNR (sP (aLr _) (show r<=3 by omega)) (by decide)) G P hw
 refine⟨h0,hn,hs.wid,by omega,hs.cr,hs.jZ,by omega,⟨aNR (aSb h5 (show 2*lB 2 L.length+2+5<=43 by omega)) (by decide),by omega⟩,hG,fun G1 sj P1 o vM hO ho Ua=>?_⟩;obtain⟨hG8,TY⟩:=hG G1 P1 vM hO.ech;obtain⟨En,-⟩:=Ij TY;have aw5:lB 23 G1.length<=6885:=WS rfl hG8;exact⟨23,11775,En,aNR (aSb h5 (show 2*lB 23 G1.length+(lB 2 L.length+23+4)+5<=13820 by omega)) (by decide),by omega,by omega,by omega,A7 (b:=45) vM (En.mono (by omega)) (fun r h=>⟨(Ua r h).2.mono (by omega),(Ua r h).1⟩) hn (fun r h1 h3=>aNR (sP (aLr _) (show r<=8 by omega)) (by decide))⟩
theorem lB6{b m:Nat}(h:m<=6):lB b m<=63*(b+4):=by refine aNR (zU h) ?_;simp only[lB];omega
theorem gB6{b r:Nat}(h:r<=6):gB b r<=64*(b+1)-1:=by refine aNR (sP (aLr _) h) ?_;unfold gB;omega
theorem sz6{b:Nat}{L:List (List Rat)}(zK:b<=300)(hl:L.length<=6)(hw:iX L 6)(hb:CR b L):Gq 6 b 0 19264 60000 L none:=by
 have hlB:=lB6 (b:=b) hl;have hG:=fun(G:List (List Rat)) (P:Nat->Nat) (yU:iX G 6)=>A7 (n:=6) (b:=b) (kg:=19264) hw hb (jZ:=none) (fun r h=>by cases h) (by omega) (fun r h1 h3=>aNR (gB6 h1) (by omega)) G P yU
 refine⟨by omega,by omega,hw,by omega,hb,fun r h=>(by cases h),by omega,⟨?_,by omega⟩,hG,fun G1 sj P1 o vM hO ho Ua=>?_⟩
 ·refine aNR (aQn (5^6) (show 2*lB b L.length+0+5<=38400 by omega)) (by decide)
 ·rcases hO with⟨-,e1,hE1⟩|⟨r,w,er,-⟩
  ·obtain⟨r,h1,h2,h3,h4,-⟩:=rT hw hb hE1;have eo:o=none:=by cases o with|none=>rfl|some x=>rw[e1]at ho;cases ho
   subst eo;have En:CR (gB b r) G1:=adL h4;have key:lB (gB b r) (6-r)<=19456/\gB (gB b r) (6-r)<=19264/\gB b r<=19264:=by
    have hr:r=0∨r=1∨r=2∨r=3∨r=4∨r=5∨r=6:=by omega
    rcases hr with rfl|rfl|rfl|rfl|rfl|rfl|rfl<;>(simp only[gB,lB,Nat.sub_zero,Nat.reduceSub,Nat.reducePow];omega)
   have aHs:lB (gB b r) G1.length<=19456:=by rw[h3];exact key.1
   refine⟨gB b r,19264,En,?_,by omega,by omega,by omega,fun G P yU h=>?_⟩
   ·refine aNR (aQn (5^6) (show 2*lB (gB b r) G1.length+(lB b L.length+19264+4)+5<=80000 by omega)) (by decide)
   ·rcases h with h|⟨r',er,-⟩
    ·obtain⟨q,g1,g2,g3,g4,-⟩:=rT vM En h;rw[h3]at g1;exact⟨by omega,g4.mono (aNR (sP (aLr _) g1) key.2.1)⟩
    ·cases er
  ·cases er
theorem El{E:Env} [C:lS E]{H0:Hp}{n b k kg ks:Nat}{lv rv:AV}{L:List (List Rat)}{jZ:Option (List Rat)}(he:tG lv L n)(hr:tG rv jZ.toList n)(hs:Gq n b k kg ks L jZ):
  ∃r H',cL E 21 [.int .i64 (n:Int),lv,rv] H0=some (r,H')/\(∀k,k<H0.length->H'[k]?=H0[k]?)/\H0.length<=H'.length/\∃(v sn:AV) (G rays:List (List Rat)),r=.tuple [.agg [.int .i64 (n:Int),v,sn],.int .i64 0]/\qf H' H0.length v G/\qf H' H0.length sn rays/\iX G n/\Im n ks L jZ G rays:=by
 have h0:=hs.pos;have hn:=hs.le;have h2:=hs.len;obtain⟨z1,z2,z3,z4⟩:=hs.b98;obtain⟨r1,H1,uK,Es,tV,v1,XU,G1,sj,P1,rfl,r9,td,F1,Zm⟩:=AX (E:=E) (H0:=H0++[.cells .live [.int .i64 0,.aH,.aH]]) (k:=k) (kg:=kg) he hr hs.wid h0 hn (by omega) hs.cr (fun r h=>(hs.XD r h).1) hs.one.1 hs.one.2 (by omega) hs.hG;have uN:(H0++[cG.cells iH.live [AV.int IntKind.i64 0,AV.aH,AV.aH]]).length=H0.length+1:=by rw[aMk];rfl
 rw[uN]at Es tV r9 td;have hz:H1[H0.length]?=some (.cells .live [.int .i64 0,.aH,.aH]):=by rw[Es _ (by omega),gk rfl];rfl
 obtain⟨hG8,TY⟩:=hs.hG G1 P1 F1 Zm.ech;obtain⟨-,ahE⟩:=Ij TY;obtain⟨o,ho,K3,Ua⟩:=Zm.opt;obtain⟨b1,kg2,En,y1,y2,y3,y4,hG2⟩:=hs.two G1 sj P1 o F1 Zm ho K3;have ahF:mR (lB b L.length+kg+4+1) sj:=by
  intro i hi;rw[ho]at hi⊢;cases o with
  |none=>exact absurd hi (by simp)
  |some w=>
   have:i=0:=by simpa using hi
   subst this;exact mj (K3 w rfl).2
 have Si:sj.length<=1:=Zm.le;obtain⟨o1,ZR,MY,Oz,sG⟩:=r9.r.frz;obtain⟨YC,aii,WD⟩:=qU (E:=E) Oz F1 ahE (by omega) (by omega) (by omega);obtain⟨HA,hmA,Om,hlA,hzA,-⟩:=sM (B:=H0.length) (H:=H1) (bJ YC) (bs:=ZR) (fun b hb=>by have:=sG b hb;omega);obtain⟨o2,CF,R7,OA,tz⟩:=(td.r.mono (show H0.length<H0.length+1 by omega) Om).frz;obtain⟨YD,aij,Ox⟩:=qU (E:=E) OA Ua ahF (by omega) (by omega) (by omega);obtain⟨HB,hmB,Wj,hlB,hzB,-⟩:=sM (B:=H0.length) (H:=HA) (bJ YD) (bs:=CF) (fun b hb=>by have:=tz b hb;omega);rw[ho]at Ox;obtain⟨r2,H2,xL,qY,wI,v2,rv2,G2,Fk,P2,rfl,hU1,hU2,V1,hO2⟩:=AX (E:=E) (H0:=HB++[.cells .live [.int .i64 (n:Int),v1,XU]]) (b:=b1) (k:=lB b L.length+kg+4) (kg:=kg2) WD Ox F1 h0 hn (by omega) En (fun w hw=>(K3 w hw).2) y1 y2 y3 hG2;have vg:(HB++[cG.cells iH.live [AV.int IntKind.i64 (n:Int),v1,XU]]).length=H1.length+1:=by rw[aMk,hlB,hlA];rfl
 have hkp:=zR qY;rw[vg]at qY wI hU1 hU2;have hz2:H2[H0.length]?=some (.cells .live [.int .i64 0,.aH,.aH]):=by rw[qY _ (by omega),aOB (by omega),hzB,hzA];exact hz
 have Db:=hU2.len;have m1:=r9.one;have m2:=td.one;have n1:=hU1.one;have n2:=hU2.one;have t1:aN YC=true/\b7 YC=true/\YC.cells=[YC]:=by rcases WD with⟨-,rfl⟩|⟨-,vs,rfl,-⟩<;>exact⟨rfl,rfl,rfl⟩
 have t2:aN YD=true/\b7 YD=true/\YD.cells=[YD]:=by rcases Ox with⟨-,rfl⟩|⟨-,vs,rfl,-⟩<;>exact⟨rfl,rfl,rfl⟩
 have s2:=fun xs o=>kG (n:=3) (xs:=xs) (o:=o) hz2
 obtain⟨H5,oN⟩:∃H5,H5=H2.set H0.length (.cells .live [.int .i64 (n:Int),v2,rv2]):=⟨_,rfl⟩;have p2:dP H2 H0.length (.cells .live [.int .i64 (n:Int),v2,rv2])=H5:=by rw[oN];exact eY (by omega)
 have hl5:H5.length=H2.length:=by rw[oN,aPp]
 have h05:H5[H0.length]?=some (.cells .live [.int .i64 (n:Int),v2,rv2]):=by rw[oN,aOc (by omega)]
 have a5:=fun m o=>jL (n:=m) (o:=o) h05 (by decide)
 have pev:=he.pure;have Fg:=hr.pure;have aoA:HB.length=H1.length:=by omega
 refine gi3 (by rw[C.ud]) (by rw[C.fn];exact au4) (by decide) ?_;intro ts hl g0 g1 g2;unfold c21;simp only[↓aQ,aR,↓aT,aK,dt,↓reduceIte,aa,ah,ae,Tryz.f21,aE,hl,g0,g1,g2,uK,m1,m2,n1,n2,MY,R7,aii,aij,hmA,hmB,hlA,xL,hkp,s2,p2,a5,aMk];refine⟨fun k hk=>?_,by omega,v2,rv2,G2,Fk,rfl,?_,?_,V1,?_⟩
 ·rw[oN,aN9 (by omega),qY k (by omega),aOB (by omega),Wj.1.2 k hk (by omega),Om.1.2 k hk (by omega),Es k (by omega),aOB hk]
 ·exact hU1.mono (by omega) (by omega) (fun k hk qY=>by rw[oN,aN9 (by omega)])
 ·exact hU2.mono (by omega) (by omega) (fun k hk qY=>by rw[oN,aN9 (by omega)])
 ·have:=aaN (b:=max b k) hs.wid (hs.cr.mono (Nat.le_max_left _ _)) (fun r h=>⟨((hs.XD r h).1).mono (Nat.le_max_right _ _),(hs.XD r h).2⟩) Zm ho hO2
  obtain⟨e1,e2⟩:=this;refine⟨e1,e2.imp id ?_⟩;rintro⟨r,s,w,f1,f2,f3,f4,f5,f6,f7⟩;exact⟨r,s,w,f1,f2,f3,f4,f5,f6,f7.mono y4⟩
def Uk(H:Hp)(v:AV)(L:List (List Rat))(bs:List Nat):Prop:=(L=[]/\v=.aH/\bs=[])∨(aN v=false/\∃o,Dv.fz H 40 v=some (o,bs)/\mz o L/\∀b∈bs,b<H.length)
theorem Uk.fzi{H:Hp}{v:AV}{L:List (List Rat)}{bs:List Nat}(h:Uk H v L bs):∃o,mz o L/\(∀b∈bs,b<H.length)/\∀l k z k' z',oG (aN v) (H++l) [.int k z,v,.int k' z']=some ([.int k z,o,.int k' z'],bs):=by
 rcases h with⟨rfl,rfl,rfl⟩|⟨hp,o,h1,h2,h3⟩
 ·exact⟨.aH,.inl ⟨rfl,rfl⟩,by simp,fun l k z k' z'=>rfl⟩
 ·refine⟨o,h2,h3,fun l k z k' z'=>?_⟩;rw[hp,kV];unfold bW;rw[if_neg (by simp[bE,aN,hp])];have h4:=lU h1 h3 l;have e1:∀k z,Dv.fz (H++l) 40 (.int k z)=some (.int k z,[]):=fun k z=>rfl
  simp only[dh,h4,e1]
  simp
theorem Uk.agr{H H2:Hp}{v:AV}{L:List (List Rat)}{bs:List Nat}(h:Uk H v L bs)(ha:∀b,rI H H2 b)(hl:H2.length=H.length):Uk H2 v L bs:=by
 rcases h with h|⟨hp,o,h1,h2,h3⟩
 ·exact .inl h
 ·exact .inr ⟨hp,o,wo 40 v o bs h1 (fun b _=>ha b),h2,fun b hb=>by rw[hl];exact h3 b hb⟩
theorem KE{H:Hp}{bs:List Nat}(c:Bool)(hb:∀b∈bs,b<H.length):∃HA:Hp,(∀l,cJ.app (H++l) (if c=true then cJ.looks bs else cJ.marks bs)=HA++l)/\HA.length=H.length/\(∀k,k∉bs->HA[k]?=H[k]?)/\∀b,rI H HA b:=by
 cases c with
 |true=>exact⟨H,fun l=>rfl,rfl,fun k _=>rfl,fun b=>rfl⟩
 |false=>exact⟨Dv.mark H bs,fun l=>LM hb,k6 _ _,fun k hk=>ub hk,fun b=>(DB bs b).2⟩
theorem Gq.bl{n b k kg ks:Nat}{L:List (List Rat)}{jZ:Option (List Rat)}(h:Gq n b k kg ks L jZ):mR (b+1) L/\mR (k+1) jZ.toList/\iX jZ.toList n/\jZ.toList.length<=1:=by
 refine⟨h.cr.yd,?_,?_,?_⟩
 ·intro i hi;cases jZ with
  |none=>exact absurd hi (by simp)
  |some r=>
   have:i=0:=by simpa using hi
   subst this;exact mj (h.XD r rfl).1
 ·intro i hi;cases jZ with
  |none=>exact absurd hi (by simp)
  |some r=>
   have:i=0:=by simpa using hi
   subst this;exact(h.XD r rfl).2
 ·cases jZ<;>simp
theorem pt{E:Env} [C:lS E]{H0:Hp}{n b k kg ks:Nat}{lv rv:AV}{L:List (List Rat)}{jZ:Option (List Rat)}{ZR CF:List Nat}(he:Uk H0 lv L ZR)(hr:Uk H0 rv jZ.toList CF)(hs:Gq n b k kg ks L jZ):
  ∃r H',cL E 7 [.int .i64 (n:Int),lv,rv] H0=some (r,H')/\(∀k,k<H0.length->k∉ZR->k∉CF->H'[k]?=H0[k]?)/\H0.length<=H'.length/\∃(v sn:AV) (G rays:List (List Rat)),r=.tuple [.agg [.int .i64 (n:Int),v,sn],.int .i64 0]/\qf H' H0.length v G/\qf H' H0.length sn rays/\iX G n/\Im n ks L jZ G rays:=by
 have h0:=hs.pos;have hn:=hs.le;have h2:=hs.len;obtain⟨z1,z2,-,-⟩:=hs.b98;obtain⟨bl1,bl2,wr,rl⟩:=hs.bl;obtain⟨o1,Oz,sG,MY⟩:=he.fzi;obtain⟨l1,Wy,uN⟩:=rR (E:=E) (most:=24) Oz hs.wid bl1 (by omega) (by omega) (by omega) (by omega);rw[show((24:Nat):Int)=24 from rfl]at Wy;obtain⟨HA,hmA,hlA,hkA,hgA⟩:=KE (H:=H0) (bJ (.tuple [l1,.int .i64 0])) sG;obtain⟨o2,OA,tz,R7⟩:=(hr.agr hgA hlA).fzi;obtain⟨l2,Wz,vg⟩:=rR (E:=E) (most:=256) OA wr bl2 (by omega) (by omega) (by omega) (by omega);rw[show((256:Nat):Int)=256 from rfl]at Wz;obtain⟨HB,hmB,hlB,hkB,hgB⟩:=KE (H:=HA) (bJ (.tuple [l2,.int .i64 0])) tz;obtain⟨r,H1,hg,Es,tV,v,sn,G,rays,rfl,r9,td,yU,hO⟩:=El (E:=E) (H0:=HB++[.cells .live [.int .i64 0,.aH,.aH]]) uN vg hs;have hlL:(HB++[cG.cells iH.live [AV.int IntKind.i64 0,AV.aH,AV.aH]]).length=H0.length+1:=by rw[aMk,hlB,hlA];rfl
 rw[hlL]at Es tV r9 td;have aoA:HB.length=H0.length:=by omega
 have hz:H1[H0.length]?=some (.cells .live [.int .i64 0,.aH,.aH]):=by rw[Es _ (by omega),gk aoA];rfl
 have m1:=r9.one;have m2:=td.one;have t1:aN l1=true/\b7 l1=true/\l1.cells=[l1]:=by rcases uN with⟨-,rfl⟩|⟨-,vs,rfl,-⟩<;>exact⟨rfl,rfl,rfl⟩
 have t2:aN l2=true/\b7 l2=true/\l2.cells=[l2]:=by rcases vg with⟨-,rfl⟩|⟨-,vs,rfl,-⟩<;>exact⟨rfl,rfl,rfl⟩
 have s2:=fun xs o=>kG (n:=3) (xs:=xs) (o:=o) hz
 obtain⟨H5,oN⟩:∃H5,H5=H1.set H0.length (.cells .live [.int .i64 (n:Int),v,sn]):=⟨_,rfl⟩;have p2:dP H1 H0.length (.cells .live [.int .i64 (n:Int),v,sn])=H5:=by rw[oN];exact eY (by omega)
 have hl5:H5.length=H1.length:=by rw[oN,aPp]
 have h05:H5[H0.length]?=some (.cells .live [.int .i64 (n:Int),v,sn]):=by rw[oN,aOc (by omega)]
 have a5:=fun m o=>jL (n:=m) (o:=o) h05 (by decide)
 have d1:decide ((n:Int)<1)=false:=cH (by omega);have d2:decide ((n:Int)>8)=false:=cH (by omega);refine gi3 (by rw[C.ud]) (by rw[C.fn];exact fn7) (by decide) ?_;intro ts hl g0 g1 g2;unfold c7;simp only[↓aQ,aR,↓aT,aK,dt,↓reduceIte,aa,ah,ae,Tryz.f7,aE,hl,g0,g1,g2,d1,d2,MY,Wy,hmA,R7,Wz,hmB,hg,m1,m2,s2,p2,a5];refine⟨fun k hk h3 h4=>?_,by omega,v,sn,G,rays,rfl,?_,?_,yU,hO⟩
 ·rw[oN,aN9 (by omega),Es k (by omega),aOB (by omega),hkB k h4,hkA k h3]
 ·exact r9.mono (by omega) (by omega) (fun k hk qY=>by rw[oN,aN9 (by omega)])
 ·exact td.mono (by omega) (by omega) (fun k hk qY=>by rw[oN,aN9 (by omega)])
end Go.Proofs.YtblnjkjjedanaaaGreatDoor
namespace Go.Proofs.YtblnjkjjedanaaaGreatDoor
open Go Dv Dv.bV
variable{E:Env}[C:Ctx E]
def SV(ss:List (List UInt8)):AV:=.aJ (ss.map AV.str) ss.length
def TV(v:AV)(rows:List (List (List UInt8))):Prop:=(rows=[]/\v=.aH)∨(rows≠[]/\v=.aJ (rows.map SV) rows.length)
theorem Yo{ss:List (List UInt8)}{i:Nat}(h:i<ss.length):(ss.map AV.str).getD i aX=.str (ss.getD i []):=by rw[aSW,aNe,aSW,aMh h];rfl
theorem YE{rows:List (List (List UInt8))}{i:Nat}(h:i<rows.length):(rows.map SV).getD i aX=SV (rows.getD i []):=by rw[aSW,aNe,aSW,aMh h];rfl
theorem rU{α:Type}{s t:List α}{d:α}(hl:s.length=t.length)(h:∀i,i<s.length->s.getD i d=t.getD i d):s=t:=by
 refine aXw hl (fun i h1 h2=>?_)
 have:=h i h1
 rw[aSW,aMh h1,aSW,aMh h2]at this;exact this
theorem Cs{s t:List (List UInt8)}(hs:s.length<=1000)(ht:t.length<=1000):aO E 61 [SV s,SV t]=some (.bool (decide (s=t))):=by
 refine ep ?_;refine tS avx ?_;intro ts hl g0 g1;unfold c61;have l1:jP (SV s)=some (s.length:Int):=rfl;have l2:jP (SV t)=some (t.length:Int):=rfl;by_cases M0:s.length=t.length
 ·have dn:((s.length:Int)!=(t.length:Int))=false:=by rw[M0];simp
  simp only[↓aQ,aR,aK,aa,ae,Tryz.f61,hl,g0,g1,l1,l2,dn];refine fh (fun k_ ts H=>∃i,k_=s.length-i/\ts.length=26/\gt ts 0=.aJ (s.map AV.str) s.length/\gt ts 1=.aJ (t.map AV.str) t.length/\gt ts 11=.aJ (s.map AV.str) s.length/\gt ts 12=.int .i64 (s.length:Int)/\gt ts 13=.int .i64 (i:Int)/\H=[]/\(i<=s.length)/\(∀j,j<i->s.getD j []=t.getD j [])) (s.length) ?_ ?_
  rotate_left
  ·refine⟨0,(by first|omega|rfl|(simp;done)),(by simp only[cK,hl]),?_⟩;simp only[cM,hl,aa,ae,g0,g1]
   iterate 6 refine⟨by first|trivial|rfl|(congr 1;omega)|(simp;done)|(simp;omega),?_⟩
   refine⟨?_,?_⟩
   ·omega
   ·intro j hj;omega
  clear hl g0 g1 ts;rintro k_ ts H ⟨i,rfl,hl,g0,g1,g11,g12,g13,rfl,hi,he⟩;refine VS ?_;by_cases hd:i<s.length
  ·have dc:decide ((i:Int)<(s.length:Int))=true:=cF (by omega);have oF:((i:Int)<(s.length:Int))=True:=eq_true (by omega);have ZU:((i:Int)<(t.length:Int))=True:=eq_true (by omega);have w1:aV .i64 ((i:Int)+1)=((i+1:Nat):Int):=by rw[wrap_i64 (by omega) (by omega)];omega
   have p1:=dL (vs:=s.map AV.str) (i:=i) (by rw[aOT];exact hd);have p2:=dL (vs:=t.map AV.str) (i:=i) (by rw[aOT];omega);rw[Yo hd]at p1;rw[Yo (by omega)]at p2;have GZ:∀a b,dy E false .neq 26 (.str a) (.str b)=some (.bool (!(a==b))):=fun a b=>rfl
   by_cases heq:s.getD i []=t.getD i []
   ·have hb:(s.getD i []==t.getD i [])=true:=by rw[heq];exact beq_self_eq_true _
    simp only[↓aQ,aR,aK,↓reduceIte,aa,ah,ae,hl,g0,g1,g12,g13,oF,ZU,w1,p1,p2,GZ,hb];refine dO ?_;refine⟨_,?_,i+1,rfl,(by simp only[cK,hl]),?_⟩
    ·first|omega|(simp;omega)
    simp only[cM,hl,aa,ae,g0,g1,g11,g12]
    iterate 6 refine⟨by first|trivial|rfl|(congr 1;omega)|(simp;done)|(simp;omega),?_⟩
    refine⟨?_,?_⟩
    ·omega
    ·intro j hj;by_cases MZ:j=i
     ·rw[MZ];exact heq
     ·exact he j (by omega)
   ·have hb:(s.getD i []==t.getD i [])=false:=beq_eq_false_iff_ne.2 heq;have dM:decide (s=t)=false:=cH (fun e=>heq (by rw[e]));simp only[↓aQ,aR,aK,↓reduceIte,aa,ah,ae,hl,g0,g1,g12,g13,oF,ZU,p1,p2,GZ,hb];rw[dM]
  ·have dc:decide ((i:Int)<(s.length:Int))=false:=cH (by omega);have fK:decide (s=t)=true:=cF (rU M0 (fun j hj=>he j (by omega)));simp only[↓aQ,aR,↓reduceIte,aa,hl,g12,g13,dc];rw[fK]
 ·have dn:((s.length:Int)!=(t.length:Int))=true:=by rw[bne_iff_ne];omega
  have dM:decide (s=t)=false:=cH (fun e=>M0 (by rw[e]));simp only[↓aQ,aR,aK,aa,ae,Tryz.f61,hl,g0,g1,l1,l2,dn];rw[dM]
theorem BY{fn:Nat}(hf:cg E fn=false)(jj:∀s t:List (List UInt8),s.length<=1000->t.length<=1000->aO E fn [SV s,SV t]=some (.bool (decide (s=t)))){v w:AV}{p q:List (List (List UInt8))}(hv:TV v p)(hw:TV w q)(hp:∀x∈p,x.length<=1000)(hq:∀x∈q,x.length<=1000)(uy:p.length<=1000)(K5:q.length<=1000):aO E 60 [v,w,.func fn [] []]=some (.bool (decide (p=q))):=by
 refine ep ?_;have wH:=fun{dr st:Bool} {bl:List AV} {H:Hp} {k:AV->cJ->Prop}=>lu (E:=E) (dr:=dr) (st:=st) (f:=fn) (bl:=bl) (H:=H) (k:=k) hf
 have l1:jP v=some (p.length:Int):=by rcases hv with⟨rfl,rfl⟩|⟨-,rfl⟩<;>rfl
 have l2:jP w=some (q.length:Int):=by rcases hw with⟨rfl,rfl⟩|⟨-,rfl⟩<;>rfl
 refine Zj avw ?_;intro ts hl g0 g1 g2;unfold c60;by_cases M0:p.length=q.length
 ·have dn:((p.length:Int)!=(q.length:Int))=false:=by rw[M0];simp
  simp only[↓aQ,aR,aK,aa,ae,Tryz.f60,hl,g0,g1,l1,l2,dn];refine fh (fun k_ ts H=>∃i,k_=p.length-i/\ts.length=32/\gt ts 1=w/\gt ts 2=.func fn [] []/\gt ts 15=v/\gt ts 16=.int .i64 (p.length:Int)/\gt ts 17=.int .i64 (i:Int)/\H=[]/\(i<=p.length)/\(∀j,j<i->p.getD j []=q.getD j [])) (p.length) ?_ ?_
  rotate_left
  ·refine⟨0,(by first|omega|rfl|(simp;done)),(by simp only[cK,hl]),?_⟩;simp only[cM,hl,aa,ae,g1,g2]
   iterate 6 refine⟨by first|trivial|rfl|(congr 1;omega)|(simp;done)|(simp;omega),?_⟩
   refine⟨?_,?_⟩
   ·omega
   ·intro j hj;omega
  clear hl g0 g1 g2 ts;rintro k_ ts H ⟨i,rfl,hl,g1,g2,g15,g16,g17,rfl,hi,he⟩;refine VS ?_;by_cases hd:i<p.length
  ·have dc:decide ((i:Int)<(p.length:Int))=true:=cF (by omega);have oF:((i:Int)<(p.length:Int))=True:=eq_true (by omega);have ZU:((i:Int)<(q.length:Int))=True:=eq_true (by omega);have w1:aV .i64 ((i:Int)+1)=((i+1:Nat):Int):=by rw[wrap_i64 (by omega) (by omega)];omega
   obtain⟨-,rfl⟩:=hv.resolve_left (fun h=>by rw[h.1]at hd;exact absurd hd (by simp));obtain⟨-,rfl⟩:=hw.resolve_left (fun h=>by rw[h.1]at M0;rw[M0]at hd;exact absurd hd (by simp));have p1:=dL (vs:=p.map SV) (i:=i) (by rw[aOT];exact hd);have p2:=dL (vs:=q.map SV) (i:=i) (by rw[aOT];omega);rw[YE hd]at p1;rw[YE (by omega)]at p2;have gm:∀{l:List (List (List UInt8))} {j:Nat},j<l.length->l.getD j []∈l:=by intro l j hj;rw[aSW,aMh hj];exact List.getElem_mem hj
   have hfc:=jj (p.getD i []) (q.getD i []) (hp _ (gm hd)) (hq _ (gm (by omega)));have psv:∀s,aN (SV s)=true:=fun s=>rfl
   by_cases heq:p.getD i []=q.getD i []
   ·rw[cF heq]at hfc;simp only[↓aQ,aR,aK,↓reduceIte,aa,ae,hl,g1,g2,g15,g16,g17,oF,ZU,w1,p1,p2,wH,hfc,psv];refine dO ?_;refine⟨_,?_,i+1,rfl,(by simp only[cK,hl]),?_⟩
    ·first|omega|(simp;omega)
    simp only[cM,hl,aa,ae,g1,g2,g15,g16]
    iterate 6 refine⟨by first|trivial|rfl|(congr 1;omega)|(simp;done)|(simp;omega),?_⟩
    refine⟨?_,?_⟩
    ·omega
    ·intro j hj;by_cases MZ:j=i
     ·rw[MZ];exact heq
     ·exact he j (by omega)
   ·rw[cH heq]at hfc;have dM:decide (p=q)=false:=cH (fun e=>heq (by rw[e]));simp only[↓aQ,aR,aK,↓reduceIte,aa,ae,hl,g1,g2,g15,g16,g17,oF,ZU,p1,p2,wH,hfc,psv];rw[dM]
  ·have dc:decide ((i:Int)<(p.length:Int))=false:=cH (by omega);have fK:decide (p=q)=true:=cF (rU M0 (fun j hj=>he j (by omega)));simp only[↓aQ,aR,↓reduceIte,aa,hl,g16,g17,dc];rw[fK]
 ·have dn:((p.length:Int)!=(q.length:Int))=true:=by rw[bne_iff_ne];omega
  have dM:decide (p=q)=false:=cH (fun e=>M0 (by rw[e]));simp only[↓aQ,aR,aK,aa,ae,Tryz.f60,hl,g0,g1,l1,l2,dn];rw[dM]
end Go.Proofs.YtblnjkjjedanaaaGreatDoor
namespace Go.Proofs.YtblnjkjjedanaaaGreatDoor
open Go Dv Dv.bV
open Go.Proofs.dN
variable{E:Env}[C:Ctx E]
theorem RT{s t:List (List UInt8)}(hs:s.length<=1000)(ht:t.length<=1000):aO E 97 [SV s,SV t]=some (.bool (decide (s=t))):=by
 refine ep ?_;have h1:=Cs (E:=E) hs ht;have psv:∀s,aN (SV s)=true:=fun s=>rfl
 refine tS avY ?_;intro ts hl g0 g1;unfold c97;simp only[↓aQ,aR,↓aT,aK,aa,ae,Tryz.f97,hl,g0,g1,h1,psv]
theorem TV.lY{v:AV}{p:List (List (List UInt8))}(h:TV v p):aN v=true/\b7 v=true/\v.cells=[v]:=by rcases h with⟨-,rfl⟩|⟨-,rfl⟩<;>exact⟨rfl,rfl,rfl⟩
theorem GQ{v w:AV}{p q:List (List (List UInt8))}(hv:TV v p)(hw:TV w q)(hp:∀x∈p,x.length<=1000)(hq:∀x∈q,x.length<=1000)(uy:p.length<=1000)(K5:q.length<=1000):aO E 96 [v,w]=some (.bool (decide (p=q))):=by refine ep ?_;have h1:=BY (E:=E) (cn C (by kernel_rfl)) (fun s t hs ht=>RT (E:=E) hs ht) hv hw hp hq uy K5;have m1:=hv.lY;have m2:=hw.lY;refine tS avX ?_;intro ts hl g0 g1;unfold c96;simp only[↓aQ,aR,↓aT,aK,aa,ae,Tryz.f96,hl,g0,g1,h1,m1,m2]
theorem Kt{n:Int}{v w rv rw':AV}{p q p2 q2:List (List (List UInt8))}(hv:TV v p)(hw:TV w q)(Ud:TV rv p2)(wN:TV rw' q2)(hp:∀x∈p,x.length<=1000)(hq:∀x∈q,x.length<=1000)(uy:p.length<=1000)(K5:q.length<=1000)(hp2:∀x∈p2,x.length<=1000)(Wv:∀x∈q2,x.length<=1000)(axp:p2.length<=1000)(axu:q2.length<=1000):aO E 55 [.agg [.int .i64 n,v,rv],.agg [.int .i64 n,w,rw']]=some (.bool (decide (p=q)&&decide (p2=q2))):=by
 refine ep ?_;have h1:=GQ (E:=E) hv hw hp hq uy K5;have h2:=GQ (E:=E) Ud wN hp2 Wv axp axu;have m1:=hv.lY;have m2:=hw.lY;have m3:=Ud.lY;have m4:=wN.lY;have wH:=fun{dr st:Bool} {bl:List AV} {H:Hp} {k:AV->cJ->Prop}=>lu (E:=E) (dr:=dr) (st:=st) (f:=96) (bl:=bl) (H:=H) (k:=k) (cn C (by kernel_rfl))
 have dnn:(n==n)=true:=beq_self_eq_true n;refine tS avq ?_;intro ts hl g0 g1;unfold c55;by_cases Zt:p=q
 ·rw[cF Zt]at h1⊢;simp only[↓aQ,aR,aK,aa,ae,Tryz.f55,hl,g0,g1,h1,h2,m1,m2,m3,m4,wH]
 ·rw[cH Zt]at h1⊢;simp only[↓aQ,aR,aK,aa,ae,Tryz.f55,hl,g0,g1,h1,m1,m2,wH]
theorem BD{v:AV}{G:List (List Rat)}(h:mz v G):TV v (G.map fun q=>q.map bC):=by
 rcases h with⟨rfl,rfl⟩|⟨h0,rfl⟩
 ·exact .inl ⟨rfl,rfl⟩
 ·refine .inr ⟨fun e=>h0 (List.map_eq_nil_iff.1 e),?_⟩;rw[aOT,aXx];congr 1;refine List.map_congr_left (fun q _=>?_);show dS q=SV (q.map bC)
  unfold dS SV;rw[aOT,aXx];rfl
theorem oX{n:Nat}{G:List (List Rat)}(hw:iX G n)(hn:n<=8):∀x∈G.map (fun q=>q.map bC),x.length<=1000:=by
 intro x hx;rw[aNp]at hx;obtain⟨q,hq,rfl⟩:=hx;obtain⟨j,hj,rfl⟩:=aVB hq
 have:=hw j hj
 unfold row at this;rw[aSW,aMh hj,aNt]at this;rw[aOT,this];omega
theorem zI{H:Hp}{m:Nat}{k:IntKind}{z:Int}{v rv o ro:AV}{bs CF:List Nat}(h1:Dv.fz H m v=some (o,bs))(h2:Dv.fz H m rv=some (ro,CF))(hm:1<=m):Dv.fz H (m+1) (.agg [.int k z,v,rv])=some (.agg [.int k z,o,ro],bs++CF):=by
 obtain⟨m,rfl⟩:∃q,m=q+1:=⟨m-1,by omega⟩;unfold Dv.fz;have e1:Dv.fz H (m+1) (.int k z)=some (.int k z,[]):=rfl;simp only[dh,h1,h2,e1]
 simp
theorem aaK{H:Hp}{m:Nat}{k:IntKind}{z:Int}{x o:AV}{bs:List Nat}(h1:Dv.fz H m x=some (o,bs))(hm:1<=m):Dv.fz H (m+1) (.tuple [x,.int k z])=some (.tuple [o,.int k z],bs):=by
 obtain⟨m,rfl⟩:∃q,m=q+1:=⟨m-1,by omega⟩;unfold Dv.fz;have e1:Dv.fz H (m+1) (.int k z)=some (.int k z,[]):=rfl;simp only[dh,h1,e1]
 simp
theorem mz.fz{v:AV}{G:List (List Rat)}(h:mz v G)(H:Hp)(m:Nat):Dv.fz H (m+1) v=some (v,[]):=by
 rcases h with⟨-,rfl⟩|⟨-,rfl⟩<;>rfl
theorem Kd.pure{H:Hp}{lo:Nat}{v:AV}{G:List (List Rat)}(h:Kd H lo v G):aN v=true/\v=.aH/\G=[]∨aN v=false:=by
 rcases h with⟨rfl,rfl⟩|⟨-,b,st,hs,rfl,-⟩
 ·exact .inl ⟨rfl,rfl,rfl⟩
 ·exact .inr rfl
theorem aaG{H:Hp}{lo:Nat}{v rv p q:AV}{G rays G' aro:List (List Rat)}(h1:Kd H lo v G)(h2:Kd H lo rv rays)(hp:mz p G')(hq:mz q aro):∃o ro bs,mz o G/\mz ro rays/\(∀b∈bs,lo<=b/\b<H.length)/\∀l k z k' z',oG (aN v&&aN rv) (H++l) [.agg [.int k' z',p,q],.agg [.int k z,v,rv]]=some ([.agg [.int k' z',p,q],.agg [.int k z,o,ro]],bs):=by
 obtain⟨o,bs,f1,f2,f3⟩:=h1.fz 36;obtain⟨ro,CF,f4,f5,f6⟩:=h2.fz 36;have key:(aN v&&aN rv)=false->∃o ro bs,mz o G/\mz ro rays/\(∀b∈bs,lo<=b/\b<H.length)/\∀l k z k' z',oG (aN v&&aN rv) (H++l) [.agg [.int k' z',p,q],.agg [.int k z,v,rv]]=some ([.agg [.int k' z',p,q],.agg [.int k z,o,ro]],bs):=by
  intro hf;refine⟨o,ro,bs++CF,f2,f5,fun b hb=>(aNg.1 hb).elim (f3 b) (f6 b),fun l k z k' z'=>?_⟩;have g1:=lU f1 (fun b hb=>(f3 b hb).2) l;have g2:=lU f4 (fun b hb=>(f6 b hb).2) l;have g3:=zI (k:=k) (z:=z) g1 g2 (by omega);have g4:=zI (k:=k') (z:=z') (hp.fz (H++l) 38) (hq.fz (H++l) 38) (by omega);rw[hf,kV];unfold bW;rw[if_neg (by simp only[bE,aN,Bool.true_and,Bool.and_true,hf];simp)];simp only[dh,g3,g4]
  simp
 rcases h1.pure with⟨e1,rfl,rfl⟩|e1
 ·rcases h2.pure with⟨e2,rfl,rfl⟩|e2
  ·refine⟨.aH,.aH,[],.inl ⟨rfl,rfl⟩,.inl ⟨rfl,rfl⟩,by simp,fun l k z k' z'=>?_⟩;rcases hp with⟨-,rfl⟩|⟨-,rfl⟩<;>rcases hq with⟨-,rfl⟩|⟨-,rfl⟩<;>rfl
  ·exact key (by rw[e2,Bool.and_false])
 ·exact key (by rw[e1,Bool.false_and])
theorem Qz{H:Hp}{lo:Nat}{v rv:AV}{G rays:List (List Rat)}(h1:Kd H lo v G)(h2:Kd H lo rv rays):∃o ro bs,mz o G/\mz ro rays/\(∀b∈bs,lo<=b/\b<H.length)/\∀l k z k' z',oG (aN v&&aN rv) (H++l) [.tuple [.agg [.int k z,v,rv],.int k' z']]=some ([.tuple [.agg [.int k z,o,ro],.int k' z']],bs):=by
 obtain⟨o,bs,f1,f2,f3⟩:=h1.fz 35;obtain⟨ro,CF,f4,f5,f6⟩:=h2.fz 35;have key:(aN v&&aN rv)=false->∃o ro bs,mz o G/\mz ro rays/\(∀b∈bs,lo<=b/\b<H.length)/\∀l k z k' z',oG (aN v&&aN rv) (H++l) [.tuple [.agg [.int k z,v,rv],.int k' z']]=some ([.tuple [.agg [.int k z,o,ro],.int k' z']],bs):=by
  intro hf;refine⟨o,ro,bs++CF,f2,f5,fun b hb=>(aNg.1 hb).elim (f3 b) (f6 b),fun l k z k' z'=>?_⟩;have g1:=lU f1 (fun b hb=>(f3 b hb).2) l;have g2:=lU f4 (fun b hb=>(f6 b hb).2) l;have g3:=aaK (k:=k') (z:=z') (zI (k:=k) (z:=z) g1 g2 (by omega)) (by omega);rw[hf,kV];unfold bW;rw[if_neg (by simp only[bE,aN,Bool.true_and,Bool.and_true,hf];simp)];simp only[dh,g3]
  simp
 rcases h1.pure with⟨e1,rfl,rfl⟩|e1
 ·rcases h2.pure with⟨e2,rfl,rfl⟩|e2
  ·exact⟨.aH,.aH,[],.inl ⟨rfl,rfl⟩,.inl ⟨rfl,rfl⟩,by simp,fun l k z k' z'=>rfl⟩
  ·exact key (by rw[e2,Bool.and_false])
 ·exact key (by rw[e1,Bool.false_and])
structure rK(n:Nat)(G rays:List (List Rat)):Prop where
 ex:∃L jZ,Dx n L jZ/\Im n 18664 L jZ G rays
 wid:iX G n
theorem rK.Rk{n:Nat}{G rays:List (List Rat)}(h:rK n G rays):∃o:Option (List Rat),rays=o.toList/\iX rays n/\G.length<=2/\CR 11 G/\(∀s,o=some s->CV 18664 (fv s)/\s.length=n)/\(∀(K:List (List Rat)) (P:Nat->Nat),iX K n->(kU n K.length (fun i=>dW K i) P (iY n G.length (fun i=>fv (row G i)))∨∃s,o=some s/\kU n K.length (fun i=>dW K i) P (iY n (G++[s]).length (fun i=>fv (row (G++[s]) i))))->K.length<=8/\CB 23 K.length (fun i=>dW K i)):=by
 obtain⟨L,jZ,hs,⟨P,hE⟩,hO⟩:=h.ex;obtain⟨h1,h2,h3⟩:=Ya hs.wid hs.cr hE;have h4:=hs.two;have F2:CR 11 G:=adL (h3.mono (aNR (sP (aLr _) (show G.length<=2 by omega)) (by decide)));have hG:∀x,eK (SR G.length (rf G)) x↔eK (SR L.length (rf L)) x:=fun y=>(hE.Yb (jn _)).symm
 have ahS:=fun(K:List (List Rat)) (P:Nat->Nat) (hw:iX K n)=>A7 hs.wid hs.cr hs.jZ hs.le (kg:=23) (fun r h1 h3=>aNR (sP (aLr _) (show r<=3 by omega)) (by decide)) K P hw
 rcases hO with rfl|⟨r,s,w,e1,rfl,e3,e4,e5,e6,e7⟩
 ·refine⟨none,rfl,fun i hi=>absurd hi (by simp),by omega,F2,fun s h=>(by cases h),fun K P hw hK=>?_⟩;rcases hK with hK|⟨s,h,-⟩
  ·exact ahS K P hw (.inl (hK.congr (sT hG)))
  ·cases h
 ·refine⟨some s,rfl,fun i hi=>?_,by omega,F2,fun u h=>(by cases h;exact⟨e7,e3⟩),fun K P hw hK=>?_⟩
  ·have:i=0:=by simpa using hi
   subst this;exact e3
  ·rcases hK with hK|⟨u,h,hK⟩
   ·exact ahS K P hw (.inl (hK.congr (sT hG)))
   ·cases h;exact ahS K P hw (.inr ⟨r,e1,hK.congr (VU hE e4 e5 e6)⟩)
theorem rK.pos{n:Nat}{G rays:List (List Rat)}(h:rK n G rays):0<n/\n<=8:=by obtain⟨L,jZ,hs,-⟩:=h.ex;exact⟨hs.pos,hs.le⟩
theorem Dn{b n:Nat}{o:Option (List Rat)}(h:∀s,o=some s->CV b (fv s)/\s.length=n):mR (b+1) o.toList:=by
 intro i hi;cases o with
 |none=>exact absurd hi (by simp)
 |some r=>
  have:i=0:=by simpa using hi
  subst this;exact mj (h r rfl).1
end Go.Proofs.YtblnjkjjedanaaaGreatDoor
