/- A part of the proof that PairRefuses returns true for every input; no condition of its own. -/
import Derived.Test.YtblnjkjjedanaaaGreatDoorTav
set_option linter.all false
set_option maxHeartbeats 100000000
set_option maxRecDepth 100000
open List renaming getElem?_set_ne->aN9,length_append->aMk,length_set->aPp,getElem?_set_self->aOc,getD_eq_getElem?_getD->aSW,getElem?_append_left->aOB,length_map->aOT,getElem?_eq_getElem->aMh,zipWith->aU3,append_assoc->aS1,length_singleton->aWX,all_cons->aOV,length_zipWith->aU6,takeWhile_cons->aUd,all_nil->aRl,getElem?_map->aNe,length_range->aWZ,take_length->aR7,length_take->aMp
open Nat renaming le_refl->aLr,lt_succ_self->aXi,reduceLT->aa,reduceEqDiff->ae,reduceAdd->ah,reduceLeDiff->ai,reduceMul->ak
open Rat renaming divInt_eq_div->aWf,mul_pos->aXj,num_divInt_den->aTY
open Bool renaming not_false->aXk,and_self->aRg
open Int renaming reduceLE->an,reduceLT->ao,reduceToNat->aq,reduceAdd->aA
namespace Go.Proofs.YtblnjkjjedanaaaGreatDoor
open Go Dv Dv.bV
variable{E:Env}[C:Ctx E]
theorem zw{f n:Nat}{l:List AV}{H H':Hp}{r:AV}(h:∀o,um (EN o) (dJ (EN o) n) f l H=some (r,H')):cL E f l H=some (r,H'):=by obtain⟨o,rfl⟩:=fT C;exact AR ⟨n,h o⟩
theorem X8{H:Hp}:cL E 141 [.aH,.func 142 [] []] H=some (.tuple [],H):=zw (n:=60) (fun o=>by kernel_rfl)
theorem X9{H:Hp}{X:Nat}:cL E 141 [.aI X 0 1 1 1,.func 142 [] []] H=some (.tuple [],H):=zw (n:=60) (fun o=>by kernel_rfl)
theorem Pm:aO E 139 [.aH]=some (.tuple [.aH,.aH,.int .i64 0]):=nE (n:=60) (by kernel_rfl) (fun o=>by kernel_rfl)
theorem W6{aM:Nat}:zY E aM 219 none=some (.iL aM,[(aM,.map .live [] [])]):=by
 obtain⟨o,rfl⟩:=fT C
 kernel_rfl
theorem afJ:∃i,E.ty 219=some i/\i.cS=.map 9 4:=by
 have h:(E.ty 219).map yT.cS=some (.map 9 4):=by
  obtain⟨o,rfl⟩:=fT C
  kernel_rfl
 cases hi:E.ty 219 with
 |none=>rw[hi]at h;cases h
 |some i=>rw[hi]at h;exact⟨i,rfl,by simpa using h⟩
theorem ap7{s:List UInt8}:qn E 9 (.str s) (.str s)=some true:=by
 have h:qn E 9 (.str s) (.str s)=some (s==s):=by
  obtain⟨o,rfl⟩:=fT C
  kernel_rfl
 rw[h,beq_self_eq_true]
theorem pk9:plainKey E 20 9=true:=by
 obtain⟨o,rfl⟩:=fT C
 kernel_rfl
theorem ze4:gX E 4=some (.bool false):=by
 obtain⟨o,rfl⟩:=fT C
 kernel_rfl
theorem SB{M:Nat}{H:Hp}{s:List UInt8}(h:H[M]?=some (.map .live [] [])):jk E H 219 (.iL M) (.str s) false=some (.bool false):=by
 obtain⟨⟨cS,isAgg,size,bytes,zero,eQ⟩,h1,h2⟩:=afJ (E:=E);simp only at h2;subst h2;have hm:Bm H (.iL M)=some ([],[]):=by unfold Bm;simp only[h];rfl
 unfold jk;simp only[h1,hm,pk9,ap7,sN,ze4];rfl
theorem aj2{M:Nat}{H:Hp}{s:List UInt8}(h:H[M]?=some (.map .live [] [])):ek E H 219 (.iL M) (.str s) (.bool true)=some [(M,.map .live [.str s] [.bool true])]:=by obtain⟨⟨cS,isAgg,size,bytes,zero,eQ⟩,h1,h2⟩:=afJ (E:=E);simp only at h2;subst h2;unfold ek;simp only[h1,h,pk9,ap7,sN];rfl
def mI(q:List Rat):List UInt8:=q.flatMap fun x=>bC x++[32]
class lS(E:Env):Prop extends Ctx E where
 nm:∀(v:AV) (q:List Rat) (k:Nat),gy v q->BL k q->k<=100000000000->q.length<=1000->E.ov 140 [v]=some (.str (mI q))
theorem NO{E:Env} [C:lS E]{v:AV}{q:List Rat}{k:Nat}(h:gy v q)(b:BL k q)(hk:k<=100000000000)(hq:q.length<=1000):aO E 140 [v]=some (.str (mI q)):=by
 have hn:E.fn 140=none:=by rw[C.fn];kernel_rfl
 refine ed ⟨fun fi oJ=>?_,0,?_⟩
 ·rw[hn]at oJ;cases oJ
 ·show call E 0 _ _=some _
  unfold call qc;rw[C.nm v q k h b hk hq]
theorem nX.fzm{H H2:Hp}{B n:Nat}{v:AV}{rows:List (List Rat)}(h:nX H B n v rows)(hl:nK B H H2)(h0:0<rows.length)(m:Nat):∃vs bs,Dv.fz H2 (m+3) v=some (.aJ vs rows.length,bs)/\oH vs rows n/\∀b∈bs,B<b/\b<H.length:=by
 rcases h with⟨e,-⟩|⟨-,b,st,hs,e1,hB,gO,h1,h2,h3,h4⟩
 ·rw[e]at h0;exact absurd h0 (by simp)
 ·have key:∀(l:List AV),(∀x∈l,∃q,qw H B x q)->∃r,dh (Dv.fz H2 (m+2)) l=some r/\r.length=l.length/\(∀j,j<l.length->∃q,qw H B (l.getD j aX) q/\Dv.fz H2 (m+2) (l.getD j aX)=some ((r.map (·.1)).getD j aX,((r.map (·.2)).getD j [])))/\∀b∈r.flatMap (·.2),B<b/\b<H.length:=by
   intro l;induction l with
   |nil=>intro _;exact⟨[],rfl,rfl,by simp,by simp⟩
   |cons x l ih=>
    intro hx;obtain⟨r,wJ,yp,Bb,Wx⟩:=ih fun y hy=>hx y (by simp[hy])
    obtain⟨q,hq⟩:=hx x (by simp);obtain⟨cs,bs,f1,f2,f3⟩:=hq.fzm hl m;refine⟨(.aJ cs q.length,bs)::r,?_,by simp[yp],?_,?_⟩
    ·unfold dh;rw[f1,wJ]
    ·intro j hj;cases j with
     |zero=>exact⟨q,hq,f1⟩
     |succ j=>
      obtain⟨q',a1,a2⟩:=Bb j (by simpa using hj);exact⟨q',by simpa using a1,by simpa using a2⟩
    ·intro b hb;rw[List.flatMap_cons,List.mem_append]at hb;rcases hb with hb|hb
     ·exact f3 b hb
     ·exact Wx b hb
  obtain⟨r,wJ,yp,Bb,Wx⟩:=key hs (by
   intro x hx;obtain⟨j,hj,e⟩:=List.getElem_of_mem hx
   have:=(h4 j (by omega)).1
   rw[aSW,aMh hj,Option.getD_some,e]at this;exact⟨_,this⟩)
  obtain⟨st',d',e'⟩:=hl.2 b st hs (by omega) h1 h2;have h6:=kD (n:=m+2) (off:=0) (len:=rows.length) (esz:=1) (k:=rows.length) e' d' (by omega) (by rw[List.drop_zero,Nat.mul_one,<-h3,aR7];exact wJ);subst e1;refine⟨_,_,h6,⟨by rw[aOT,yp,h3],fun j hj=>?_⟩,?_⟩
  ·obtain⟨q,a1,a2⟩:=Bb j (by omega);obtain⟨cs,bs,f1,f2,f3⟩:=(h4 j hj).1.fzm hl m;rw[f1]at a2;simp only[Option.some.injEq,Prod.mk.injEq]at a2;rw[<-a2.1];exact⟨⟨cs,rfl,f2⟩,(h4 j hj).2⟩
  ·intro b hb;simp only[List.mem_cons]at hb;rcases hb with rfl|hb
   ·exact⟨hB,gO⟩
   ·exact Wx b hb
def oh(v:List Rat)(G:List (List Rat))(P:Nat->Nat):Nat->List Rat
 |0=>v
 |i+1=>aU3 (fun x y=>x*1+y*(-((oh v G P i).getD (P i) 0))) (oh v G P i) (row G i)
theorem Aa{v:List Rat}{G:List (List Rat)}{P:Nat->Nat}{n:Nat}(hv:v.length=n)(hG:iX G n):∀{i:Nat},i<=G.length->(oh v G P i).length=n
 |0,_=>hv
 |i+1,hi=>by rw[oh,aU6,Aa hv hG (by omega),hG i (by omega),Nat.min_self]
theorem Jn{v:List Rat}{G:List (List Rat)}{P:Nat->Nat}{n:Nat}{W:dN.FV->Prop}(hv:v.length=n)(hG:iX G n)(hE:dN.kU n G.length (fun i=>dW G i) P W):∀{i:Nat},i<=G.length->∀c,fv (oh v G P i) c=fv v c-dN.jo (fun j=>fv v (P j)*dW G j c) i
 |0,_,c=>by show fv v c=_;simp only[dN.jo];grind
 |i+1,hi,c=>by
  have ih:=Jn hv hG hE (i:=i) (by omega);have h1:fv (oh v G P (i+1)) c=fv (oh v G P i) c*1+(row G i).getD c 0*(-((oh v G P i).getD (P i) 0)):=qW (by rw[Aa hv hG (by omega),hG i (by omega)]) (by grind) c;have h2:(oh v G P i).getD (P i) 0=fv v (P i):=by
   have:=ih (P i)
   rw[show dN.jo (fun j=>fv v (P j)*dW G j (P i)) i=0 from dN.gw (fun j hj=>by
    have:=hE.one j i (by omega) (by omega)
    rw[if_neg (by omega)]at this;rw[this];grind)]at this
   show fv (oh v G P i) (P i)=_
   rw[this];grind
  rw[h1,h2,ih c,dN.jo];show _=_-(_+_*(row G i).getD c 0)
  grind
theorem Jm{v:List Rat}{G:List (List Rat)}{P:Nat->Nat}{n kp kg:Nat}{W:dN.FV->Prop}(hv:v.length=n)(hG:iX G n)(hE:dN.kU n G.length (fun i=>dW G i) P W)(cv:dN.CV kp (fv v))(cb:dN.CB kg G.length (fun i=>dW G i))(h8:G.length<=8){i:Nat}(hi:i<=G.length):dN.CV (kp+kg+4) (fv (oh v G P i)):=by
 obtain⟨D,A,h0,h1,h2⟩:=dN.CV.mix (m:=i) (P:=P) cv (cb.le hi) (by omega);exact⟨D,A,h0,h1,fun c=>by rw[Jn hv hG hE hi c];exact h2 c⟩
def ak7(H:Hp)(B n:Nat)(rv:AV):Option (List Rat)->Prop
 |none=>rv=.aH
 |some q=>∃rb P ws,rv=.aI rb 0 1 17 1/\rb≠B/\rb<H.length/\H[rb]?=some (.cells .live (P::ws))/\Wd ws/\gy P q/\q.length=n
def ayX(G:List (List Rat))(P:Nat->Nat):Option (List Rat)->List (List Rat)
 |none=>[]
 |some q=>[(oh q G P G.length).map fun x=>x*lN (oh q G P G.length)]
theorem zR{H h:Hp}(k:∀b,b<H.length->h[b]?=H[b]?):oO H h=true:=by unfold oO;exact @cF _ (Classical.propDecidable _) k
theorem Rg{Hq:Hp}{lo:Nat}{v w:AV}{G:List (List Rat)}{q:List Rat}(hT:qf Hq lo v G)(jN:lo<=Hq.length)(hw:gy w q){k:Nat}(b:BL k q)(hk:k<=100000000000)(hq:q.length<=1000)(hG:G.length<=1000):
  ∃HN Cz Nd bM,cL E 82 [w] (Hq++[dV,dV])=some (.aI (Hq.length+2) 0 q.length 1 q.length,HN)/\oO (Hq++[dV,dV]) HN=true/\HN[Hq.length]?=some dV/\
   dP HN Hq.length (.cells .live [.aI (Hq.length+2) 0 q.length 1 q.length])=Cz/\Cz[Hq.length+1]?=some dV/\
   aZ E Cz (Hq.length+1) .append [24,24] [v,.aI Hq.length 0 1 1 1]=some (.aI (Hq.length+1) 0 (G.length+1) 1 (G.length+1),bM)/\(cJ.bM bM).app Cz=Nd/\
   (∀p,p<Hq.length->(∀m,v≠ .aI p 0 m 1 m)->Nd[p]?=Hq[p]?)/\Hq.length+2<Nd.length/\qf Nd lo (.aI (Hq.length+1) 0 (G.length+1) 1 (G.length+1)) (G++[q]):=by
 obtain⟨r,HN,h1,rfl,h2,h3,h4⟩:=Ac (E:=E) (H0:=Hq++[dV,dV]) hw b hk hq;have vg:(Hq++[dV,dV]).length=Hq.length+2:=by rw[aMk];rfl
 rw[vg]at h1 h2 h3 h4;obtain⟨tx,Oy⟩:∃tx,tx=AV.aI (Hq.length+2) 0 q.length 1 q.length:=⟨_,rfl⟩;have apy:b7 tx=true:=by rw[Oy];rfl
 obtain⟨Cz,Ob⟩:∃Cz,Cz=HN.set Hq.length (.cells .live [tx]):=⟨_,rfl⟩;have uN:Cz.length=HN.length:=by rw[Ob,aPp]
 have Oj:HN[Hq.length]?=some dV:=by rw[h3 _ (by omega),gk rfl];rfl
 have uK:HN[Hq.length+1]?=some dV:=by rw[h3 _ (by omega),lL rfl];rfl
 have K0:∀p,p<Hq.length->Cz[p]?=Hq[p]?:=fun p hp=>by
  rw[Ob,aN9 (by omega),h3 p (by omega),aOB hp]
 have h1L:Cz[Hq.length]?=some (.cells .live [tx]):=by rw[Ob,aOc (by omega)]
 have anv:Cz[Hq.length+2]?=some (.cells .live (mZ q)):=by rw[Ob,aN9 (by omega)];exact h4
 have Sd:dP HN Hq.length (.cells .live [tx])=Cz:=by rw[eY (by omega),Ob]
 obtain⟨hs,lJ,R8⟩:=hT.sl;refine⟨HN,Cz,?_⟩;rcases id lJ with⟨e0,e1,e2⟩|⟨h0,bb,sG,tz,e2,zK⟩
 ·have V8:aZ E Cz (Hq.length+1) .append [24,24] [v,.aI Hq.length 0 1 1 1]=some (.aI (Hq.length+1) 0 1 1 1,[(Hq.length+1,.cells .live [tx])]):=by rw[e2];exact pN Ak (by decide) h1L (by decide) rfl (by simp only[aOV,apy,aRl,aRg]) (by decide)
  have uJ:(cJ.bM [(Hq.length+1,cG.cells .live [tx])]).app Cz=Cz.set (Hq.length+1) (.cells .live [tx]):=by
   show dP Cz _ _=_
   rw[eY (by omega)]
  refine⟨_,_,h1,zR (by rw[vg];exact h3),Oj,by rw[<-Oy];exact Sd,by rw[Ob,aN9 (by omega)];exact uK,by rw[e0];exact V8,uJ,fun p hp _=>?_,by rw[aPp];omega,?_⟩
  ·rw[aN9 (by omega)];exact K0 p hp
  ·refine hT.step lJ jN (r:=Hq.length+2) (by omega) (by omega) (by omega) (by rw[aPp];omega) (by rw[aPp];omega) ?_ (by rw[aN9 (by omega)];exact anv) (fun p _ hp _=>by rw[aN9 (by omega)];exact K0 p hp);rw[aOc (by omega),e1,Oy];rfl
 ·have V8:aZ E Cz (Hq.length+1) .append [24,24] [v,.aI Hq.length 0 1 1 1]=some (.aI (Hq.length+1) 0 (G.length+1) 1 (G.length+1),[(bb,.cells .dead []),(Hq.length+1,.cells .live (hs++[tx]))]):=by
   rw[e2];exact agh Ak (by decide) h0 (by rw[K0 bb tz];exact zK) (by omega) h1L (by decide) rfl (by simp only[aOV,apy,aRl,aRg]) (by unfold gq;omega) (by omega)
  have uJ:(cJ.bM [(bb,cG.cells .dead []),(Hq.length+1,cG.cells .live (hs++[tx]))]).app Cz=(Cz.set bb (.cells .dead [])).set (Hq.length+1) (.cells .live (hs++[tx])):=by
   show dP (dP Cz bb (.cells .dead [])) (Hq.length+1) (.cells .live (hs++[tx]))=_
   have e3:dP Cz bb (.cells .dead [])=Cz.set bb (.cells .dead []):=eY (by omega);rw[e3];exact eY (by rw[aPp];omega)
  have dM:∀p,(∀m,v≠ .aI p 0 m 1 m)->p≠bb:=fun p hv e=>hv G.length (by rw[e2,e])
  refine⟨_,_,h1,zR (by rw[vg];exact h3),Oj,by rw[<-Oy];exact Sd,by rw[Ob,aN9 (by omega)];exact uK,V8,uJ,fun p hp hv=>?_,by rw[aPp,aPp];omega,?_⟩
  ·have:=dM p hv
   rw[aN9 (by omega),aN9 (by omega)];exact K0 p hp
  ·refine hT.step lJ jN (r:=Hq.length+2) (by omega) (by omega) (by omega) (by rw[aPp,aPp];omega) (by rw[aPp,aPp];omega) ?_ (by rw[aN9 (by omega),aN9 (by omega)];exact anv) (fun p _ hp hv=>by have:=dM p hv;rw[aN9 (by omega),aN9 (by omega)];exact K0 p hp);rw[aOc (by rw[aPp];omega),Oy]
theorem Xx{fq:List Nat}{j:Nat}(h:j<fq.length):(fq.map fun k:Nat=>AV.int .i64 (k:Int)).getD j aX=.int .i64 ((fq.getD j 0:Nat):Int):=by rw[aSW,aNe,aMh h,aSW,aMh h];rfl
theorem qf.aiN{H:Hp}{lo p:Nat}{v:AV}{G:List (List Rat)}(h:qf H lo v G)(hp:p<lo)(m:Nat):v≠ .aI p 0 m 1 m:=by
 rcases h with⟨-,rfl⟩|⟨-,b,hs,rfl,h1,-⟩
 ·simp
 ·simp only[ne_eq,AV.aI.injEq];omega
theorem AW{E:Env} [C:lS E]{H0:Hp}{B n K kg kp:Nat}{U5:Int}{Lv rv:AV}{rows:List (List Rat)}{jZ:Option (List Rat)}(vG:B<H0.length)(hB:H0[B]?=some (.cells .live [Lv,rv,.int .i64 U5]))(hL:nX H0 B n Lv rows)(Ow:ak7 H0 B n rv jZ)(h0:0<n)(hn:n<=8)(hR:rows.length<=256)(hK:0<K)(bb:mR K rows)(yn:5^n*K<=10000000000)
  (hG:∀(G:List (List Rat)) (P:Nat->Nat),iX G n->dN.kU n G.length (fun i=>dW G i) P (dN.eK (dN.SR rows.length fun i=>dW rows i))->G.length<=8/\dN.CB kg G.length (fun i=>dW G i)) (hp:∀q,jZ=some q->dN.CV kp (fv q)) (T5:kp+kg<=1000000):
  ∃r H',cL E 101 [.b6 B 0,.int .i64 (n:Int)] H0=some (r,H')/\(∀k,k<B->H'[k]?=H0[k]?)/\H0.length<=H'.length/\∃(v sn:AV) (G:List (List Rat)) (P:Nat->Nat),r=.agg [.int .i64 (n:Int),v,sn]/\qf H' H0.length v G/\qf H' H0.length sn (ayX G P jZ)/\iX G n/\dN.kU n G.length (fun i=>dW G i) P (dN.eK (dN.SR rows.length fun i=>dW rows i)):=by
 have c1:=fun l o=>kZ (T:=H0) (l:=l) (o:=o) vG
 have c3:=fun o=>jM (o:=o) hB (by decide)
 have K6:∃(fv:AV) (bs:List Nat) (o p:AV) (G:List (List Rat)) (fq:List Nat),oG (aN Lv) (H0++[cG.cells iH.live [AV.int IntKind.i64 0,AV.aH,AV.aH],cG.cells iH.live [AV.int IntKind.i64 (n:Int),AV.aH,AV.aH]]) [Lv]=some ([fv],bs)/\(∀b∈bs,B<b/\b<H0.length)/\aO E 139 [fv]=some (.tuple [o,p,.int .i64 0])/\jP o=some (G.length:Int)/\jP p=some (G.length:Int)/\aN o=true/\aN p=true/\(∀i,i<G.length->∃vs:List AV,o=.aJ vs G.length/\oH vs G n)/\mR (5^n*K) G/\G.length<=256/\iX G n/\fq.length=G.length/\((fq=[]/\p=.aH)∨p=.aJ (fq.map fun k:Nat=>.int .i64 (k:Int)) fq.length)/\dN.kU n G.length (fun i=>dW G i) (fun i=>fq.getD i 0) (dN.eK (dN.SR rows.length fun i=>dW rows i)):=by
  by_cases Ba:0<rows.length
  ·obtain⟨vs,bs,f1,f2,f3⟩:=hL.fzm (H2:=H0++[cG.cells iH.live [AV.int IntKind.i64 0,AV.aH,AV.aH],cG.cells iH.live [AV.int IntKind.i64 (n:Int),AV.aH,AV.aH]]) (nK.app _) Ba 37;obtain⟨o,p,G5,⟨k,rw',fq,hS,hk,K8,hlen,ax1,Wa,uy,hp,ho⟩⟩:=L4 (E:=E) f2 bb hK h0 Ba hR (by omega) yn;have hw0:iX rows n:=fun i hi=>(f2.2 i hi).2
   have hE:=XE hS hw0 hk K8;have yI:(rw'.take fq.length).length=fq.length:=by rw[aMp];omega
   have hrt:∀i,i<fq.length->row (rw'.take fq.length) i=row rw' i:=fun i hi=>by
    unfold row;rw[aSW,List.getElem?_take,if_pos hi,<-aSW]
   refine⟨_,bs,o,p,rw'.take fq.length,fq,?_,f3,G5,?_,?_,?_,?_,?_,?_,by omega,?_,by omega,hp,?_⟩
   ·obtain⟨-,b,st,hs,e1,-⟩:=hL.resolve_left (fun h=>by rw[h.1]at Ba;exact absurd Ba (by simp));subst e1;show oG false _ _=_
    rw[kV];unfold bW;rw[if_neg (by simp[bE,aN])];simp only[dh,f1]
    simp
   ·rw[yI];rcases ho with⟨h1,rfl⟩|⟨h1,FL,rfl,-⟩
    ·rw[h1];rfl
    ·rfl
   ·rw[yI];rcases hp with⟨rfl,rfl⟩|rfl<;>rfl
   ·rcases ho with⟨h1,rfl⟩|⟨h1,FL,rfl,-⟩<;>rfl
   ·rcases hp with⟨rfl,rfl⟩|rfl<;>rfl
   ·intro i hi;rcases ho with⟨h1,rfl⟩|⟨h1,FL,rfl,hm⟩
    ·omega
    ·exact⟨FL,by rw[yI],hm⟩
   ·intro i hi;rw[yI]at hi;rw[hrt i hi];exact Wa i (by omega)
   ·intro i hi;rw[yI]at hi;rw[hrt i hi];exact ax1 i (by omega)
   ·rw[yI];have Eo:∀i,i<fq.length->∀c,dW (rw'.take fq.length) i c=dW rw' i c:=fun i hi c=>by unfold dW;rw[hrt i hi]
    exact⟨hE.lt,hE.mono,fun i j hi hj=>by rw[Eo i hi];exact hE.one i j hi hj,fun i c hi hc=>by rw[Eo i hi];exact hE.low i c hi hc,fun i hi=>dN.eK.ext (hE.mem i hi) (fun c=>Eo i hi c),hE.gen⟩
  ·obtain⟨e1,e2⟩:=hL.resolve_right (fun h=>Ba h.1);subst e1 e2;refine⟨.aH,[],.aH,.aH,[],[],rfl,by simp,Pm,rfl,rfl,rfl,rfl,fun i hi=>absurd hi (by simp),fun i hi=>absurd hi (by simp),by simp,fun i hi=>absurd hi (by simp),rfl,.inl ⟨rfl,rfl⟩,?_⟩;refine⟨fun i hi=>absurd hi (by simp),fun i j _ hj=>absurd hj (by simp),fun i j hi _=>absurd hi (by simp),fun i c hi _=>absurd hi (by simp),fun i hi=>absurd hi (by simp),fun x hx _ c=>?_⟩;obtain⟨q,hq⟩:=dN.uW hx;rw[hq c];rfl
 obtain⟨fr,bs,o,p,G,fq,gf,pS,G5,jN,Et,po,pp,hoG,bG,yI,yU,apa,hpv,KQ⟩:=K6;obtain⟨hG8,TY⟩:=hG G _ yU KQ;obtain⟨HA,hma,hHA,hML,hBA,-⟩:=sM (bJ (AV.tuple [o,p,.int .i64 0])) pS;rw[hB]at hBA;have c1A:=fun l o=>kZ (T:=HA) (l:=l) (o:=o) (show B<HA.length by omega)
 have c3A:=fun o=>jM (o:=o) hBA (by decide)
 refine gi2 (by rw[C.ud]) (by rw[C.fn];exact amE) (by decide) ?_;intro ts hl g0 g1;unfold alv;simp only[↓aQ,aR,↓aT,aK,dt,↓reduceIte,aa,ah,ae,Tryz.f101,ai,hl,g0,g1,c1,c3,gf,G5,hma,jN,aS1,aMk];refine fh (fun k_ ts H=>∃i v HC,k_=G.length-i/\ts.length=109/\gt ts 0=.b6 B 0/\gt ts 4=.b6 H0.length 0/\gt ts 5=.b6 (H0.length+1) 0/\gt ts 6=o/\gt ts 7=p/\gt ts 31=o/\gt ts 32=.int .i64 (G.length:Int)/\gt ts 33=.int .i64 (i:Int)/\H=HC/\(i<=G.length)/\(H0.length+2<=HC.length)/\(∀k,k<H0.length->HC[k]?=HA[k]?)/\(HC[H0.length]?=some (.cells .live [.int .i64 0,.aH,.aH]))/\(HC[H0.length+1]?=some (.cells .live [.int .i64 (n:Int),v,.aH]))/\(qf HC (H0.length+2) v (G.take i))) (G.length) ?_ ?_
 rotate_left
 ·refine⟨0,.aH,HA++[cG.cells iH.live [AV.int IntKind.i64 0,AV.aH,AV.aH],cG.cells iH.live [AV.int IntKind.i64 (n:Int),AV.aH,AV.aH]],(by first|omega|rfl|(simp;done)),(by simp only[cK,hl]),?_⟩;simp only[cM,hl,aa,ae,g0]
  iterate 9 refine⟨by first|trivial|rfl|(congr 1;omega)|(simp;done)|(simp;omega),?_⟩
  refine⟨?_,?_,?_,?_,?_,?_⟩
  ·omega
  ·rw[aMk,hML];simp
  ·intro k hk;exact aOB (by omega)
  ·rw[gk hML];rfl
  ·rw[lL hML];rfl
  ·exact .inl ⟨rfl,rfl⟩
 clear hl g0 g1 ts;rintro k_ ts H ⟨i,v,HC,rfl,hl,g0,g4,g5,g6,g7,g31,g32,g33,rfl,hi,hCl,hKA,hC0,Zk,vL⟩;refine VS ?_;have c2:=fun l o=>kZ (T:=H) (l:=l) (o:=o) (show H0.length+1<H.length by omega)
 have c4:=fun o=>jM (o:=o) Zk (by decide)
 have hcz:∀j,(H0.length+1==H.length+j)=false:=fun j=>beq_eq_false_iff_ne.2 (by omega)
 have awN:(H0.length+1==H.length)=false:=beq_eq_false_iff_ne.2 (by omega);by_cases hd:i<G.length
 ·have dc:decide ((i:Int)<(G.length:Int))=true:=cF (by omega);have oF:((i:Int)<(G.length:Int))=True:=eq_true (by omega);have w1:aV .i64 ((i:Int)+1)=((i+1:Nat):Int):=by rw[wrap_i64 (by omega) (by omega)];omega
  obtain⟨vs,rfl,hm⟩:=hoG i hd;obtain⟨wM,abb⟩:=hm.2 i hd;have p1:=dL (vs:=vs) (i:=i) (by have:=hm.1;omega);have pri:=wM.pure;have htl:(G.take i).length=i:=by rw[aMp];omega
  have Sl:G.take i++[row G i]=G.take (i+1):=by rw[List.take_add_one];congr 1;unfold row;rw[aMh hd,aSW,aMh hd];rfl
  obtain⟨HN,Cz,Nd,bM,f1,f2,f3,f4,f5,f6,f7,f8,f9,f10⟩:=Rg (E:=E) (Hq:=H) vL (by omega) wM (bG i hd) (by omega) (by omega) (by omega);rw[htl]at f6 f10;rw[Sl]at f10;have hvn:=fun p (hp:p<H0.length+2) m=>vL.aiN hp m
  have hS2:Nd[H0.length+1]?=some (.cells .live [.int .i64 (n:Int),v,.aH]):=by rw[f8 _ (by omega) (hvn _ (by omega))];exact Zk
  have s4:=fun xs o=>kG (n:=1) (xs:=xs) (o:=o) hS2
  have p2:∀x,dP Nd (H0.length+1) x=Nd.set (H0.length+1) x:=fun x=>eY (by omega)
  obtain⟨tx,Oy⟩:∃tx,tx=AV.aI (H.length+2) 0 (row G i).length 1 (row G i).length:=⟨_,rfl⟩;have hTX:tx.cells=[tx]/\b7 tx=true/\bJ tx=false:=by rw[Oy];exact⟨rfl,rfl,rfl⟩
  rw[<-Oy]at f1 f4;have ahG:∀aM,aW E aM 24 1 [(0,tx)]=some (.aI aM 0 1 1 1,[(aM,.cells .live [tx])]):=fun aM=>by
   have:=gE (E:=E) (aM:=aM) (v:=tx) Ak rfl (by decide) (by decide) (by rw[hTX.1];rfl)
   rw[hTX.1]at this;exact this
  simp only[↓aQ,aR,aK,dt,↓reduceIte,aa,ah,ae,ai,hl,g5,g31,g32,g33,oF,w1,p1,f1,f2,f3,f4,f5,f6,f7,ahG,c2,c4,s4,p2,awN];refine dO ?_;refine⟨_,?_,i+1,(.aI (H.length+1) 0 (i+1) 1 (i+1)),(Nd.set (H0.length+1) (.cells .live [.int .i64 (n:Int),.aI (H.length+1) 0 (i+1) 1 (i+1),.aH])),rfl,(by simp only[cK,hl]),?_⟩
  ·first|omega|(simp;omega)
  simp only[cM,hl,aa,ae,g0,g4,g5,g6,g7,g31,g32]
  iterate 9 refine⟨by first|trivial|rfl|(congr 1;omega)|(simp;done)|(simp;omega),?_⟩
  refine⟨?_,?_,?_,?_,?_,?_⟩
  ·omega
  ·omega
  ·intro k hk;rw[aN9 (by omega),f8 k (by omega) (hvn k (by omega))];exact hKA k hk
  ·rw[aN9 (by omega),f8 _ (by omega) (hvn _ (by omega))];exact hC0
  ·rw[aOc (by omega)]
  ·exact f10.mono (aLr _) (by rw[aPp];exact aLr _) (fun k hk _=>aN9 (by omega))
 have dc:decide ((i:Int)<(G.length:Int))=false:=cH (by omega);obtain rfl:i=G.length:=by omega
 rename Hp=>HL
 rw[aR7]at vL;have hCB:HL[B]?=some (.cells .live [Lv,rv,.int .i64 U5]):=by rw[hKA B vG];exact hBA
 have hKB:∀k,k<B->HL[k]?=H0[k]?:=fun k hk=>by rw[hKA k (by omega)];exact hHA.1.2 k hk (by omega)
 have cBl:=fun l o=>kZ (T:=HL) (l:=l) (o:=o) (show B<HL.length by omega)
 have cB4:=fun o=>jM (o:=o) hCB (by decide)
 have a2:=fun m l o=>rN (T:=HL) (n:=m) (l:=l) (o:=o) (show H0.length+1<HL.length by omega)
 have a4:=fun m o=>jL (n:=m) (o:=o) Zk (by decide)
 have sL:=fun m xs l o=>vt (T:=HL) (n:=m) (xs:=xs) (l:=l) (o:=o) (show H0.length<HL.length by omega)
 have sL4:=fun m xs o=>kG (n:=m) (xs:=xs) (o:=o) hC0
 have pL:=fun x l=>vj (T:=HL) (l:=l) (x:=x) (show H0.length<HL.length by omega)
 have WE:=vL.one;simp only[↓aQ,aR,aK,dt,↓reduceIte,aa,ae,hl,g0,g32,g33,dc,cBl,cB4,W6,aMk];rcases jZ with _|q
 ·subst Ow;simp only[↓aQ,aR,dt,ae,g0];refine gb 1 ?_;simp only[↓aQ,aR,↓aT,aK,↓reduceIte,aa,ae,ao,hl,X8];obtain⟨H7,hH7⟩:∃H7,H7=HL.set H0.length (.cells .live [.int .i64 (n:Int),v,.aH]):=⟨_,rfl⟩;have hl7:H7.length=HL.length:=by rw[hH7,aPp]
  have hB7:H7[H0.length]?=some (.cells .live [.int .i64 (n:Int),v,.aH]):=by rw[hH7,aOc (by omega)]
  have a7:=fun m l o=>rN (T:=H7) (n:=m) (l:=l) (o:=o) (show H0.length<H7.length by omega)
  have a8:=fun m o=>jL (n:=m) (o:=o) hB7 (by decide)
  refine gb 1 ?_;simp only[↓aQ,aR,aK,dt,↓reduceIte,aa,ah,ae,ao,hl,g4,g5,a2,a4,sL,sL4,pL,WE,<-hH7,a7,a8,hl7,aMk];refine⟨fun k hk=>by rw[aOB (by omega),hH7,aN9 (by omega)];exact hKB k hk,by omega,v,.aH,G,_,rfl,?_,.inl ⟨rfl,rfl⟩,yU,KQ⟩;exact vL.mono (by omega) (by rw[aMk];omega) (fun k hk qY=>by rw[aOB (by omega),hH7,aN9 (by omega)])
 obtain⟨rb,Pv,ws,rfl,hrB,Si,hrb,hw,hP,K5⟩:=Ow;obtain⟨z0,z1,z2,z3,z4,z5,z6,z7,z8,z9,TO,TP,z12,TQ,TR,TS,rfl⟩:=afL hw;obtain⟨sr,dr,er⟩:=hHA.2 rb _ _ hrB hrb (by decide);have er':HL[rb]?=some (.cells sr (Pv::[.int .u64 z0,.int .u64 z1,.int .u64 z2,.int .u64 z3,.int .u64 z4,.int .u64 z5,.int .u64 z6,.int .u64 z7,.int .u64 z8,.int .u64 z9,.int .u64 TO,.int .u64 TP,.int .u64 z12,.int .u64 TQ,.int .u64 TR,.int .u64 TS])):=by rw[hKA rb Si];exact er
 have c6:=fun n l o=>rN (n:=n) (T:=HL) (l:=l) (o:=o) (show rb<HL.length by omega)
 have c7:=fun n o=>jL (n:=n) (o:=o) er' dr
 have KS:Pv.cells=[Pv]/\b7 Pv=true/\aN Pv=true/\bJ Pv=false:=by obtain⟨cp,rfl,-⟩:=hP;exact⟨rfl,rfl,rfl,rfl⟩
 obtain⟨o1,ho1,io1⟩:=jJ (E:=E) (n:=1) (by omega) (by omega);obtain⟨aHD,aHB,aHE,aHC,_,_,rfl,-,-,-,-⟩:=bR io1;have O1:=aU _ io1;simp only[↓aQ,aR,dt,ae,g0];refine gb 2 ?_;simp only[↓aQ,aR,aK,dt,↓reduceIte,aa,ah,ak,ae,an,ao,aq,hl,g7,c6,c7,KS,Et,aS1,aMk];refine fh (fun k_ ts H=>∃j x,k_=G.length-j/\ts.length=109/\gt ts 0=.b6 B 0/\gt ts 4=.b6 H0.length 0/\gt ts 5=.b6 (H0.length+1) 0/\gt ts 6=o/\gt ts 7=p/\gt ts 11=.iL HL.length/\gt ts 12=.aH/\gt ts 15=x/\gt ts 49=.aI rb 0 1 17 1/\gt ts 50=.int .i64 1/\gt ts 51=.int .i64 0/\gt ts 57=p/\gt ts 58=.int .i64 (G.length:Int)/\gt ts 59=.int .i64 (j:Int)/\H=HL++[.map .live [] [],.cells .live (Pv::[.int .u64 z0,.int .u64 z1,.int .u64 z2,.int .u64 z3,.int .u64 z4,.int .u64 z5,.int .u64 z6,.int .u64 z7,.int .u64 z8,.int .u64 z9,.int .u64 TO,.int .u64 TP,.int .u64 z12,.int .u64 TQ,.int .u64 TR,.int .u64 TS])]/\(j<=G.length)/\(gy x (oh q G (fun i=>fq.getD i 0) j))) (G.length) ?_ ?_
 rotate_left
 ·refine⟨0,Pv,(by first|omega|rfl|(simp;done)),(by simp only[cK,hl]),?_⟩;simp only[cM,hl,aa,ae,g0,g4,g5,g6,g7]
  iterate 15 refine⟨by first|trivial|rfl|(congr 1;omega)|(simp;done)|(simp;omega),?_⟩
  refine⟨?_,?_⟩
  ·omega
  ·exact hP
 clear hl g0 g4 g5 g6 g7 g31 g32 g33 ts;rintro k_ ts H ⟨j,x,rfl,hl,g0,g4,g5,g6,g7,g11,g12,g15,g49,g50,g51,g57,g58,g59,rfl,hj,hx⟩;refine VS ?_;have hxl:(oh q G (fun i=>fq.getD i 0) j).length=n:=Aa K5 yU hj;have bx:BL (kp+kg+4+1) (oh q G (fun i=>fq.getD i 0) j):=mj (Jm K5 yU KQ (hp q rfl) TY hG8 hj);by_cases hdj:j<G.length
 ·have dc:decide ((j:Int)<(G.length:Int))=true:=cF (by omega);have oF:((j:Int)<(G.length:Int))=True:=eq_true (by omega);have aum:((j:Int)<(fq.length:Int))=True:=eq_true (by omega);have w1:aV .i64 ((j:Int)+1)=((j+1:Nat):Int):=by rw[wrap_i64 (by omega) (by omega)];omega
  obtain⟨vs,rfl,hm⟩:=hoG j hdj;obtain⟨hrj,aGP⟩:=hm.2 j hdj;obtain rfl:=hpv.resolve_left (fun h=>by rw[h.1]at apa;simp at apa;omega);have p1:=dL (vs:=vs) (i:=j) (by have:=hm.1;omega);have p2:=dL (vs:=fq.map fun k:Nat=>AV.int .i64 (k:Int)) (i:=j) (by rw[aOT];omega);rw[Xx (by omega)]at p2;have aFr:fq.getD j 0<n:=KQ.lt j hdj;obtain⟨cx,rfl,rx⟩:=id hx;have ZU:(((fq.getD j 0:Nat):Int)<((oh q G (fun i=>fq.getD i 0) j).length:Int))=True:=eq_true (by omega);obtain⟨n1,m1,n2,m2,e1,r1⟩:=rx.get (i:=fq.getD j 0) (by omega);have p3:=ju (cs:=cx) (o:=fq.getD j 0*4) (by have:=rx.len;omega);rw[e1]at p3;have A:=aU _ r1;obtain⟨u,hu,iu⟩:=ru (E:=E) r1;obtain⟨un0,um0,un1,um1,_,_,rfl,-,-,-,-⟩:=bR iu;have U:=aU _ iu;have bGj:BL (kg+1) (row G j):=mj (TY.row hdj);have bq:Bq (kp+kg+5) (-(oh q G (fun i=>fq.getD i 0) j).getD (fq.getD j 0) 0):=((bx.get (by omega)).neg).mono (by omega);obtain⟨y,hy,iy⟩:=GD (E:=E) hx io1 hrj iu (by omega) (by omega) (k:=kp+kg+5) (l:=kp+kg+5) (fun z hz=>(bx z hz).mono (by omega)) (fun z hz=>(bGj z hz).mono (by omega)) (Bq.int (z:=1) (lE (show(1:Int).natAbs<2^1 by decide) (by omega)) (by omega)) bq (by omega);have prj:=hrj.pure;have pry:aN y=true/\b7 y=true/\y.cells=[y]/\bJ y=false:=by obtain⟨cs,rfl,-⟩:=iy;exact⟨rfl,rfl,rfl,rfl⟩
  simp only[↓aQ,aR,↓aT,aK,↓reduceIte,aa,ah,ae,hl,g6,g15,g57,g58,g59,oF,aum,ZU,w1,p1,p2,p3,A,U,O1,ho1,hu,hy,prj,pry,tH];refine dO ?_;refine⟨_,?_,j+1,y,rfl,(by simp only[cK,hl]),?_⟩
  ·first|omega|(simp;omega)
  simp only[cM,hl,aa,ae,g0,g4,g5,g6,g7,g11,g12,g49,g50,g51,g57,g58]
  iterate 15 refine⟨by first|trivial|rfl|(congr 1;omega)|(simp;done)|(simp;omega),?_⟩
  refine⟨?_,?_⟩
  ·omega
  ·exact iy
 have dc:decide ((j:Int)<(G.length:Int))=false:=cH (by omega);obtain rfl:j=G.length:=by omega
 obtain⟨w,wN,c,B6,JY,-,iw⟩:=tK (E:=E) hx bx (by omega) (by omega);subst B6;have cvw:=Ik (Jm K5 yU KQ (hp q rfl) TY hG8 (aLr _));have bw:BL (kp+kg+4+1) ((oh q G (fun i=>fq.getD i 0) G.length).map fun x=>x*lN (oh q G (fun i=>fq.getD i 0) G.length)):=mj cvw;obtain⟨wq,hwq⟩:∃wq,wq=(oh q G (fun i=>fq.getD i 0) G.length).map fun x=>x*lN (oh q G (fun i=>fq.getD i 0) G.length):=⟨_,rfl⟩
 have hwl:wq.length=n:=by rw[hwq,aOT,hxl]
 rw[<-hwq]at iw bw;have hnm:=NO (E:=E) iw bw (by omega) (by omega);have px:=hx.pure;have pw:aN w=true/\b7 w=true/\w.cells=[w]/\bJ w=false:=by obtain⟨cs,rfl,-⟩:=iw;exact⟨rfl,rfl,rfl,rfl⟩
 have QJ:=fun l s=>SB (E:=E) (M:=HL.length) (H:=HL++ .map .live [] []::l) (s:=s) (by rw[gk rfl];rfl)
 have hup:=fun l s=>aj2 (E:=E) (M:=HL.length) (H:=HL++ .map .live [] []::l) (s:=s) (by rw[gk rfl];rfl)
 have an8:∀aM,aW E aM 65 1 [(0,w)]=some (.aI aM 0 1 1 1,[(aM,.cells .live [w])]):=fun aM=>by
  have:=gE (E:=E) (aM:=aM) (v:=w) By rfl (by decide) (by decide) (by rw[pw.2.2.1];rfl)
  rw[pw.2.2.1]at this;exact this
 have anW:∀x y aM,aZ E (HL++[x,y,.cells .live [w]]) aM .append [65,65] [.aH,.aI (HL.length+2) 0 1 1 1]=some (.aI aM 0 1 1 1,[(aM,.cells .live [w])]):=fun x y aM=>pN By (by decide) (by rw[lL rfl];rfl) (by decide) rfl (by simp only[aOV,pw.2.1,aRl,aRg]) (by decide)
 simp only[↓aQ,aR,↓aT,aK,dt,↓reduceIte,aa,ah,ae,ao,aA,hl,g11,g12,g15,g50,g51,g58,g59,dc,px,wN,pw,hnm,QJ,hup,an8,anW,tH,uf,AF,X9,aS1,aMk];obtain⟨HQ,hHQ⟩:∃HQ,HQ=HL++[cG.map iH.live [AV.str (mI wq)] [AV.bool true],.cells .live [Pv,.int .u64 z0,.int .u64 z1,.int .u64 z2,.int .u64 z3,.int .u64 z4,.int .u64 z5,.int .u64 z6,.int .u64 z7,.int .u64 z8,.int .u64 z9,.int .u64 TO,.int .u64 TP,.int .u64 z12,.int .u64 TQ,.int .u64 TR,.int .u64 TS],.cells .live [w],.cells .live [w]]:=⟨_,rfl⟩;have hQl:HQ.length=HL.length+4:=by rw[hHQ,aMk];rfl
 have hQ3:HQ[HL.length+3]?=some (.cells .live [w]):=by rw[hHQ,lL rfl];rfl
 have hQk:∀k,k<HL.length->HQ[k]?=HL[k]?:=fun k hk=>by rw[hHQ,aOB hk]
 have hQS:HQ[H0.length+1]?=some (.cells .live [.int .i64 (n:Int),v,.aH]):=by rw[hQk _ (by omega)];exact Zk
 have hQv:qf HQ (H0.length+2) v G:=vL.mono (aLr _) (by omega) (fun k _ hk=>hQk k hk);obtain⟨HN,Cz,Nd,bM,f1,f2,f3,f4,f5,f6,f7,f8,f9,f10⟩:=Rg (E:=E) (Hq:=HQ) (lo:=H0.length+2) (v:=.aH) (G:=[]) (.inl ⟨rfl,rfl⟩) (by omega) iw bw (by omega) (by omega) (by simp);rw[show([]:List (List Rat)).length=0 from rfl,Nat.zero_add]at f6 f10;rw[List.nil_append]at f10;have f8':∀p,p<HQ.length->Nd[p]?=HQ[p]?:=fun p hp=>f8 p hp (fun m=>by simp)
 have hS2:Nd[H0.length+1]?=some (.cells .live [.int .i64 (n:Int),v,.aH]):=by rw[f8' _ (by omega)];exact hQS
 have q1:=fun l o=>kZ (T:=HQ) (l:=l) (o:=o) (show H0.length+1<HQ.length by omega)
 have q2:=fun o=>jM (o:=o) hQS (by decide)
 have q3:=fun o=>jM (o:=o) hQ3 (by decide)
 have hqz:∀j,(H0.length+1==HQ.length+j)=false:=fun j=>beq_eq_false_iff_ne.2 (by omega)
 have axx:(H0.length+1==HQ.length)=false:=beq_eq_false_iff_ne.2 (by omega);obtain⟨tx,Oy⟩:∃tx,tx=AV.aI (HQ.length+2) 0 wq.length 1 wq.length:=⟨_,rfl⟩;have hTX:tx.cells=[tx]/\b7 tx=true/\bJ tx=false:=by rw[Oy];exact⟨rfl,rfl,rfl⟩
 rw[<-Oy]at f1 f4;have ahG:∀aM,aW E aM 24 1 [(0,tx)]=some (.aI aM 0 1 1 1,[(aM,.cells .live [tx])]):=fun aM=>by
  have:=gE (E:=E) (aM:=aM) (v:=tx) Ak rfl (by decide) (by decide) (by rw[hTX.1];rfl)
  rw[hTX.1]at this;exact this
 have s4:=fun xs o=>kG (n:=1) (xs:=xs) (o:=o) hS2
 obtain⟨H8,hH8⟩:∃H8,H8=Nd.set (H0.length+1) (.cells .live [.int .i64 (n:Int),v,.aI (HQ.length+1) 0 1 1 1]):=⟨_,rfl⟩;have p2:dP Nd (H0.length+1) (.cells .live [.int .i64 (n:Int),v,.aI (HQ.length+1) 0 1 1 1])=H8:=by rw[hH8];exact eY (by omega)
 have hl8:H8.length=Nd.length:=by rw[hH8,aPp]
 have h8S:H8[H0.length+1]?=some (.cells .live [.int .i64 (n:Int),v,.aI (HQ.length+1) 0 1 1 1]):=by rw[hH8,aOc (by omega)]
 have h80:H8[H0.length]?=some (.cells .live [.int .i64 0,.aH,.aH]):=by rw[hH8,aN9 (by omega),f8' _ (by omega),hQk _ (by omega)];exact hC0
 have a8:=fun m o=>jL (n:=m) (o:=o) h8S (by decide)
 have s9:=fun xs o=>kG (n:=3) (xs:=xs) (o:=o) h80
 obtain⟨H9,hH9⟩:∃H9,H9=H8.set H0.length (.cells .live [.int .i64 (n:Int),v,.aI (HQ.length+1) 0 1 1 1]):=⟨_,rfl⟩;have p9:dP H8 H0.length (.cells .live [.int .i64 (n:Int),v,.aI (HQ.length+1) 0 1 1 1])=H9:=by rw[hH9];exact eY (by omega)
 have h90:H9[H0.length]?=some (.cells .live [.int .i64 (n:Int),v,.aI (HQ.length+1) 0 1 1 1]):=by rw[hH9,aOc (by omega)]
 have a9:=fun m o=>jL (n:=m) (o:=o) h90 (by decide)
 have hl9:H9.length=H8.length:=by rw[hH9,aPp]
 have h9k:∀k,k<HL.length->k≠H0.length->k≠H0.length+1->H9[k]?=HL[k]?:=fun k hk h1 h2=>by rw[hH9,aN9 (by omega),hH8,aN9 (by omega),f8' k (by omega),hQk k hk]
 rw[<-hHQ];refine gb 2 ?_;simp only[↓aQ,aR,aK,dt,↓reduceIte,aa,ah,ae,an,ao,aq,aA,hl,g4,g5,q1,q2,q3,f1,f2,f3,f4,f5,f6,f7,ahG,s4,p2,a8,s9,p9,a9,WE,axx,AF];refine⟨fun k hk=>by rw[h9k k (by omega) (by omega) (by omega)];exact hKB k hk,by omega,v,_,G,_,rfl,?_,?_,yU,KQ⟩
 ·exact vL.mono (by omega) (by omega) (fun k hk qY=>h9k k qY (by omega) (by omega))
 ·show qf H9 H0.length _ [_]
  rw[<-hwq];exact f10.mono (by omega) (by omega) (fun k hk _=>by rw[hH9,aN9 (by omega),hH8,aN9 (by omega)])
def lB(b:Nat):Nat->Nat
 |0=>0
 |m+1=>2*lB b m+b+4
theorem zU{b m m':Nat}(h:m<=m'):lB b m<=lB b m':=by
 induction h with
 |refl=>exact aLr _
 |step _ ih=>rw[lB];omega
def tG(v:AV)(rows:List (List Rat))(n:Nat):Prop:=(rows=[]/\v=.aH)∨rows≠[]/\∃vs,v=.aJ vs rows.length/\oH vs rows n
theorem tG.len{v:AV}{rows:List (List Rat)}{n:Nat}(h:tG v rows n):jP v=some (rows.length:Int):=by
 rcases h with⟨rfl,rfl⟩|⟨-,vs,rfl,-⟩<;>rfl
theorem tG.pure{v:AV}{rows:List (List Rat)}{n:Nat}(h:tG v rows n):aN v=true:=by
 rcases h with⟨rfl,rfl⟩|⟨-,vs,rfl,-⟩<;>rfl
def eqS(eqs:List (List Rat))(i:Nat):dN.FV->Prop:=fun a=>∃j,j<i/\a=fv (row eqs j)
theorem UE{n:Nat}{eqs rows:List (List Rat)}(h:dN.Gp n rows.length (eqS eqs eqs.length) (fun j=>fv (row rows j)))(x:dN.FV):dN.eK (dN.SR rows.length fun i=>dW rows i) x↔dN.iY n eqs.length (fun i=>fv (row eqs i)) x:=by
 refine(h x).trans ?_;unfold dN.iY;exact and_congr Iff.rfl ⟨fun h i hi=>h _ ⟨i,hi,rfl⟩,fun h a ⟨i,hi,e⟩=>by rw[e];exact h i hi⟩
theorem RD{n:Nat}{eqs rows:List (List Rat)}{r:List Rat}(h:dN.Gp n rows.length (fun a=>eqS eqs eqs.length a∨a=fv r) (fun j=>fv (row rows j)))(x:dN.FV):dN.eK (dN.SR rows.length fun i=>dW rows i) x↔dN.iY n (eqs++[r]).length (fun i=>fv (row (eqs++[r]) i)) x:=by
 refine(h x).trans ?_;unfold dN.iY;refine and_congr Iff.rfl ⟨fun h i hi=>?_,fun h a ha=>?_⟩
 ·rw[aMk,aWX]at hi;by_cases e:i=eqs.length
  ·subst e;show dN.ip n (fv (row (eqs++[r]) eqs.length)) x=0
   rw[ll];exact h _ (.inr rfl)
  ·show dN.ip n (fv (row (eqs++[r]) i)) x=0
   rw[nI (by omega)];exact h _ (.inl ⟨i,by omega,rfl⟩)
 ·rcases ha with⟨i,hi,e⟩|e
  ·have:dN.ip n (fv (row (eqs++[r]) i)) x=0:=h i (by rw[aMk];omega)
   rw[nI hi]at this;rw[e];exact this
  ·have:dN.ip n (fv (row (eqs++[r]) eqs.length)) x=0:=h eqs.length (by rw[aMk];exact aXi _)
   rw[ll]at this;rw[e];exact this
theorem uq{eqs:List (List Rat)}{r:List Rat}:dN.Ni eqs.length (fun i=>fv (row eqs i)) (fv r) (fun i=>fv (row (eqs++[r]) i)):=
 ⟨fun i hi c=>by show fv (row (eqs++[r]) i) c=_;rw[nI hi],fun c=>by show fv (row (eqs++[r]) eqs.length) c=_;rw[ll]⟩
theorem sg{eqs:List (List Rat)}{r:List Rat}:(eqs++[r]).length=eqs.length+1:=by rw[aMk];rfl
theorem abW{q:Rat}:q<0↔q.num<0:=by
 have h:=Jr (q:= -q);rw[Rat.neg_num]at h;constructor
 ·intro h1
  have:0< -q:=by grind
  have:=h.1 this;omega
 ·intro h1
  have:=h.2 (by omega)
  grind
theorem acz{n g:Nat}{W W':dN.FV->Prop}(hW:dN.Lsp W)(axM:∀x,W' x->W x){Gf:Nat->dN.FV}{P:Nat->Nat}(hW':dN.Lsp W')(I3:∀i,i<g->W' (Gf i)){r q v:dN.FV}(lW:∀x,W' x->dN.ip n r x=0)(hq:W q){pc:Rat}(e:∀c,v c=(q c-dN.jo (fun j=>q (P j)*Gf j c) g)*pc):W v/\dN.ip n r v=pc*dN.ip n r q:=by
 have hs:W' (fun c=>dN.jo (fun j=>q (P j)*Gf j c) g):=hW'.Zw (fun j=>q (P j)) I3;have hd:W (fun c=>q c+(-1)*dN.jo (fun j=>q (P j)*Gf j c) g):=hW.pO q _ _ (-1) hq (axM _ hs) (fun c=>rfl);have e2:∀c,v c=0+pc*(q c+(-1)*dN.jo (fun j=>q (P j)*Gf j c) g):=fun c=>by rw[e];grind
 refine⟨hW.pO (fun _=>0) _ v pc (hW.zero _ fun _=>rfl) hd e2,?_⟩;have h1:=dN.od (n:=n) (a:=r) (x:=fun _=>0) (y:=fun c=>q c+(-1)*dN.jo (fun j=>q (P j)*Gf j c) g) (z:=v) (q:=pc) e2;have h2:=dN.od (n:=n) (a:=r) (x:=q) (y:=fun c=>dN.jo (fun j=>q (P j)*Gf j c) g) (z:=fun c=>q c+(-1)*dN.jo (fun j=>q (P j)*Gf j c) g) (q:= -1) (fun c=>rfl);have h3:dN.ip n r (fun _=>0)=0:=dN.gw (fun c _=>by grind);rw[h1,h2,h3,lW _ hs];grind
theorem ER{a:List Rat}{q:Rat}(c:Nat):(a.map fun x=>x*q).getD c 0=a.getD c 0*q:=by
 rw[aSW,aNe,aSW];cases a[c]? with
 |none=>simp only[Option.map_none,Option.getD_none];grind
 |some x=>rfl
theorem Hx{a:List Rat}:0<lN a:=by
 have hl:(0:Rat)<((Dd a a.length:Nat):Rat):=by
  have:=xO (a:=a) (i:=a.length)
  exact_mod_cast this
 unfold lN
 split
 ·exact hl
 ·rename_i h0;refine aXj hl ?_;rw[aWf]
  have:(0:Rat)<((gK a ((Dd a a.length:Nat):Rat) a.length:Nat):Rat):=by
   have:0<gK a ((Dd a a.length:Nat):Rat) a.length:=by omega
   exact_mod_cast this
  have h9:=Cj this;exact h9
def rJ(n kw:Nat)(eqs:List (List Rat))(jZ:Option (List Rat))(G rays:List (List Rat))(P:Nat->Nat):Prop:=
 ((∀r,jZ=some r->∀x,dN.iY n eqs.length (fun i=>fv (row eqs i)) x->dN.ip n (fv r) x=0)/\rays=[]/\dN.kU n G.length (fun i=>dW G i) P (dN.iY n eqs.length (fun i=>fv (row eqs i))))∨
 ∃r w,jZ=some r/\rays=[w]/\w.length=n/\dN.kU n G.length (fun i=>dW G i) P (dN.iY n (eqs++[r]).length (fun i=>fv (row (eqs++[r]) i)))/\dN.iY n eqs.length (fun i=>fv (row eqs i)) (fv w)/\dN.ip n (fv r) (fv w)<0/\dN.CV kw (fv w)
theorem afO{b:Nat}{a:List Rat}(h:dN.CV b (fv a)):dN.CV b (fv (aU3 (fun x _=> -x) a a)):=by
 obtain⟨D,A,h0,h1,h2⟩:=h;refine⟨D,fun c=> -A c,h0,h1,fun c=>⟨?_,by rw[Int.natAbs_neg];exact(h2 c).2⟩⟩;have e:fv (aU3 (fun x _=> -x) a a) c= -(a.getD c 0):=qW rfl (by grind) c;rw[e,Rat.intCast_neg]
 have:=(h2 c).1
 show-(fv a c)=_
 rw[this];grind
theorem zo{E:Env} [C:lS E]{H0:Hp}{n b k kg:Nat}{ev rv:AV}{eqs:List (List Rat)}{jZ:Option (List Rat)}(he:tG ev eqs n)(hr:tG rv jZ.toList n)(hw:iX eqs n)(h0:0<n)(hn:n<=8)(hR:eqs.length<=256)(hb:CR b eqs)(hk:∀r,jZ=some r->dN.CV k (fv r))(yn:5^n*(2*lB b eqs.length+k+5)<=10000000000)(tz:b+k+lB b eqs.length+4<=500000)(hkg:kg<=500000)
  (hG:∀(G:List (List Rat)) (P:Nat->Nat),iX G n->(dN.kU n G.length (fun i=>dW G i) P (dN.iY n eqs.length (fun i=>fv (row eqs i)))∨∃r,jZ=some r/\dN.kU n G.length (fun i=>dW G i) P (dN.iY n (eqs++[r]).length (fun i=>fv (row (eqs++[r]) i))))->G.length<=8/\dN.CB kg G.length (fun i=>dW G i)):
  ∃r H',cL E 56 [.int .i64 (n:Int),ev,rv] H0=some (r,H')/\(∀k,k<H0.length->H'[k]?=H0[k]?)/\H0.length<=H'.length/\∃(v sn:AV) (G rays:List (List Rat)) (P:Nat->Nat),r=.agg [.int .i64 (n:Int),v,sn]/\qf H' H0.length v G/\qf H' H0.length sn rays/\iX G n/\rJ n (lB b eqs.length+kg+4) eqs jZ G rays P:=by
 have hev:=he.len;have pev:=he.pure;have qP:=hr.len;have Fg:=hr.pure;obtain⟨r0,H1,fK,rfl,hHl,R3,Lv,hHB,hHL⟩:=PJ (E:=E) (H0:=H0++[cG.cells iH.live [AV.int IntKind.i64 0,AV.aH,AV.aH]]) hn h0;have uN:(H0++[cG.cells iH.live [AV.int IntKind.i64 0,AV.aH,AV.aH]]).length=H0.length+1:=by rw[aMk];rfl
 rw[uN]at fK hHl R3 hHB hHL;refine gi3 (by rw[C.ud]) (by rw[C.fn];exact avr) (by decide) ?_;intro ts hl g0 g1 g2;unfold c56;simp only[↓aQ,aR,↓aT,aK,dt,aa,ae,Tryz.f56,hl,g0,g1,hev,fK,Nat.add_assoc];have hlB:∀i,i<=eqs.length->lB b i<=lB b eqs.length:=fun i hi=>zU hi
 refine fh (fun k_ ts H=>∃i HC Lw rows,k_=eqs.length-i/\ts.length=41/\gt ts 0=.int .i64 (n:Int)/\gt ts 2=rv/\gt ts 6=.b6 H0.length 0/\gt ts 7=.b6 (H0.length+1) 0/\gt ts 14=ev/\gt ts 15=.int .i64 (eqs.length:Int)/\gt ts 16=.int .i64 (i:Int)/\H=HC/\(i<=eqs.length)/\(H0.length+1<HC.length)/\(∀k,k<H0.length->HC[k]?=H0[k]?)/\(HC[H0.length]?=some (.cells .live [.int .i64 0,.aH,.aH]))/\(HC[H0.length+1]?=some (.cells .live [Lw,.aH,.int .i64 ((2*i:Nat):Int)]))/\(nX HC (H0.length+1) n Lw rows)/\(rows.length<=n)/\(iX rows n)/\(dN.Gp n rows.length (eqS eqs i) (fun j=>fv (row rows j)))/\(CR (lB b i) rows)) (eqs.length) ?_ ?_
 rotate_left
 ·refine⟨0,H1,Lv,(lX n),(by first|omega|rfl|(simp;done)),(by simp only[cK,hl]),?_⟩;simp only[cM,hl,aa,ae,g0,g2]
  iterate 8 refine⟨by first|trivial|rfl|(congr 1;omega)|(simp;done)|(simp;omega),?_⟩
  refine⟨?_,?_,?_,?_,?_,?_,?_,?_,?_,?_⟩
  ·omega
  ·exact hHl
  ·intro k hk;rw[R3 k (by omega),aOB hk]
  ·rw[R3 _ (by omega),gk rfl];rfl
  ·exact hHB
  ·exact hHL
  ·unfold lX;rw[aOT,aWZ];exact aLr _
  ·intro j hj;unfold lX at hj;rw[aOT,aWZ]at hj;rw[uO hj,Bc]
  ·exact OC.congr (fun x=>⟨fun _ a ⟨j,hj,_⟩=>absurd hj (by omega),fun _ a ha=>ha.elim⟩)
  ·exact Sq
 clear hl g0 g1 g2 ts;rintro k_ ts H ⟨i,HC,Lw,rows,rfl,hl,g0,g2,g6,g7,g14,g15,g16,rfl,hi,vG,hK,h0b,hB,hL,hRl,hW,aaP,Zl⟩;refine VS ?_;have aGp:=hlB i hi;by_cases hd:i<eqs.length
 ·have dc:decide ((i:Int)<(eqs.length:Int))=true:=cF (by omega);have oF:((i:Int)<(eqs.length:Int))=True:=eq_true (by omega);have w1:aV .i64 ((i:Int)+1)=((i+1:Nat):Int):=by rw[wrap_i64 (by omega) (by omega)];omega
  have aoB:=hlB (i+1) hd;obtain⟨-,vs,rfl,hm⟩:=he.resolve_left (fun h=>by rw[h.1]at hd;exact absurd hd (by simp));obtain⟨wM,abb⟩:=hm.2 i hd;have p1:=dL (vs:=vs) (i:=i) (by have:=hm.1;omega);have ba:BL (b+1) (row eqs i):=mj (hb i hd);have bb:=Zl.yd;obtain⟨nv,th,inv⟩:=GG (E:=E) wM (by omega);have J3:(aU3 (fun x _=> -x) (row eqs i) (row eqs i)).length=n:=by rw[aU6,abb,Nat.min_self]
  have bn:BL (b+1) (aU3 (fun x _=> -x) (row eqs i) (row eqs i)):=by intro q hq;rw[oE,List.mem_map]at hq;obtain⟨x,hx,rfl⟩:=hq;exact(ba x hx).neg
  have pri:=wM.pure;have pnv:aN nv=true/\bJ nv=false:=by obtain⟨cs,rfl,-⟩:=inv;exact⟨rfl,rfl⟩
  have hSe:∀x:dN.FV,(∀a,(eqS eqs i a∨a=fv (row eqs i))->dN.ip n a x=0)↔(∀a,eqS eqs (i+1) a->dN.ip n a x=0):=by
   intro x;refine⟨fun h a ⟨j,hj,e⟩=>?_,fun h a ha=>?_⟩
   ·by_cases MZ:j=i
    ·subst MZ;exact h a (.inr e)
    ·exact h a (.inl ⟨j,by omega,e⟩)
   ·rcases ha with⟨j,hj,e⟩|e
    ·exact h a ⟨j,by omega,e⟩
    ·exact h a ⟨i,by omega,e⟩
  generalize vs.getD i aX=rv at*;by_cases hz:∀j,j<rows.length->eF (row eqs i) (row rows j) n=0
  ·obtain⟨u1,H2,V6,rfl,vg,hB2⟩:=add_zero (E:=E) vG hB hL wM abb hn (by omega) ba bb (by omega) hz (by omega);obtain⟨u2,H3,V7,rfl,T6,hB3⟩:=add_zero (E:=E) (B:=H0.length+1) (H0:=H2) (by have:=vg.1.1;omega) hB2 (hL.mono vg) inv J3 hn (by omega) bn bb (by omega) (fun j hj=>by rw[xD,hz j hj];grind) (by omega);simp only[↓aQ,aR,↓aT,aK,↓reduceIte,aa,ae,hl,g7,g14,g15,g16,oF,w1,p1,V6,th,V7,pri,pnv,tH];refine dO ?_;refine⟨_,?_,i+1,H3,Lw,rows,rfl,(by simp only[cK,hl]),?_⟩
   ·first|omega|(simp;omega)
   simp only[cM,hl,aa,ae,g0,g2,g6,g7,g14,g15]
   iterate 8 refine⟨by first|trivial|rfl|(congr 1;omega)|(simp;done)|(simp;omega),?_⟩
   refine⟨?_,?_,?_,?_,?_,?_,?_,?_,?_,?_⟩
   ·omega
   ·have:=vg.1.1;have:=T6.1.1;omega
   ·intro k hk;rw[T6.1.2 k (by omega) (by have:=vg.1.1;omega),vg.1.2 k (by omega) (by omega)];exact hK k hk
   ·rw[T6.1.2 _ (by omega) (by have:=vg.1.1;omega),vg.1.2 _ (by omega) (by omega)];exact h0b
   ·exact hB3
   ·exact hL.mono (vg.trans T6)
   ·exact hRl
   ·exact hW
   ·exact(aaP.keep (fun j hj=>by rw[<-pk];exact hz j hj)).congr hSe
   ·intro j hj;exact(Zl j hj).mono (by rw[lB];omega)
  ·obtain⟨u1,H2,V6,rfl,at',H1',tT,dM,tV,hso⟩:=Gw (E:=E) vG hB hL wM abb hn (by omega) ba bb (by omega) hz (by omega);obtain⟨wI,Lx,rb,P,ws,lq,c,q1,q2,q3,q4,q5,q6,q7,q8,q9,Zz,q11,q12,q13,q14⟩:=hso.ex;have hpb:BL ((lB b i+1)+((lB b i+1)+2*(n*(lB b i+1)+1))) (lq.map fun x=>x*c):=by intro q hq;rw[List.mem_map]at hq;obtain⟨x,hx,rfl⟩:=hq;exact(q9 x hx).mul q8
   have aGA:n*(lB b i+1)<=8*500000:=Nat.mul_le_mul hn (by omega);have aaW:=Ms tT hW hn Zz q11 dM (hb i hd) Zl;have ao7:0<(eF (aU3 (fun x _=> -x) (row eqs i) (row eqs i)) (lq.map fun x=>x*c) n).num:=by
    rw[xD,DW];have h1:0< -(eF (row eqs i) lq n):=by rw[Jr,Rat.neg_num];omega
    have h2:=aXj h1 q7;rw[<-Jr]
    have: -(eF (row eqs i) lq n*c)= -(eF (row eqs i) lq n)*c:=by grind
    rw[this];exact h2
   have lJ:=o6 (a:=row eqs i) (n:=n) (lq:=lq) tT;obtain⟨u2,H3,V7,rfl,T6,hB3⟩:=Nl (E:=E) (B:=H0.length+1) (H0:=H2) (rows:=splitK (row eqs i) n lq rows at' rows.length) (N:=2*i+1) (by have:=tV.1.1;have:=wI.1.1;omega) q1 q2 q3 q4 q5 q6 (by rw[aOT];exact Zz) q13 inv J3 hn (by omega) bn aaW.yd (by rw[lB]at aoB;omega) (fun j hj=>by rw[xD,PF tT hW Zz q11 dM j hj];grind) (by omega) hpb (by omega) ao7;simp only[↓aQ,aR,↓aT,aK,↓reduceIte,aa,ae,hl,g7,g14,g15,g16,oF,w1,p1,V6,th,V7,pri,pnv,tH];refine dO ?_;refine⟨_,?_,i+1,H3,Lx,(splitK (row eqs i) n lq rows at' rows.length),rfl,(by simp only[cK,hl]),?_⟩
   ·first|omega|(simp;omega)
   simp only[cM,hl,aa,ae,g0,g2,g6,g7,g14,g15]
   iterate 8 refine⟨by first|trivial|rfl|(congr 1;omega)|(simp;done)|(simp;omega),?_⟩
   refine⟨?_,?_,?_,?_,?_,?_,?_,?_,?_,?_⟩
   ·omega
   ·have:=tV.1.1;have:=wI.1.1;have:=T6.1.1;omega
   ·intro k hk;rw[T6.1.2 k (by omega) (by have:=tV.1.1;have:=wI.1.1;omega),wI.1.2 k (by omega) (by have:=tV.1.1;omega),tV.1.2 k (by omega) (by omega)];exact hK k hk
   ·rw[T6.1.2 _ (by omega) (by have:=tV.1.1;have:=wI.1.1;omega),wI.1.2 _ (by omega) (by have:=tV.1.1;omega),tV.1.2 _ (by omega) (by omega)];exact h0b
   ·exact hB3
   ·exact q13.mono T6
   ·omega
   ·exact Tn tT hW Zz
   ·exact(HK aaP tT hW Zz q11 dM).congr hSe
   ·intro j hj;exact(aaW j hj).mono (by rw[lB];omega)
 have dc:decide ((i:Int)<(eqs.length:Int))=false:=cH (by omega);obtain rfl:i=eqs.length:=by omega
 rename Hp=>HL
 have bo:=fun x=>UE aaP x
 have hbK:5^n*(lB b eqs.length+1)<=10000000000:=Nat.le_trans (Nat.mul_le_mul_left _ (by omega)) yn;rcases jZ with _|q
 ·have axF:jP rv=some (0:Int):=qP;obtain⟨r,H4,KX,hk4,aoE,v,sn,G,P,rfl,r9,td,yU,hE⟩:=AW (E:=E) (jZ:=none) (kp:=0) (kg:=kg) (K:=lB b eqs.length+1) vG hB hL rfl h0 hn (by omega) (by omega) Zl.yd hbK (fun G P hw hE=>hG G P hw (.inl (hE.congr bo))) (fun q h=>by cases h) (by omega);simp only[↓aQ,aR,aK,↓reduceIte,aa,ae,hl,g2,g15,g16,dc,axF];refine gb 1 ?_;have Zn:=h0b;have hXK:=hK;have h04:H4[H0.length]?=some (.cells .live [.int .i64 0,.aH,.aH]):=by rw[hk4 _ (by omega)];exact Zn
  have hl4:H0.length+1<H4.length:=by omega
  have s5:=fun xs o=>kG (n:=3) (xs:=xs) (o:=o) h04
  obtain⟨H5,oN⟩:∃H5,H5=H4.set H0.length (.cells .live [.int .i64 (n:Int),v,sn]):=⟨_,rfl⟩;have p5:dP H4 H0.length (.cells .live [.int .i64 (n:Int),v,sn])=H5:=by rw[oN];exact eY (by omega)
  have h05:H5[H0.length]?=some (.cells .live [.int .i64 (n:Int),v,sn]):=by rw[oN,aOc (by omega)]
  have a5:=fun m o=>jL (n:=m) (o:=o) h05 (by decide)
  have WE:=r9.one;have WG:=td.one;have hl5:H5.length=H4.length:=by rw[oN,aPp]
  simp only[↓aQ,aR,↓aT,aK,↓reduceIte,aa,ah,ae,ao,hl,g0,g6,g7,KX,s5,p5,a5,WE,WG];refine⟨fun k hk=>by rw[oN,aN9 (by omega),hk4 k (by omega)];exact hXK k hk,by omega,v,sn,G,_,P,rfl,r9.mono (by omega) (by omega) (fun k hk _=>by rw[oN,aN9 (by omega)]),td.mono (by omega) (by omega) (fun k hk _=>by rw[oN,aN9 (by omega)]),yU,?_⟩;exact .inl ⟨fun r h=>(by cases h),rfl,hE.congr bo⟩
 obtain⟨vs,rfl,hm⟩:∃vs,rv=AV.aJ vs 1/\oH vs [q] n:=by
  rcases hr with h|⟨-,vs,h,hm⟩
  ·exact absurd h.1 (by simp)
  ·exact⟨vs,h,hm⟩
 have apk:jP (AV.aJ vs 1)=some (1:Int):=rfl;obtain⟨hq,K5⟩:=hm.2 0 (aXi 0);have e0:row [q] 0=q:=rfl;rw[e0]at hq K5;have p1:=dL (vs:=vs) (i:=0) (by rw[hm.1];exact aXi 0);have hcq:=hk q rfl;have ba:BL (k+1) q:=mj hcq;have pri:=hq.pure;by_cases hz:∀j,j<rows.length->eF q (row rows j) n=0
 ·obtain⟨u1,H2,Of,rfl,vg,hB2⟩:=add_zero (E:=E) vG hB hL hq K5 hn (by omega) ba Zl.yd (by omega) hz (by omega);have aa3:=vg.1.1;obtain⟨r,H4,KX,hk4,aoE,v,sn,G,P,rfl,r9,td,yU,hE⟩:=AW (E:=E) (H0:=H2) (jZ:=none) (kp:=0) (kg:=kg) (K:=lB b eqs.length+1) (by omega) hB2 (hL.mono vg) rfl h0 hn (by omega) (by omega) Zl.yd hbK (fun G P hw hE=>hG G P hw (.inl (hE.congr bo))) (fun q h=>by cases h) (by omega);simp only[↓aQ,aR,aK,↓reduceIte,aa,ae,hl,g2,g15,g16,dc,apk];refine gb 2 ?_;have Zn:H2[H0.length]?=some (.cells .live [.int .i64 0,.aH,.aH]):=by rw[vg.1.2 _ (by omega) (by omega)];exact h0b
  have hXK:∀k,k<H0.length->H2[k]?=H0[k]?:=fun k hk=>by rw[vg.1.2 k (by omega) (by omega)];exact hK k hk
  have h04:H4[H0.length]?=some (.cells .live [.int .i64 0,.aH,.aH]):=by rw[hk4 _ (by omega)];exact Zn
  have hl4:H0.length+1<H4.length:=by omega
  have s5:=fun xs o=>kG (n:=3) (xs:=xs) (o:=o) h04
  obtain⟨H5,oN⟩:∃H5,H5=H4.set H0.length (.cells .live [.int .i64 (n:Int),v,sn]):=⟨_,rfl⟩;have p5:dP H4 H0.length (.cells .live [.int .i64 (n:Int),v,sn])=H5:=by rw[oN];exact eY (by omega)
  have h05:H5[H0.length]?=some (.cells .live [.int .i64 (n:Int),v,sn]):=by rw[oN,aOc (by omega)]
  have a5:=fun m o=>jL (n:=m) (o:=o) h05 (by decide)
  have WE:=r9.one;have WG:=td.one;have hl5:H5.length=H4.length:=by rw[oN,aPp]
  simp only[↓aQ,aR,↓aT,aK,↓reduceIte,aa,ah,ae,an,ao,aq,aA,hl,g0,g6,g7,p1,Of,KX,s5,p5,a5,WE,WG,AF];refine⟨fun k hk=>by rw[oN,aN9 (by omega),hk4 k (by omega)];exact hXK k hk,by omega,v,sn,G,_,P,rfl,r9.mono (by omega) (by omega) (fun k hk _=>by rw[oN,aN9 (by omega)]),td.mono (by omega) (by omega) (fun k hk _=>by rw[oN,aN9 (by omega)]),yU,?_⟩;refine .inl ⟨fun r h x hx=>?_,rfl,hE.congr bo⟩;cases h;have h1:=(bo x).2 hx;rw[dN.jD];exact dN.Ja (fun i hi=>by rw[dN.jD,<-hz i hi,pk];rfl) h1
 ·obtain⟨u1,H2,Of,rfl,at',H1',tT,dM,tV,hso⟩:=Gw (E:=E) vG hB hL hq K5 hn (by omega) ba Zl.yd (by omega) hz (by omega);obtain⟨wI,Lx,rb,Pv,ws,lq,c,q1,q2,q3,q4,q5,q6,q7,q8,q9,Zz,q11,q12,q13,q14⟩:=hso.ex;have aGn:=tV.1.1;have aa3:=wI.1.1;have aaW:=Ms tT hW hn Zz q11 dM hcq Zl;have bo1:=fun x=>RD (HK aaP tT hW Zz q11 dM) x
  have lJ:=o6 (a:=q) (n:=n) (lq:=lq) tT;have cvl:dN.CV (lB b eqs.length) (fv lq):=by
   rcases q11 with e|e
   ·rw[e];exact Zl at' tT
   ·rw[e];exact afO (Zl at' tT)
  subst q14;have cvc:dN.CV (lB b eqs.length) (fv (lq.map fun x=>x*lN lq)):=Ik cvl;obtain⟨r,H4,KX,hk4,aoE,v,sn,G,P,rfl,r9,td,yU,hE⟩:=AW (E:=E) (H0:=H2) (jZ:=some (lq.map fun x=>x*lN lq)) (kp:=lB b eqs.length) (kg:=kg) (K:=2*lB b eqs.length+k+4+1) (by omega) q1 q13 ⟨rb,Pv,ws,rfl,q2,q3,q4,q5,q6,by rw[aOT];exact Zz⟩ h0 hn (by omega) (by omega) aaW.yd yn (fun G P hw hE=>hG G P hw (.inr ⟨q,rfl,hE.congr bo1⟩)) (fun q h=>by cases h;exact cvc) (by omega);obtain⟨hG8,TY⟩:=hG G P yU (.inr ⟨q,rfl,hE.congr bo1⟩);simp only[↓aQ,aR,aK,↓reduceIte,aa,ae,hl,g2,g15,g16,dc,apk];refine gb 2 ?_;have Zn:H2[H0.length]?=some (.cells .live [.int .i64 0,.aH,.aH]):=by rw[wI.1.2 _ (by omega) (by omega),tV.1.2 _ (by omega) (by omega)];exact h0b
  have hXK:∀k,k<H0.length->H2[k]?=H0[k]?:=fun k hk=>by rw[wI.1.2 k (by omega) (by omega),tV.1.2 k (by omega) (by omega)];exact hK k hk
  have h04:H4[H0.length]?=some (.cells .live [.int .i64 0,.aH,.aH]):=by rw[hk4 _ (by omega)];exact Zn
  have hl4:H0.length+1<H4.length:=by omega
  have s5:=fun xs o=>kG (n:=3) (xs:=xs) (o:=o) h04
  obtain⟨H5,oN⟩:∃H5,H5=H4.set H0.length (.cells .live [.int .i64 (n:Int),v,sn]):=⟨_,rfl⟩;have p5:dP H4 H0.length (.cells .live [.int .i64 (n:Int),v,sn])=H5:=by rw[oN];exact eY (by omega)
  have h05:H5[H0.length]?=some (.cells .live [.int .i64 (n:Int),v,sn]):=by rw[oN,aOc (by omega)]
  have a5:=fun m o=>jL (n:=m) (o:=o) h05 (by decide)
  have WE:=r9.one;have WG:=td.one;have hl5:H5.length=H4.length:=by rw[oN,aPp]
  simp only[↓aQ,aR,↓aT,aK,↓reduceIte,aa,ah,ae,an,ao,aq,aA,hl,g0,g6,g7,p1,Of,KX,s5,p5,a5,WE,WG,AF];refine⟨fun k hk=>by rw[oN,aN9 (by omega),hk4 k (by omega)];exact hXK k hk,by omega,v,sn,G,_,P,rfl,r9.mono (by omega) (by omega) (fun k hk _=>by rw[oN,aN9 (by omega)]),td.mono (by omega) (by omega) (fun k hk _=>by rw[oN,aN9 (by omega)]),yU,?_⟩;obtain⟨lc,hlc⟩:∃lc,lc=lq.map fun x=>x*lN lq:=⟨_,rfl⟩
  rw[<-hlc]at cvc⊢;have ahV:lc.length=n:=by rw[hlc,aOT];exact Zz
  have hEo:=hE.congr bo1;have aw7:dN.iY n eqs.length (fun i=>fv (row eqs i)) (fv lc):=by
   have h1:=(bo _).1 (dN.eK.of (dN.SR.get (f:=fun i=>dW rows i) tT));rcases q11 with e|e
   ·refine(dN.mJ _ _ _).pO (fun _=>0) _ _ (lN lq) ((dN.mJ _ _ _).zero _ fun _=>rfl) h1 (fun c=>?_);show lc.getD c 0=0+lN lq*(row rows at').getD c 0
    rw[hlc,ER,e];grind
   ·refine(dN.mJ _ _ _).pO (fun _=>0) _ _ (-lN lq) ((dN.mJ _ _ _).zero _ fun _=>rfl) h1 (fun c=>?_);show lc.getD c 0=0+ -lN lq*(row rows at').getD c 0
    rw[hlc,ER,show lq.getD c 0= -((row rows at').getD c 0)by rw[e];exact qW rfl (by grind) c];grind
  have aGs:dN.ip n (fv q) (fv lc)<0:=by
   rw[<-pk,hlc,DW];have h1:=abW.2 q12;have h2:=Hx (a:=lq);have h3:=aXj (a:= -(eF q lq n)) (b:=lN lq) (by grind) h2
   grind
  have ae3:∀x,dN.iY n (eqs++[q]).length (fun i=>fv (row (eqs++[q]) i)) x->dN.iY n eqs.length (fun i=>fv (row eqs i)) x/\dN.ip n (fv q) x=0:=fun x hx=>by
   rw[sg]at hx;exact(dN.Hr uq x).1 hx
  obtain⟨o1,o2⟩:=acz (n:=n) (g:=G.length) (dN.mJ n eqs.length (fun i=>fv (row eqs i))) (fun x hx=>(ae3 x hx).1) (Gf:=fun i=>dW G i) (P:=P) (dN.mJ n (eqs++[q]).length (fun i=>fv (row (eqs++[q]) i))) hEo.mem (r:=fv q) (q:=fv lc) (v:=fv ((oh lc G P G.length).map fun x=>x*lN (oh lc G P G.length))) (pc:=lN (oh lc G P G.length)) (fun x hx=>(ae3 x hx).2) aw7 (fun c=>by
   show((oh lc G P G.length).map fun x=>x*lN (oh lc G P G.length)).getD c 0=_
   rw[ER]
   have:=Jn ahV yU hE (aLr _) c
   show fv (oh lc G P G.length) c*_=_
   rw[this])
  refine .inr ⟨q,_,rfl,rfl,by rw[aOT];exact Aa ahV yU (aLr _),hEo,o1,?_,Ik (Jm ahV yU hE cvc TY hG8 (aLr _))⟩;rw[o2];have h2:=Hx (a:=oh lc G P G.length);have h3:=aXj h2 (b:= -(dN.ip n (fv q) (fv lc))) (by grind)
  grind
theorem aec{n:Nat}:Lib.decDigits n≠[]:=by
 intro e
 have:=Qr n
 by_cases h:n=0
 ·subst h;have h2:Lib.decDigits 0=[48]:=by rw[Lib.decDigits];rfl
  rw[h2]at e;exact absurd e (by simp)
 ·rw[e]at this;exact h this.symm
theorem aed{n:Nat}:QY (Lib.decDigits n)=true:=by
 unfold QY;rw[Bool.and_eq_true];refine⟨?_,List.all_eq_true.2 (IL n)⟩
 have:=aec (n:=n)
 cases h:Lib.decDigits n with
 |nil=>exact absurd h this
 |cons a l=>rfl
theorem KC{b:UInt8}(h:kP b=true):(b==47)=false:=by
 rw[beq_eq_false_iff_ne];rintro rfl
 revert h
 decide
theorem Ss{z:Int}:∀b∈Lib.itoa z,(b==47)=false:=by
 intro b hb;unfold Lib.itoa at hb;split at hb
 ·rw[List.mem_cons]at hb;rcases hb with rfl|hb
  ·rfl
  ·exact KC (IL _ b hb)
 ·exact KC (IL _ b hb)
theorem YF{s t:List UInt8}(h:∀b∈s,(b==47)=false):(s++47::t).takeWhile (fun b=>!(b==47))=s/\(s++47::t).dropWhile (fun b=>!(b==47))=47::t:=by
 induction s with
 |nil=>exact⟨rfl,rfl⟩
 |cons a s ih=>
  have h1:=h a (by simp);obtain⟨e1,e2⟩:=ih (fun b hb=>h b (by simp[hb]));simp only[List.cons_append,aUd,List.dropWhile_cons,h1,aXk,if_true];exact⟨by rw[e1],e2⟩
theorem adl{s:List UInt8}(h:∀b∈s,(b==47)=false):s.takeWhile (fun b=>!(b==47))=s:=by
 induction s with
 |nil=>rfl
 |cons a s ih=>
  have h1:=h a (by simp);simp only[aUd,h1,aXk,if_true];rw[ih (fun b hb=>h b (by simp[hb]))]
theorem any_none{s:List UInt8}(h:∀b∈s,(b==47)=false):s.any (fun b=>b==47)=false:=by rw[List.any_eq_false];intro b hb;rw[h b hb];decide
theorem EZ{q:Rat}:v8 (bC q)=Lib.itoa q.num/\wa (bC q)=!decide (q.den=1)/\(q.den≠1->n9 (bC q)=Lib.decDigits q.den):=by
 have h47:=Ss (z:=q.num);unfold bC v8 n9 wa;by_cases h:q.den=1
 ·rw[if_pos h,adl h47,any_none h47];exact⟨rfl,by rw[cF h];rfl,fun e=>absurd h e⟩
 ·rw[if_neg h];have e:Lib.itoa q.num++[47]++Lib.itoa (q.den:Int)=Lib.itoa q.num++47::Lib.itoa (q.den:Int):=by rw[aS1];rfl
  rw[e,(YF h47).1,(YF h47).2];refine⟨rfl,?_,fun _=>?_⟩
  ·rw[cH h,List.any_append,List.any_cons];simp
  ·unfold Lib.itoa;rw[if_neg (by omega)];rfl
theorem itoa_neg{z:Int}:Lib.hasPrefix (Lib.itoa z) [45]=decide (z<0)/\Lib.trimPrefix (Lib.itoa z) [45]=Lib.decDigits z.natAbs:=by
 unfold Lib.itoa;by_cases h:z<0
 ·rw[if_pos h,cF h];refine⟨rfl,?_⟩;unfold Lib.trimPrefix;simp[Lib.hasPrefix]
 ·rw[if_neg h,cH h];have h1:=Hm (IL z.toNat);refine⟨h1.1,?_⟩;rw[h1.2];congr 1;omega
theorem LS{q:Rat}:wW (bC q)=q.num/\Fj (bC q)=decide (q.num<0)/\sI (bC q)=Lib.decDigits q.num.natAbs:=by
 obtain⟨h1,h2,h3⟩:=EZ (q:=q);obtain⟨i1,i2⟩:=itoa_neg (z:=q.num);have a:Fj (bC q)=decide (q.num<0):=by unfold Fj;rw[h1,i1]
 have b:sI (bC q)=Lib.decDigits q.num.natAbs:=by unfold sI;rw[h1,i2]
 refine⟨?_,a,b⟩;unfold wW;rw[a,b,Qr];by_cases h:q.num<0
 ·rw[cF h,if_pos rfl];omega
 ·rw[cH h,if_neg (by decide)];omega
theorem om{q:Rat}:gY (bC q)=q:=by
 obtain⟨h1,h2,h3⟩:=EZ (q:=q);unfold gY;rw[h2,LS.1];by_cases h:q.den=1
 ·rw[cF h,if_neg (by decide)]
  have:=aTY q
  rw[h]at this;rw[<-this];rw[aWf];simp only[aWf]at*
  grind
 ·rw[cH h,aXk,if_pos rfl];unfold uT;rw[h3 h,Qr,aTY]
theorem Qd{neg:Bool}{n:Nat}(h:n=0->neg=false):sF neg (Lib.decDigits n)=false:=by
 unfold sF;by_cases h0:n=0
 ·subst h0;have h2:Lib.decDigits 0=[48]:=by rw[Lib.decDigits];rfl
  rw[h2,h rfl];rfl
 ·have:=Qn n (by omega)
  rw[show((Lib.decDigits n).head?==some 48)=false from beq_eq_false_iff_ne.2 this];rfl
theorem SS{q:Rat}{L:Int}(hL:((bC q).length:Int)<=L):dY L (bC q)=0:=by
 obtain⟨h1,h2,h3⟩:=EZ (q:=q);obtain⟨n1,n2,n3⟩:=LS (q:=q);have hd:0<q.den:=jA q;unfold dY;rw[if_neg (by omega),n3,aed,h2,n2];have b1:sF (decide (q.num<0)) (Lib.decDigits q.num.natAbs)=false:=Qd (fun h=>cH (by omega));rw[b1];by_cases h:q.den=1
 ·rw[cF h]
  simp
 ·rw[cH h,h3 h,aed];have hz:(Lib.decDigits q.den).all (·==48)=false:=by
   have:=Qn q.den hd
   cases hc:Lib.decDigits q.den with
   |nil=>exact absurd hc aec
   |cons a l=>
    rw[hc]at this;simp only[List.head?_cons,ne_eq,Option.some.injEq]at this;rw[aOV,show(a==48)=false from beq_eq_false_iff_ne.2 this];rfl
  have hb:sF false (Lib.decDigits q.den)=false:=Qd (fun _=>rfl);have hr:uT (bC q)=q.den:=by unfold uT;rw[h3 h,Qr]
  have hg:Int.gcd q.num q.den=1:=by
   have:=q.reduced
   rw[Int.gcd,Int.natAbs_natCast];exact this
  rw[hz,hb,hr,n1,hg];simp[h]
theorem Vc:∀(n k:Nat),n<2^k->(Lib.decDigits n).length<=k/3+1:=by
 intro n;induction n using Nat.strongRecOn with
 |ind n ih=>
  intro k hk;rw[Lib.decDigits]
  split
  ·simp
  ·rename_i h;rw[aMk,aWX];have hk3:3<=k:=by
    apply Classical.byContradiction;intro hn
    have:2^k<=2^2:=Nat.pow_le_pow_right (by omega) (by omega)
    omega
   have h2:n/10<2^(k-3):=by
    have e:2^k=2^(k-3)*8:=by rw[show(8:Nat)=2^3 from rfl,<-Nat.pow_add,show k-3+3=k by omega]
    have:n<2^(k-3)*10:=by omega
    exact Nat.div_lt_of_lt_mul (by rw[Nat.mul_comm];exact this)
   have:=ih (n/10) (by omega) (k-3) h2
   omega
theorem rm{q:Rat}{k:Nat}(h:Bq k q):(bC q).length<=2*(k/3)+4:=by
 have h1:=Vc _ _ h.1;have h2:=Vc _ _ h.2;have h3:∀z:Int,(Lib.itoa z).length<=(Lib.decDigits z.natAbs).length+1:=by
  intro z;unfold Lib.itoa
  split
  ·rw[List.length_cons];exact aLr _
  ·rw[show z.toNat=z.natAbs by omega];omega
 have h4:=h3 q.num;have h5:(Lib.itoa (q.den:Int)).length=(Lib.decDigits q.den).length:=by unfold Lib.itoa;rw[if_neg (by omega)];rfl
 unfold bC
 split
 ·omega
 ·simp only[aMk,aWX];omega
theorem oY{q:Rat}{k:Nat}(h:Bq k q)(hk:k<=98000):dY 65536 (bC q)=0:=SS (by have:=rm h;omega)
theorem Jc{qs:List Rat}{k:Nat}(h:BL k qs)(hk:k<=98000):fJ 65536 (qs.map bC)=0:=by
 induction qs with
 |nil=>rfl
 |cons q qs ih=>
  rw[List.map_cons,fJ,oY (h q (by simp)) hk];simp only[ne_eq,not_true_eq_false,if_false];exact ih (fun x hx=>h x (by simp[hx]))
theorem Jx{qs:List Rat}:(qs.map bC).map gY=qs:=by rw[List.map_map];refine(List.map_congr_left (fun q _=>?_)).trans (List.map_id _);exact om
end Go.Proofs.YtblnjkjjedanaaaGreatDoor
