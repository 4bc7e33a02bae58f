/- A part of the proof that PairRefuses returns true for every input; no condition of its own. -/
import Derived.Test.YtblnjkjjedanaaaGreatDoorTar
set_option linter.all false
set_option maxHeartbeats 100000000
set_option maxRecDepth 100000
open List renaming getD_eq_getElem?_getD->aSW,length_set->aPp,getElem?_append_left->aOB,getElem?_set_ne->aN9,drop_zero->aQh,getElem?_eq_getElem->aMh,take_length->aR7,getElem_of_mem->aVB,getElem?_set_self->aOc,zipWith->aU3,take_of_length_le->aP6,eq_nil_of_length_eq_zero->aVC,getElem?_append_right->aUV,getElem?_eq_some_iff->aLu,length_cons->aMn,getElem_mem->aMo,length_take->aMp,length_nil->aP3,set_getElem_self->aVD,getElem_zipWith->aVE,length_zipWith->aU6,length_append->aMk,getElem?_take->aK7,getElem?_set->aLq
open Nat renaming mul_le_mul_right->aL8,pow_le_pow_right->aRX,mul_one->aQq,zero_add->aMg,reduceLT->aa,reduceEqDiff->ae,reduceAdd->ah,reduceLeDiff->ai,reduceBEq->aj
open Option renaming getD_some->aNt
open Int renaming reduceLE->an,reduceToNat->aq,reduceBNe->aE
namespace Go.Proofs.YtblnjkjjedanaaaGreatDoor
open Go Dv Dv.bV
variable{E:Env}[C:Ctx E]
theorem yN{ss:List (List UInt8)}(hs:∀s∈ss,s.length<=4611686018427387904)(hn:ss.length<=1000):
  ∃r,aO E 52 [.aJ (ss.map AV.str) ss.length]=some (.tuple [r,.int .i64 (fJ 65536 ss)])/\(fJ 65536 ss=0->gy r (ss.map gY))/\(fJ 65536 ss≠0->r=.aH):=by
 obtain⟨r,hr,h1,h2⟩:=Uy (E:=E) (f:=39) (L:=65536) (cn C (by kernel_rfl)) hs hn (fun s h=>kn (E:=E) h)
 suffices hh:∃u,aO E 52 [.aJ (ss.map AV.str) ss.length]=some u/\u=.tuple [r,.int .i64 (fJ 65536 ss)]by
  obtain⟨u,e,rfl⟩:=hh;exact⟨r,e,h1,h2⟩
 have pr:aN r=true:=by
  by_cases hz:fJ 65536 ss=0
  ·exact(h1 hz).pure
  ·rw[h2 hz];rfl
 refine mO avn ?_;intro ts hl g0;unfold c52;simp only[↓aQ,aR,↓aT,aK,aa,ae,Tryz.f52,hl,g0,hr,pr]
theorem Yu{E:Env}{ts:List AV}{d:Option Nat}{t:Nat}{p:String}{af:Array Edge}{t1 s rQ:Nat}{ag:Bool}{z:List AV}{x:Operand}{lo hi mx:Option Operand}{e:cJ}(hS:eR E t1=some (ag,s,rQ,z)):bI E ts ⟨d,.slice t1 x lo hi mx,t,p,af,none⟩ e=([],[]):=by obtain⟨ti,e',ei,h1,h2,h3,h4,h5,_⟩:=iB hS;obtain⟨cS,isAgg,size,bytes,zero,eQ⟩:=ti;simp only at h2;subst h2;unfold bI;simp only[jG,h1]
theorem X6{E:Env}{t s rQ:Nat}{ag:Bool}{z:List AV}(hS:eR E t=some (ag,s,rQ,z)){H:Hp}{cs:List AV}{n k:Nat}{i:IntKind}(hk:k<=n)(h0:0<k):AE E H t (.aJ cs n) none (some (.int i (k:Int)))=some (.aJ (cs.take (k*s)) k):=by
 obtain⟨ti,e,ei,h1,h2,h3,h4,h5,_⟩:=iB hS;obtain⟨cS,isAgg,size,bytes,zero,eQ⟩:=ti;simp only at h2;subst h2 h5;simp only[AE,h1,iM,h3,Qe hk];rw[if_neg (by omega)]
 simp
theorem X5{E:Env}{t s rQ:Nat}{ag:Bool}{z:List AV}(hS:eR E t=some (ag,s,rQ,z)){H:Hp}{cs:List AV}{n k:Nat}{i:IntKind}(hk:k<n)(hl:cs.length=n*s):AE E H t (.aJ cs n) (some (.int i (k:Int))) none=some (.aJ (cs.drop (k*s)) (n-k)):=by
 obtain⟨ti,e,ei,h1,h2,h3,h4,h5,_⟩:=iB hS;obtain⟨cS,isAgg,size,bytes,zero,eQ⟩:=ti;simp only at h2;subst h2 h5;simp only[AE,h1,iM,h3,Ix (Nat.le_of_lt hk)];rw[if_neg (by omega),aP6 (by rw[List.length_drop,hl,Nat.sub_mul];exact Nat.le_refl _)]
def tw0:Tw:=⟨v0,v0⟩
theorem ay0{cs:List AV}{q0 q1 q2 q3 q4 q5:Rat}(h:iZ cs [q0,q1,q2,q3,q4,q5]):∃kH kr kI ku me lO mf lP mh lQ mi lR nk nh nu nj nS nO nT nP nU nQ nV nR,cs=[.bool kH,kr,.bool kI,ku,.bool me,lO,.bool mf,lP,.bool mh,lQ,.bool mi,lR,.bool nk,nh,.bool nu,nj,.bool nS,nO,.bool nT,nP,.bool nU,nQ,.bool nV,nR]/\fS (.agg [.bool kH,kr,.bool kI,ku,.bool me,lO,.bool mf,lP,.bool mh,lQ,.bool mi,lR]) ⟨q0,q1,q2⟩/\fS (.agg [.bool nk,nh,.bool nu,nj,.bool nS,nO,.bool nT,nP,.bool nU,nQ,.bool nV,nR]) ⟨q3,q4,q5⟩:=by
 cases h with
 |cons a0 h=>cases h with
  |cons a1 h=>cases h with
   |cons a2 h=>cases h with
    |cons a3 h=>cases h with
     |cons a4 h=>cases h with
      |cons a5 h=>cases h with
       |nil=>exact⟨_,_,_,_,_,_,_,_,_,_,_,_,_,_,_,_,_,_,_,_,_,_,_,_,rfl,⟨_,_,_,_,_,_,_,_,_,_,_,_,rfl,a0,a1,a2⟩,⟨_,_,_,_,_,_,_,_,_,_,_,_,rfl,a3,a4,a5⟩⟩
theorem MF{s0 s1 s2 s3 s4 s5:List UInt8}(hs:∀s∈[s0,s1,s2,s3,s4,s5],s.length<=4611686018427387904):
  ∃a b,aO E 57 [.agg [.str s0,.str s1,.str s2,.str s3,.str s4,.str s5]]=some (.tuple [a,b,.int .i64 (fJ 65536 [s0,s1,s2,s3,s4,s5])])/\fS a (if fJ 65536 [s0,s1,s2,s3,s4,s5]=0 then⟨gY s0,gY s1,gY s2⟩else v0)/\fS b (if fJ 65536 [s0,s1,s2,s3,s4,s5]=0 then⟨gY s3,gY s4,gY s5⟩else v0):=by
 suffices hh:∃u,aO E 57 [.agg [.str s0,.str s1,.str s2,.str s3,.str s4,.str s5]]=some u/\∃a b,u=.tuple [a,b,.int .i64 (fJ 65536 [s0,s1,s2,s3,s4,s5])]/\fS a (if fJ 65536 [s0,s1,s2,s3,s4,s5]=0 then⟨gY s0,gY s1,gY s2⟩else v0)/\fS b (if fJ 65536 [s0,s1,s2,s3,s4,s5]=0 then⟨gY s3,gY s4,gY s5⟩else v0)by
  obtain⟨u,h1,a,b,rfl,h2⟩:=hh;exact⟨a,b,h1,h2⟩
 obtain⟨r,hr,h1,h2⟩:=yN (E:=E) hs (by simp);simp only[List.map_cons,List.map_nil,aMn,aP3,aMg,ah]at hr h1;generalize fJ 65536 [s0,s1,s2,s3,s4,s5]=cd at*;have lJ:=Ao (E:=E) atW (H:=[.cells .live [.str s0,.str s1,.str s2,.str s3,.str s4,.str s5],.cells .live [.bool false,.aH,.bool false,.aH,.bool false,.aH,.bool false,.aH,.bool false,.aH,.bool false,.aH],.cells .live [.bool false,.aH,.bool false,.aH,.bool false,.aH,.bool false,.aH,.bool false,.aH,.bool false,.aH]]) (b:=0) (st:=.live) rfl (by decide) rfl (by decide) (by decide);have gf:=jQ (H:=[.cells .live [.str s0,.str s1,.str s2,.str s3,.str s4,.str s5],.cells .live [.bool false,.aH,.bool false,.aH,.bool false,.aH,.bool false,.aH,.bool false,.aH,.bool false,.aH],.cells .live [.bool false,.aH,.bool false,.aH,.bool false,.aH,.bool false,.aH,.bool false,.aH,.bool false,.aH]]) (b:=0) (m:=6) (s:=1) (st:=.live) rfl (by decide) rfl (by
  intro v hv;simp only[List.mem_cons,List.not_mem_nil,or_false]at hv;rcases hv with rfl|rfl|rfl|rfl|rfl|rfl<;>exact fun _ _=>rfl)
 refine mO avt ?_;intro ts hl g0;unfold c57;by_cases hz:cd=0
 ·subst hz;obtain⟨cs,e,rc⟩:=h1 rfl;simp only[aMn,aP3,aMg,ah]at e;subst e;obtain⟨kH,kr,kI,ku,me,lO,mf,lP,mh,lQ,mi,lR,nk,nh,nu,nj,nS,nO,nT,nP,nU,nQ,nV,nR,rfl,hx,hy⟩:=ay0 rc;have X:=dQ hx;have Y:=dQ hy;have zO:∀l n,bJ (.tuple [.aJ l n,.int .i64 0])=false:=fun l n=>rfl
  have t1:∀H,AE E H 118 (.aJ [.bool kH,kr,.bool kI,ku,.bool me,lO,.bool mf,lP,.bool mh,lQ,.bool mi,lR,.bool nk,nh,.bool nu,nj,.bool nS,nO,.bool nT,nP,.bool nU,nQ,.bool nV,nR] 6) none (some (.int .i64 3))=some (.aJ [.bool kH,kr,.bool kI,ku,.bool me,lO,.bool mf,lP,.bool mh,lQ,.bool mi,lR] 3):=fun H=>X6 (E:=E) vo (H:=H) (cs:=[.bool kH,kr,.bool kI,ku,.bool me,lO,.bool mf,lP,.bool mh,lQ,.bool mi,lR,.bool nk,nh,.bool nu,nj,.bool nS,nO,.bool nT,nP,.bool nU,nQ,.bool nV,nR]) (n:=6) (k:=3) (i:=.i64) (by decide) (by decide)
  have t2:∀H,AE E H 118 (.aJ [.bool kH,kr,.bool kI,ku,.bool me,lO,.bool mf,lP,.bool mh,lQ,.bool mi,lR,.bool nk,nh,.bool nu,nj,.bool nS,nO,.bool nT,nP,.bool nU,nQ,.bool nV,nR] 6) (some (.int .i64 3)) none=some (.aJ [.bool nk,nh,.bool nu,nj,.bool nS,nO,.bool nT,nP,.bool nU,nQ,.bool nV,nR] 3):=fun H=>X5 (E:=E) vo (H:=H) (cs:=[.bool kH,kr,.bool kI,ku,.bool me,lO,.bool mf,lP,.bool mh,lQ,.bool mi,lR,.bool nk,nh,.bool nu,nj,.bool nS,nO,.bool nT,nP,.bool nU,nQ,.bool nV,nR]) (n:=6) (k:=3) (i:=.i64) (by decide) rfl
  have t3:∀cs,Gl E 72 (.aJ cs 3)=some (.eU cs 0):=fun cs=>afz (E:=E) ZJ
  have t4:iR true 12 [.bool kH,kr,.bool kI,ku,.bool me,lO,.bool mf,lP,.bool mh,lQ,.bool mi,lR] 0=some (.agg [.bool kH,kr,.bool kI,ku,.bool me,lO,.bool mf,lP,.bool mh,lQ,.bool mi,lR]):=rfl;have t5:iR true 12 [.bool nk,nh,.bool nu,nj,.bool nS,nO,.bool nT,nP,.bool nU,nQ,.bool nV,nR] 0=some (.agg [.bool nk,nh,.bool nu,nj,.bool nS,nO,.bool nT,nP,.bool nU,nQ,.bool nV,nR]):=rfl
  simp(maxSteps:=1000000)only[↓aQ,aR,↓aT,aK,↓reduceIte,aa,ah,ae,Tryz.f57,aE,hl,g0,lJ,gf,hr,zO,t1,t2,t3,t4,t5,X,Y,wZ,Yu (E:=E) vo]
  exact⟨_,_,rfl,hx,hy⟩
 ·obtain rfl:=h2 hz;have hzb:(cd !=0)=true:=bne_iff_ne.2 hz;have zO:bJ (.tuple [.aH,.int .i64 cd])=true:=rfl
  simp(maxSteps:=1000000)only[↓aQ,aR,↓aT,aK,↓reduceIte,aa,ah,ae,Tryz.f57,aj,aj,hl,g0,lJ,gf,hr,hzb,zO]
  exact⟨_,_,rfl,by rw[if_neg hz];exact CW,by rw[if_neg hz];exact CW⟩
def twS(s0 s1 s2 s3 s4 s5:List UInt8):Tw:=if fJ 65536 [s0,s1,s2,s3,s4,s5]=0 then⟨⟨gY s0,gY s1,gY s2⟩,⟨gY s3,gY s4,gY s5⟩⟩else tw0
theorem JT{s0 s1 s2 s3 s4 s5:List UInt8}(hs:∀s∈[s0,s1,s2,s3,s4,s5],s.length<=4611686018427387904):
  ∃a,aO E 23 [.agg [.str s0,.str s1,.str s2,.str s3,.str s4,.str s5]]=some (.tuple [a,.int .i64 (fJ 65536 [s0,s1,s2,s3,s4,s5])])/\AL a (twS s0 s1 s2 s3 s4 s5):=by
 suffices hh:∃u,aO E 23 [.agg [.str s0,.str s1,.str s2,.str s3,.str s4,.str s5]]=some u/\∃a,u=.tuple [a,.int .i64 (fJ 65536 [s0,s1,s2,s3,s4,s5])]/\AL a (twS s0 s1 s2 s3 s4 s5)by
  obtain⟨u,h1,a,rfl,h2⟩:=hh;exact⟨a,h1,h2⟩
 obtain⟨a,b,hr,ha,hb⟩:=MF (E:=E) hs;have TZ:fS a (twS s0 s1 s2 s3 s4 s5).a:=by unfold twS;split<;>simp_all [tw0]
 have ux:fS b (twS s0 s1 s2 s3 s4 s5).l:=by unfold twS;split<;>simp_all [tw0]
 generalize fJ 65536 [s0,s1,s2,s3,s4,s5]=cd at*;obtain⟨kH,kr,kI,ku,me,lO,mf,lP,mh,lQ,mi,lR,rfl,-,-,-,P,O⟩:=cD TZ;obtain⟨nk,nh,nu,nj,nS,nO,nT,nP,nU,nQ,nV,nR,rfl,-,-,-,P1,O1⟩:=cD ux;refine mO au5 ?_;intro ts hl g0;unfold c23
 simp(maxSteps:=1000000)only[↓aQ,aR,↓aT,aK,↓reduceIte,aa,ah,ae,Tryz.f23,ai,hl,g0,hr,P,O,P1,O1]
 exact⟨_,rfl,kH,kr,kI,ku,me,lO,mf,lP,mh,lQ,mi,lR,nk,nh,nu,nj,nS,nO,nT,nP,nU,nQ,nV,nR,rfl,TZ,ux⟩
theorem vX{E:Env}{t s rQ:Nat}{ag:Bool}{z:List AV}{aM:Nat}(hS:eR E t=some (ag,s,rQ,z))(hz:z.length=s)(hs:0<s):aW E aM t 0 []=some (.aI aM 0 0 s 0,[(aM,.cells .live [])]):=by obtain⟨i,e,ei,h1,h2,h3,h4,h5,h6,h7⟩:=iB hS;obtain⟨cS,isAgg,size,bytes,zero,eQ⟩:=i;simp only at h2;subst h2 h5;simp[aW,h1,h3,h7,hZ,iG,hz,hs]
theorem DC{E:Env}{t s rQ n:Nat}{ag:Bool}{z cs:List AV}{H:Hp}(hS:eR E t=some (ag,s,rQ,z))(hs:0<s)(tg:cs.length=n*s)(hx:cs.all b7=true)(hr:n*rQ<=gq)(Ew:0<n)(hn:n<=4611686018427387904):
  aZ E (H++[cG.cells iH.live []]) (H++[cG.cells iH.live []]).length .append [t,t] [.aI H.length 0 0 s 0,.aJ cs n]=some (.aI (H.length+1) 0 n s n,[(H.length,.cells .dead []),(H.length+1,.cells .live cs)]):=by
 obtain⟨i,e,ei,h1,h2,h3,h4,h5,h6,h7⟩:=iB hS;subst h5 h6;have hsr:sJ (H++[cG.cells iH.live []]) ei.size (.aJ cs n)=some cs:=by simp[sJ,kf,tg]
 have:=zk (E:=E) (H:=H++[cG.cells iH.live []]) (aM:=(H++[cG.cells iH.live []]).length) (b:=H.length) (off:=0) (len:=0) (kc:=0) (n:=n) (cs:=[]) h1 h2 h3 (x:=.aJ cs n) rfl hsr Ew (by omega) hx (by simp[h7]) (by simpa using hr) (by omega) (by simp) (by omega) (by simp)
 rw[builtin_append h1 h2 rfl];simpa using this
theorem AT{H:Hp}{cs:List AV}:(cJ.bM [(H.length,.cells .dead []),(H.length+1,.cells .live cs)]).app (H++[cG.cells iH.live []])=H++[.cells .dead [],.cells .live cs]:=by
 rw[sK];have h1:dP (H++[cG.cells iH.live []]) H.length (.cells .dead [])=H++[.cells .dead []]:=Hy;rw[h1];have h2:H.length+1=(H++[cG.cells iH.dead []]).length:=by simp
 rw[h2,eO]
 simp
theorem Ku{H:Hp}{cs:List AV}{n:Nat}(tg:cs.length=n*1)(hx:cs.all b7=true)(Ew:0<n)(hn:n<=1000000):cL E 198 [.aJ cs n] H=some (.aI (H.length+1) 0 n 1 n,H++[.cells .dead [],.cells .live cs]):=by
 suffices hh:∃r H',cL E 198 [.aJ cs n] H=some (r,H')/\(r=.aI (H.length+1) 0 n 1 n/\H'=H++[.cells .dead [],.cells .live cs])by
  obtain⟨r,H',h1,rfl,rfl⟩:=hh;exact h1
 have ha:=DC (E:=E) (H:=H) xb (by decide) tg hx (by unfold gq;omega) Ew (by omega);have hb:=fun aM=>vX (E:=E) (aM:=aM) xb rfl (by decide)
 have he:∀{c:Bool},dy E c .eql 216 (.aJ cs n) .aH=some (.bool false):=fun{c}=>by rw[zD (xb (E:=E)) (show jP (.aJ cs n)≠none by simp[jP])]
 have hc:=AT (H:=H) (cs:=cs);refine gi1 (by rw[C.ud]) (by rw[C.fn];exact anh) (by decide) ?_;intro ts hl g0;unfold alZ;simp only[↓aQ,aR,aa,ae,Tryz.f198,hl,g0,he,hb,eO,ha,hc]
theorem Kv{H:Hp}{cs:List AV}{n:Nat}(tg:cs.length=n*4)(hx:cs.all b7=true)(Ew:0<n)(hn:n<=1000000):cL E 172 [.aJ cs n] H=some (.aI (H.length+1) 0 n 4 n,H++[.cells .dead [],.cells .live cs]):=by
 suffices hh:∃r H',cL E 172 [.aJ cs n] H=some (r,H')/\(r=.aI (H.length+1) 0 n 4 n/\H'=H++[.cells .dead [],.cells .live cs])by
  obtain⟨r,H',h1,rfl,rfl⟩:=hh;exact h1
 have ha:=DC (E:=E) (H:=H) vo (by decide) tg hx (by unfold gq;omega) Ew (by omega);have hb:=fun aM=>vX (E:=E) (aM:=aM) vo rfl (by decide)
 have he:∀{c:Bool},dy E c .eql 118 (.aJ cs n) .aH=some (.bool false):=fun{c}=>by rw[zD (vo (E:=E)) (show jP (.aJ cs n)≠none by simp[jP])]
 have hc:=AT (H:=H) (cs:=cs);refine gi1 (by rw[C.ud]) (by rw[C.fn];exact anb) (by decide) ?_;intro ts hl g0;unfold alV;simp only[↓aQ,aR,aa,ae,Tryz.f172,hl,g0,he,hb,eO,ha,hc]
def row(rows:List (List Rat))(i:Nat):List Rat:=rows.getD i []
def dW(rows:List (List Rat))(i k:Nat):Rat:=(row rows i).getD k 0
def oH(vs:List AV)(rows:List (List Rat))(w:Nat):Prop:=vs.length=rows.length/\∀i,i<rows.length->gy (vs.getD i aX) (row rows i)/\(row rows i).length=w
def mR(k:Nat)(rows:List (List Rat)):Prop:=∀i,i<rows.length->BL k (row rows i)
theorem pH{rows:List (List Rat)}{i j:Nat}{q:List Rat}(hi:i<rows.length):row (rows.set i q) j=if i=j then q else row rows j:=by
 unfold row;rw[aSW,aLq];by_cases h:i=j
 ·rw[if_pos h,if_pos h,if_pos (by omega)];rfl
 ·rw[if_neg h,if_neg h,<-aSW]
theorem GX{vs:List AV}{i j:Nat}{v:AV}(hi:i<vs.length):(vs.set i v).getD j aX=if i=j then v else vs.getD j aX:=by
 rw[aSW,aLq];by_cases h:i=j
 ·rw[if_pos h,if_pos h,if_pos (by omega)];rfl
 ·rw[if_neg h,if_neg h,<-aSW]
theorem oH.set{vs:List AV}{rows:List (List Rat)}{w i:Nat}{v:AV}{q:List Rat}(h:oH vs rows w)(hi:i<rows.length)(hv:gy v q)(hq:q.length=w):oH (vs.set i v) (rows.set i q) w:=by
 refine⟨by rw[aPp,aPp,h.1],fun j hj=>?_⟩;rw[aPp]at hj;rw[pH hi,GX (by rw[h.1];exact hi)];by_cases e:i=j
 ·rw[if_pos e,if_pos e];exact⟨hv,hq⟩
 ·rw[if_neg e,if_neg e];exact h.2 j hj
def As(rows:List (List Rat))(i r:Nat):List (List Rat):=(rows.set i (row rows r)).set r (row rows i)
theorem oH.swap{vs:List AV}{rows:List (List Rat)}{w i r:Nat}(h:oH vs rows w)(hi:i<rows.length)(hr:r<rows.length):oH ((vs.set i (vs.getD r aX)).set r (vs.getD i aX)) (As rows i r) w:=
 (h.set hi (h.2 r hr).1 (h.2 r hr).2).set (by rw[aPp];exact hr) (h.2 i hi).1 (h.2 i hi).2
theorem mR.set{k:Nat}{rows:List (List Rat)}{i:Nat}{q:List Rat}(h:mR k rows)(hi:i<rows.length)(hq:BL k q):mR k (rows.set i q):=by
 intro j hj;rw[aPp]at hj;rw[pH hi]
 split
 ·exact hq
 ·exact h j hj
def fQ(rows:List (List Rat))(r k:Nat):List (List Rat):=rows.set r (aU3 (fun x _=>x/dW rows r k) (row rows r) (row rows r))
def eW(rows:List (List Rat))(r k:Nat):Nat->List (List Rat)
 |0=>rows
 |j+1=>if j≠r/\dW (eW rows r k j) j k≠0 then(eW rows r k j).set j (aU3 (fun x y=>x-dW (eW rows r k j) j k*y) (row (eW rows r k j) j) (row (eW rows r k j) r))else eW rows r k j
theorem qX{rows:List (List Rat)}{r k:Nat}:∀{j:Nat},(eW rows r k j).length=rows.length
 |0=>rfl
 |j+1=>by
  rw[eW]
  split
  ·rw[aPp,qX]
  ·exact qX
inductive Dr(eZ:List (List Rat)):Nat->List (List Rat)->List Nat->Prop
 |start:Dr eZ 0 eZ []
 |skip {k:Nat} {rows:List (List Rat)} {fq:List Nat} (h:Dr eZ k rows fq) (hp:fq.length<rows.length) (hz:∀j,fq.length<=j->j<rows.length->dW rows j k=0):Dr eZ (k+1) rows fq
 |Fe {k i:Nat} {rows rows':List (List Rat)} {fq:List Nat} (h:Dr eZ k rows fq) (hi:fq.length<=i) (hl:i<rows.length) (hn:dW rows i k≠0) (hz:∀j,fq.length<=j->j<i->dW rows j k=0) (hs:rows'=if i≠fq.length then As rows i fq.length else rows):Dr eZ (k+1) (eW (fQ rows' fq.length k) fq.length k rows.length) (fq++[k])
def HS(H:Hp)(a b:cG):Hp:=(H.set 2 a).set 3 b
section
variable{H:Hp}(h:4<=H.length){a b x:cG}{vs:List AV}{o:Nat}
theorem vO:(HS H a b).length=H.length:=by unfold HS;simp
theorem ZF(h2:H[2]?=some a)(h3:H[3]?=some b):HS H a b=H:=by obtain⟨l2,e2⟩:=aLu.1 h2;obtain⟨l3,e3⟩:=aLu.1 h3;unfold HS;rw[<-e2,aVD,<-e3,aVD]
include h
theorem Ul:(HS H a b)[2]?=some a:=by unfold HS;rw[aN9 (by omega),aOc (by omega)]
theorem afP:(HS H a b)[3]?=some b:=by
 unfold HS;rw[aOc (by rw[aPp];omega)]
theorem Ru{j:Nat}(h2:j≠2)(h3:j≠3):(HS H a b)[j]?=H[j]?:=by unfold HS;rw[aN9 (by omega),aN9 (by omega)]
theorem Um:dP (HS H a b) 2 x=HS H x b:=by rw[eY (by rw[vO];omega)];unfold HS;rw[List.set_comm _ _ (by omega),List.set_set]
theorem adQ:dP (HS H a b) 3 x=HS H a x:=by rw[eY (by rw[vO];omega)];unfold HS;rw[List.set_set]
theorem y8(ho:o<vs.length):cellAt (HS H (.cells .live vs) b) 2 o=some (vs.getD o aX):=by rw[iT,Ul h];simp[aMh ho]
theorem Io{n m n' m'}:nZ 4 (HS H a (.cells .live [.bool n,m,.bool n',m'])) 3 0=some (.agg [.bool n,m,.bool n',m']):=by rw[mE,afP h];rfl
theorem Ip{v:AV}(ho:o<vs.length)(hv:b7 v=true):mY 1 [v] (HS H (.cells .live vs) b) 2 o=some (.cells .live (vs.set o v)):=by
 rw[kR,Ul h];simp[hv];refine⟨by omega,?_⟩;rw[fV,List.set_eq_take_append_cons_drop,if_pos ho]
 simp
theorem Nf{n m n' m' k l k' l'}(h1:b7 l=true)(h2:b7 l'=true):mY 4 [.bool k,l,.bool k',l'] (HS H a (.cells .live [.bool n,m,.bool n',m'])) 3 0=some (.cells .live [.bool k,l,.bool k',l']):=by rw[kR,afP h];simp[qp,h1,h2,dE]
theorem ak6{s n:Nat}{v:AV}{cs:List AV}(hv:u7 s 4 v H n cs):u7 s 4 v (HS H a b) n cs:=by
 rcases hv with hv|⟨h0,c,h1,h2,h3,h4⟩
 ·exact .inl hv
 ·exact .inr ⟨h0,c,h1,by rw[vO];exact h2,h3,by rw[Ru h (by omega) (by omega)];exact h4⟩
end
theorem Qc{s low n:Nat}{v:AV}{H:Hp}{cs:List AV}(h:u7 s low v H n cs):jP v=some (n:Int):=by
 rcases h with⟨rfl,_,rfl⟩|⟨_,b,_,_,rfl,_⟩<;>rfl
theorem Rj(q:Rat):(xd q.num==0)=decide (q=0):=by
 by_cases h:q=0
 ·subst h;rfl
 ·have:q.num≠0:=fun e=>h (Rat.num_eq_zero.1 e)
  rw[cH h];unfold xd;rw[if_neg this]
  split<;>rfl
theorem An(q:Rat):(xd q.num !=0)=!decide (q=0):=by rw[bne,Rj]
theorem oH.at{vs:List AV}{rows:List (List Rat)}{w i k:Nat}(h:oH vs rows w)(hi:i<rows.length)(hk:k<w):∃cs n m n' m',vs.getD i aX=.aJ cs w/\iZ cs (row rows i)/\iR true 4 cs (k*4)=some (.agg [.bool n,m,.bool n',m'])/\cX (.agg [.bool n,m,.bool n',m']) (dW rows i k):=by obtain⟨⟨cs,e,rc⟩,hl⟩:=h.2 i hi;obtain⟨n,m,n',m',e2,r⟩:=rc.get (i:=k) (by omega);have p:=ju (cs:=cs) (o:=k*4) (by have:=rc.len;omega);rw[e2]at p;rw[hl]at e;exact⟨cs,n,m,n',m',e,rc,p,r⟩
theorem IY{H:Hp}{b m s:Nat}{y z x' y' z':AV}{bx RC bz:List Nat}(hx:fz H 39 (.aI b 0 m s m)=some (x',bx))(hy:fz H 39 y=some (y',RC))(hz:fz H 39 z=some (z',bz)):oG false H [.tuple [.aI b 0 m s m,y,z]]=some ([.tuple [x',y',z']],bx++(RC++bz)):=by
 rw[kV];have h4:fz H 40 (.tuple [.aI b 0 m s m,y,z])=some (.tuple [x',y',z'],bx++(RC++bz)):=by unfold fz;simp only;unfold dh;rw[hx];unfold dh;rw[hy];unfold dh;rw[hz];unfold dh;simp only[Option.map_some,List.map_cons,List.map_nil,List.flatMap_cons,List.flatMap_nil,List.append_nil]
 unfold bW;rw[show bE [AV.tuple [.aI b 0 m s m,y,z]]=false by simp[bE,aN]];simp only[Bool.false_eq_true,if_false];unfold dh;rw[h4];unfold dh
 simp
theorem oH.flat{vs:List AV}{rows:List (List Rat)}{w:Nat}(h:oH vs rows w):∀v∈vs,Flat v:=by
 intro v hv;obtain⟨i,hi,e⟩:=aVB hv;obtain⟨⟨cs,e2,-⟩,-⟩:=h.2 i (by rw[<-h.1];exact hi);rw[aSW,aMh hi,aNt,e]at e2;rw[e2];exact fun _ _=>rfl
structure afR(eZ:List (List Rat))(w K:Nat)(r:AV):Prop where
 ex:∃o p d k rows fq vs,r=.tuple [o,p,d]/\Dr eZ k rows fq/\k<=w/\(k=w∨fq.length=rows.length)/\rows.length=eZ.length/\oH vs rows w/\mR (5^w*K) rows/\o=.aJ vs eZ.length/\fq.length<=rows.length/\((fq=[]/\p=.aH)∨p=.aJ (fq.map fun k:Nat=>.int .i64 (k:Int)) fq.length)/\∃q,cX d q
theorem Gh{ZA:List AV}{eZ:List (List Rat)}{w K:Nat}(Ev:oH ZA eZ w)(C6:mR K eZ)(hK:0<K)(hw:0<w)(hR:0<eZ.length)(hR2:eZ.length<=256)(wN:w<=96)(yn:5^w*K<=10000000000):
  ∃r,aO E 170 [.aJ ZA eZ.length,.int .i64 (w:Int)]=some r/\afR eZ w K r:=by
 obtain⟨o,ho,io⟩:=jJ (E:=E) (n:=1) (by omega) (by omega);obtain⟨on0,om0,on1,om1,_,_,rfl,-,-,-,-⟩:=bR io;have OM:=aU _ io;have hvl:=Ev.1;have aoY:ZA.all b7=true:=by
  refine List.all_eq_true.2 fun v hv=>?_
  obtain⟨i,hi,e⟩:=aVB hv;obtain⟨⟨cs,e2,-⟩,-⟩:=Ev.2 i (by omega);rw[aSW,aMh hi,aNt,e]at e2;rw[e2];rfl
 have iE:=Ku (E:=E) (H:=[.cells .live [.bool false,.aH,.bool false,.aH]]) (cs:=ZA) (n:=eZ.length) (by omega) aoY hR (by omega);simp only[aMn,aP3,aMg,ah,List.cons_append,List.nil_append]at iE;obtain⟨R,hRe⟩:∃R,R=eZ.length:=⟨_,rfl⟩;rw[<-hRe]at iE⊢;refine tS am9 ?_;intro ts hl g0 g1;have T:=jf C.toOver;unfold alT;simp only[↓aQ,aR,↓aT,aK,↓reduceIte,aa,ah,ae,Tryz.f170,hl,g0,iE,ho,OM];refine fh (fun k_ ts H=>∃k rows fq vs pv H0 CJ CH CK CI det,k_=w-k/\ts.length=142/\gt ts 1=.int .i64 (w:Int)/\gt ts 6=.b6 0 0/\gt ts 7=.aI 2 0 R 1 R/\gt ts 8=pv/\gt ts 9=.b6 3 0/\gt ts 10=.int .i64 (k:Int)/\H=HS H0 (.cells .live vs) (.cells .live [.bool CJ,CH,.bool CK,CI])/\(k<=w)/\(Dr eZ k rows fq)/\(rows.length=R)/\(fq.length<=R)/\(oH vs rows w)/\(mR (5^k*K) rows)/\(cX (.agg [.bool CJ,CH,.bool CK,CI]) det)/\(Bq (5^k*K) det)/\(4<=H0.length)/\(H0[0]?=some (.cells .live [.bool false,.aH,.bool false,.aH]))/\(u7 1 4 pv H0 fq.length (fq.map fun k:Nat=>.int .i64 (k:Int)))) (w) ?_ ?_
 rotate_left
 ·refine⟨0,eZ,[],ZA,.aH,[.cells .live [.bool false,.aH,.bool false,.aH],.cells .dead [],.cells .live ZA,.cells .live [.bool on0,om0,.bool on1,om1]],on0,om0,on1,om1,(1:Rat),(by first|omega|rfl|(simp;done)),(by simp only[cK,hl]),?_⟩;simp only[cM,hl,aa,ae,g1]
  iterate 7 refine⟨by first|trivial|rfl|(congr 1;omega)|(simp;done)|(simp;omega),?_⟩
  refine⟨?_,?_,?_,?_,?_,?_,?_,?_,?_,?_,?_⟩
  ·omega
  ·exact .start
  ·exact hRe.symm
  ·simp
  ·exact Ev
  ·simpa using C6
  ·exact io
  ·refine Bq.mono (k:=1) ⟨by decide,by decide⟩ ?_;rw[Nat.pow_zero,Nat.one_mul];exact hK
  ·simp
  ·rfl
  ·exact .inl ⟨rfl,rfl,rfl⟩
 clear hl g0 g1 ts;rintro k_ ts H ⟨k,rows,fq,vs,pv,H0,CJ,CH,CK,CI,det,rfl,hl,g1,g6,g7,g8,g9,g10,rfl,hk,K6,hlen,uy,hm,hb,KW,B7,h4,AD,lJ⟩;refine VS ?_;have hB:5^k*K<=10000000000:=Nat.le_trans (aL8 _ (aRX (by omega) hk)) yn;have hB0:0<5^k*K:=Nat.mul_pos (Nat.pow_pos (by omega)) hK;have aeV:5^k*K<=5^(k+1)*K:=aL8 _ (aRX (by omega) (by omega));have ah0:5^(k+1)*K=5*(5^k*K):=by rw[Nat.pow_succ,Nat.mul_comm (5^k) 5,Nat.mul_assoc]
 have hpv:=Qc lJ;have DM:=aU _ KW;by_cases hkw:k<w
 rotate_left
 ·have dk:decide ((k:Int)<(w:Int))=false:=cH (by omega);have abl:vs.length=R:=by rw[hm.1,hlen]
  have Sj:mY 4 [.bool CJ,CH,.bool CK,CI] (HS H0 (.cells .live vs) (.cells .live [.bool CJ,CH,.bool CK,CI])) 0 0=some (.cells .live [.bool CJ,CH,.bool CK,CI]):=by rw[kR,Ru h4 (by omega) (by omega),AD];simp[qp,DM.2.1,DM.2.2.2,dE]
  obtain⟨HX,hHX⟩:∃HX,dP (HS H0 (.cells .live vs) (.cells .live [.bool CJ,CH,.bool CK,CI])) 0 (.cells .live [.bool CJ,CH,.bool CK,CI])=HX:=⟨_,rfl⟩;have hX:=hHX;rw[eY (by rw[vO];omega)]at hX;have Zn:HX[0]?=some (.cells .live [.bool CJ,CH,.bool CK,CI]):=by rw[<-hX,aOc (by rw[vO];omega)]
  have hX2:HX[2]?=some (.cells .live vs):=by rw[<-hX,aN9 (by omega),Ul h4]
  have hag:nZ 4 HX 0 0=some (.agg [.bool CJ,CH,.bool CK,CI]):=by rw[mE,Zn];rfl
  have MY:=kD (n:=38) (off:=0) (len:=R) (esz:=1) (k:=R) hX2 (by decide) (by omega) (by rw[aQh,aQq,<-abl,aR7];exact fj hm.flat);rw[gn,dH]at MY;have hf3:=flat_agg (H:=HX) (n:=37) (rn KW);obtain⟨p,bp,R7,Sg⟩:∃p bp,fz HX 39 pv=some (p,bp)/\((fq=[]/\p=.aH)∨p=.aJ (fq.map fun k:Nat=>.int .i64 (k:Int)) fq.length):=by
   rcases lJ with⟨e1,_,e3⟩|⟨h0,c,h1,h2,e3,h5⟩
   ·subst e3;exact⟨_,_,rfl,.inl ⟨aVC e1,rfl⟩⟩
   ·have h6:HX[c]?=some (.cells .live (fq.map fun k:Nat=>.int .i64 (k:Int))):=by rw[<-hX,aN9 (by omega),Ru h4 (by omega) (by omega)];exact h5
    have hf:=kD (n:=38) (off:=0) (len:=fq.length) (esz:=1) (k:=fq.length) h6 (by decide) (by simp) (by rw[aQh,aQq,aP6 (by simp)];exact fj (by
     intro v hv;obtain⟨q,_,rfl⟩:=List.mem_map.1 hv;exact fun _ _=>rfl))
    rw[gn,dH]at hf;rw[e3];exact⟨_,_,hf,.inr rfl⟩
  have gf:=IY MY R7 hf3;simp only[↓aQ,aR,aK,↓reduceIte,aa,ah,ae,hl,g1,g6,g7,g8,g9,g10,dk,Io h4,Sj,hHX,hag,gf,DM];exact⟨_,p,_,k,rows,fq,vs,rfl,K6,hk,.inl (by omega),by rw[hlen,hRe],hm,fun j hj q hq=>(hb j hj q hq).mono (aL8 _ (aRX (by omega) hk)),by rw[<-hRe],by rw[hlen];exact uy,Sg,_,KW⟩
 have dk:decide ((k:Int)<(w:Int))=true:=cF (by omega);by_cases hpR:fq.length<R
 rotate_left
 ·have dp:decide ((fq.length:Int)<(R:Int))=false:=cH (by omega);have abl:vs.length=R:=by rw[hm.1,hlen]
  have Sj:mY 4 [.bool CJ,CH,.bool CK,CI] (HS H0 (.cells .live vs) (.cells .live [.bool CJ,CH,.bool CK,CI])) 0 0=some (.cells .live [.bool CJ,CH,.bool CK,CI]):=by rw[kR,Ru h4 (by omega) (by omega),AD];simp[qp,DM.2.1,DM.2.2.2,dE]
  obtain⟨HX,hHX⟩:∃HX,dP (HS H0 (.cells .live vs) (.cells .live [.bool CJ,CH,.bool CK,CI])) 0 (.cells .live [.bool CJ,CH,.bool CK,CI])=HX:=⟨_,rfl⟩;have hX:=hHX;rw[eY (by rw[vO];omega)]at hX;have Zn:HX[0]?=some (.cells .live [.bool CJ,CH,.bool CK,CI]):=by rw[<-hX,aOc (by rw[vO];omega)]
  have hX2:HX[2]?=some (.cells .live vs):=by rw[<-hX,aN9 (by omega),Ul h4]
  have hag:nZ 4 HX 0 0=some (.agg [.bool CJ,CH,.bool CK,CI]):=by rw[mE,Zn];rfl
  have MY:=kD (n:=38) (off:=0) (len:=R) (esz:=1) (k:=R) hX2 (by decide) (by omega) (by rw[aQh,aQq,<-abl,aR7];exact fj hm.flat);rw[gn,dH]at MY;have hf3:=flat_agg (H:=HX) (n:=37) (rn KW);obtain⟨p,bp,R7,Sg⟩:∃p bp,fz HX 39 pv=some (p,bp)/\((fq=[]/\p=.aH)∨p=.aJ (fq.map fun k:Nat=>.int .i64 (k:Int)) fq.length):=by
   rcases lJ with⟨e1,_,e3⟩|⟨h0,c,h1,h2,e3,h5⟩
   ·subst e3;exact⟨_,_,rfl,.inl ⟨aVC e1,rfl⟩⟩
   ·have h6:HX[c]?=some (.cells .live (fq.map fun k:Nat=>.int .i64 (k:Int))):=by rw[<-hX,aN9 (by omega),Ru h4 (by omega) (by omega)];exact h5
    have hf:=kD (n:=38) (off:=0) (len:=fq.length) (esz:=1) (k:=fq.length) h6 (by decide) (by simp) (by rw[aQh,aQq,aP6 (by simp)];exact fj (by
     intro v hv;obtain⟨q,_,rfl⟩:=List.mem_map.1 hv;exact fun _ _=>rfl))
    rw[gn,dH]at hf;rw[e3];exact⟨_,_,hf,.inr rfl⟩
  have gf:=IY MY R7 hf3;simp only[↓aQ,aR,aK,↓reduceIte,aa,ah,ae,hl,g1,g6,g7,g8,g9,g10,dk,dp,hpv,Io h4,Sj,hHX,hag,gf,DM];exact⟨_,p,_,k,rows,fq,vs,rfl,K6,hk,.inr (by omega),by rw[hlen,hRe],hm,fun j hj q hq=>(hb j hj q hq).mono (aL8 _ (aRX (by omega) hk)),by rw[<-hRe],by rw[hlen];exact uy,Sg,_,KW⟩
 have dp:decide ((fq.length:Int)<(R:Int))=true:=cF (by omega);simp only[↓aQ,aR,aK,aa,ae,hl,g1,g7,g8,g10,dk,dp,hpv];refine fh (fun k_ ts H=>∃i,k_=R-i/\ts.length=142/\gt ts 1=.int .i64 (w:Int)/\gt ts 6=.b6 0 0/\gt ts 7=.aI 2 0 R 1 R/\gt ts 8=pv/\gt ts 9=.b6 3 0/\gt ts 10=.int .i64 (k:Int)/\gt ts 11=.int .i64 (fq.length:Int)/\gt ts 12=.int .i64 (i:Int)/\H=HS H0 (.cells .live vs) (.cells .live [.bool CJ,CH,.bool CK,CI])/\(fq.length<=i)/\(i<=R)/\(∀j,fq.length<=j->j<i->dW rows j k=0)) (R-fq.length) ?_ ?_
 rotate_left
 ·refine⟨fq.length,(by first|omega|rfl|(simp;done)),(by simp only[cK,hl]),?_⟩;simp only[cM,hl,aa,ae,g1,g6,g7,g8,g9,g10]
  iterate 9 refine⟨by first|trivial|rfl|(congr 1;omega)|(simp;done)|(simp;omega),?_⟩
  refine⟨?_,?_,?_⟩
  ·omega
  ·omega
  ·intro j h1 h2;omega
 clear hl g1 g6 g7 g8 g9 g10 ts;rintro k_ ts H ⟨i,rfl,hl,g1,g6,g7,g8,g9,g10,g11,g12,rfl,hi,hiR,hz⟩;refine VS ?_;have abl:vs.length=R:=by rw[hm.1,hlen]
 by_cases hiL:i<R
 rotate_left
 ·have di:decide ((i:Int)<(R:Int))=false:=cH (by omega);obtain rfl:i=R:=by omega
  have die:((i:Int)==(i:Int))=true:=beq_self_eq_true _;have w1:aV .i64 ((k:Int)+1)=((k+1:Nat):Int):=by rw[wrap_i64 (by omega) (by omega)];omega
  simp only[↓aQ,aR,aK,↓reduceIte,aa,ae,hl,g7,g10,g12,di,w1];refine dO ?_;refine⟨_,?_,k+1,rows,fq,vs,pv,H0,CJ,CH,CK,CI,det,rfl,(by simp only[cK,hl]),?_⟩
  ·first|omega|(simp;omega)
  simp only[cM,hl,aa,ae,g1,g6,g7,g8,g9]
  iterate 7 refine⟨by first|trivial|rfl|(congr 1;omega)|(simp;done)|(simp;omega),?_⟩
  refine⟨?_,?_,?_,?_,?_,?_,?_,?_,?_,?_,?_⟩
  ·omega
  ·exact .skip K6 (by omega) (fun j h1 h2=>hz j h1 (by omega))
  ·exact hlen
  ·exact uy
  ·exact hm
  ·exact fun j hj q hq=>(hb j hj q hq).mono aeV
  ·exact KW
  ·exact B7.mono aeV
  ·exact h4
  ·exact AD
  ·exact lJ
 have di:decide ((i:Int)<(R:Int))=true:=cF (by omega);have di':((i:Int)<(R:Int))=True:=eq_true (by omega);have dk':((k:Int)<(w:Int))=True:=eq_true (by omega);obtain⟨ci,n1,m1,n2,m2,evi,rci,pi1,ri⟩:=hm.at (i:=i) (k:=k) (by omega) hkw;have li:=y8 h4 (b:=.cells .live [.bool CJ,CH,.bool CK,CI]) (vs:=vs) (o:=i) (by omega);rw[evi]at li;have MI:=aU _ ri;have tE:=jh (E:=E) ri;have hsb:=Rj (dW rows i k);by_cases Zu:dW rows i k=0
 ·rw[cF Zu]at hsb;have w1:aV .i64 ((i:Int)+1)=((i+1:Nat):Int):=by rw[wrap_i64 (by omega) (by omega)];omega
  simp only[↓aQ,aR,↓aT,aK,↓reduceIte,aa,ae,hl,g7,g10,g12,di',dk',li,pi1,MI,tE,hsb,w1];refine dO ?_;refine⟨_,?_,i+1,rfl,(by simp only[cK,hl]),?_⟩
  ·first|omega|(simp;omega)
  simp only[cM,hl,aa,ae,g1,g6,g7,g8,g9,g10,g11]
  iterate 9 refine⟨by first|trivial|rfl|(congr 1;omega)|(simp;done)|(simp;omega),?_⟩
  refine⟨?_,?_,?_⟩
  ·omega
  ·omega
  ·intro j h1 h2;by_cases e:j=i
   ·rw[e];exact Zu
   ·exact hz j h1 (by omega)
 rw[cH Zu]at hsb;have amq:((i:Int)==(R:Int))=false:=by rw[beq_eq_false_iff_ne];omega
 obtain⟨r,hrd⟩:∃r,r=fq.length:=⟨_,rfl⟩;rw[<-hrd]at hpR hi hz g11 dp;have dr':((r:Int)<(R:Int))=True:=eq_true (by omega);have hpe:dW rows i k≠0:=Zu;have bpe:Bq (5^k*K) (dW rows i k):=(hb i (by omega)).get (by rw[(hm.2 i (by omega)).2];exact hkw);generalize ao4:dW rows i k=e at*;obtain⟨ng,hng,ing⟩:=ru (E:=E) KW;obtain⟨Kh,Kf,Ki,Kg,_,_,rfl,-,-,-,-⟩:=bR ing;have AM:=aU _ ing;obtain⟨kH,kr,kI,ku,Z8,aoR,aoS,apH,at0⟩:∃kH kr kI ku Z8,(i=r->aO E 67 [.agg [.bool CJ,CH,.bool CK,CI],.agg [.bool n1,m1,.bool n2,m2]]=some (.agg [.bool kH,kr,.bool kI,ku]))/\(i≠r->aO E 67 [.agg [.bool Kh,Kf,.bool Ki,Kg],.agg [.bool n1,m1,.bool n2,m2]]=some (.agg [.bool kH,kr,.bool kI,ku]))/\cX (.agg [.bool kH,kr,.bool kI,ku]) Z8/\Bq (5^(k+1)*K) Z8:=by
  by_cases Da:i=r
  ·obtain⟨x,hx,ix⟩:=gv (E:=E) KW ri B7 bpe (by omega);obtain⟨kH,kr,kI,ku,_,_,rfl,-,-,-,-⟩:=bR ix;exact⟨_,_,_,_,_,fun _=>hx,fun h=>absurd Da h,ix,(B7.mul bpe).mono (by omega)⟩
  ·obtain⟨x,hx,ix⟩:=gv (E:=E) ing ri B7.neg bpe (by omega);obtain⟨kH,kr,kI,ku,_,_,rfl,-,-,-,-⟩:=bR ix;exact⟨_,_,_,_,_,fun h=>absurd h Da,fun _=>hx,ix,(B7.neg.mul bpe).mono (by omega)⟩
 have XM:=aU _ apH;obtain⟨cr,_,_,_,_,evr,rcr,-,-⟩:=hm.at (i:=r) (k:=k) (by omega) hkw;have lr:=y8 h4 (b:=.cells .live [.bool CJ,CH,.bool CK,CI]) (vs:=vs) (o:=r) (by omega);rw[evr]at lr;obtain⟨FL,aim,ain⟩:∃FL,(i=r->FL=vs)/\(i≠r->FL=(vs.set i (.aJ cr w)).set r (.aJ ci w)):=by
  by_cases Da:i=r
  ·exact⟨vs,fun _=>rfl,fun h=>absurd Da h⟩
  ·exact⟨_,fun h=>absurd h Da,fun _=>rfl⟩
 obtain⟨rows',Uc⟩:∃rows',rows'=if i≠r then As rows i r else rows:=⟨_,rfl⟩
 have Wk:rows'.length=R:=by
  rw[Uc]
  split
  ·unfold As;rw[aPp,aPp];exact hlen
  ·exact hlen
 have kM:oH FL rows' w:=by
  rw[Uc];by_cases Da:i=r
  ·rw[if_neg (by simpa using Da),aim Da];exact hm
  ·rw[if_pos Da,ain Da]
   have:=hm.swap (i:=i) (r:=r) (by omega) (by omega)
   rw[evi,evr]at this;exact this
 have ux:mR (5^k*K) rows':=by
  rw[Uc]
  split
  ·exact(hb.set (by omega) (hb r (by omega))).set (by rw[aPp];omega) (hb i (by omega))
  ·exact hb
 have yJ:row rows' r=row rows i:=by
  rw[Uc];by_cases Da:i=r
  ·rw[if_neg (by simpa using Da),Da]
  ·rw[if_pos Da];unfold As;rw[pH (by rw[aPp];omega),if_pos rfl]
 have Ez:FL.getD r aX=.aJ ci w:=by
  by_cases Da:i=r
  ·rw[aim Da,<-Da];exact evi
  ·rw[ain Da,GX (by rw[aPp];omega),if_pos rfl]
 have aCw:FL.length=R:=by rw[kM.1,Wk]
 have hRr:gy (.aJ ci w) (row rows i):=by
  have:=(hm.2 i (by omega)).1
  rwa[evi]at this
 have hwl:(row rows i).length=w:=(hm.2 i (by omega)).2;obtain⟨ov,mG,iov⟩:=SY (E:=E) hRr ri (hb i (by omega)) bpe (by omega) (by omega) hpe;have hzl:(aU3 (fun x _=>x/e) (row rows i) (row rows i)).length=w:=by rw[aU6,hwl,Nat.min_self]
 obtain⟨co,C7,rco⟩:=id iov;rw[hzl]at C7;subst C7;have QK:fQ rows' r k=rows'.set r (aU3 (fun x _=>x/e) (row rows i) (row rows i)):=by
  unfold fQ dW;rw[yJ]
  have:(row rows i).getD k 0=e:=ao4
  rw[this]
 have hmn:oH (FL.set r (.aJ co w)) (fQ rows' r k) w:=by rw[QK];exact kM.set (by omega) iov hzl
 have lv:∀b,cellAt (HS H0 (.cells .live FL) b) 2 r=some (.aJ ci w):=fun b=>by
  have:=y8 h4 (b:=b) (vs:=FL) (o:=r) (by omega)
  rwa[Ez]at this
 have stc:∀b,mY 1 [.aJ co w] (HS H0 (.cells .live FL) b) 2 r=some (.cells .live (FL.set r (.aJ co w))):=fun b=>Ip h4 (by omega) rfl
 have hnr:row (fQ rows' r k) r=aU3 (fun x _=>x/e) (row rows i) (row rows i):=by rw[QK,pH (by omega),if_pos rfl]
 have awB:BL (2*(5^k*K)) (row (fQ rows' r k) r):=by rw[hnr];intro q hq;obtain⟨m,xN,FG⟩:=aVB hq;rw[aVE]at FG;rw[<-FG];exact((hb i (by omega) _ (aMo _)).div bpe hpe).mono (by omega)
 have awA:∀m,m<R->m≠r->BL (5^k*K) (row (fQ rows' r k) m):=by intro m h1 h2;rw[QK,pH (by omega),if_neg (fun h=>h2 h.symm)];exact ux m (by omega)
 have AA:(fQ rows' r k).length=R:=by rw[QK,aPp];exact Wk
 have bsI:∀aM,aW E aM 91 1 [(0,.int .i64 (k:Int))]=some (.aI aM 0 1 1 1,[(aM,.cells .live [.int .i64 (k:Int)])]):=fun aM=>gE ac1 rfl (by decide) (by decide) rfl
 have IF:∀l n,AV.cells (.aJ l n)=[.aJ l n]:=fun _ _=>rfl
 by_cases Da:i=r
 case' pos=>
  have dM:((i:Int)!=(r:Int))=false:=by rw[Da];simp
  have hmul:=aoR Da;rw[<-aim Da]at li⊢;simp only[↓aQ,aR,↓aT,aK,↓reduceIte,aa,ah,ae,hl,g7,g9,g10,g11,g12,di',dk',dr',li,pi1,MI,tE,hsb,amq,dM,lv,stc,IF,Io h4,Um h4,adQ h4,Nf h4 XM.2.1 XM.2.2.2,hmul,DM,mG]
 case' neg=>
  have dM:((i:Int)!=(r:Int))=true:=by rw[bne_iff_ne];omega
  have hmul:=aoS Da;have sta:∀b,mY 1 [.aJ cr w] (HS H0 (.cells .live vs) b) 2 i=some (.cells .live (vs.set i (.aJ cr w))):=fun b=>Ip h4 (by omega) rfl
  have stb:∀b,mY 1 [.aJ ci w] (HS H0 (.cells .live (vs.set i (.aJ cr w))) b) 2 r=some (.cells .live ((vs.set i (.aJ cr w)).set r (.aJ ci w))):=fun b=>Ip h4 (by rw[aPp];omega) rfl
  simp only[↓aQ,aR,↓aT,aK,↓reduceIte,aa,ah,ae,hl,g7,g9,g10,g11,g12,di',dk',dr',li,lr,sta,stb,(ain Da).symm,pi1,MI,tE,hsb,amq,dM,lv,stc,IF,Io h4,Um h4,adQ h4,Nf h4 XM.2.1 XM.2.2.2,Nf h4 AM.2.1 AM.2.2.2,hng,hmul,DM,AM,mG]
 all_goals
  refine fh (fun k_ ts H=>∃j Rq,k_=R-j/\ts.length=142/\gt ts 1=.int .i64 (w:Int)/\gt ts 6=.b6 0 0/\gt ts 7=.aI 2 0 R 1 R/\gt ts 8=pv/\gt ts 9=.b6 3 0/\gt ts 10=.int .i64 (k:Int)/\gt ts 11=.int .i64 (r:Int)/\gt ts 97=.int .i64 (R:Int)/\gt ts 98=.int .i64 (j:Int)/\H=HS H0 (.cells .live Rq) (.cells .live [.bool kH,kr,.bool kI,ku])/\(j<=R)/\(oH Rq (eW (fQ rows' r k) r k j) w)/\(BL (2*(5^k*K)) (row (eW (fQ rows' r k) r k j) r))/\(∀m,m<R->m<j->BL (5*(5^k*K)) (row (eW (fQ rows' r k) r k j) m))/\(∀m,m<R->j<=m->m≠r->BL (5^k*K) (row (eW (fQ rows' r k) r k j) m))) (R) ?_ ?_
  rotate_left
  ·refine⟨0,FL.set r (.aJ co w),(by first|omega|rfl|(simp;done)),(by simp only[cK,hl]),?_⟩;simp only[cM,hl,aa,ae,g1,g6,g7,g8,g9,g10,g11]
   iterate 10 refine⟨by first|trivial|rfl|(congr 1;omega)|(simp;done)|(simp;omega),?_⟩
   refine⟨?_,?_,?_,?_,?_⟩
   ·omega
   ·exact hmn
   ·exact awB
   ·intro m h1 h2;omega
   ·intro m h1 h2 h3;exact awA m h1 h3
  clear hl g1 g6 g7 g8 g9 g10 g11 g12 ts;rintro k_ ts H ⟨j,Rq,rfl,hl,g1,g6,g7,g8,g9,g10,g11,g97,g98,rfl,hjR,Wn,Wb,hbd,GZ⟩;refine VS ?_;have hlj:(eW (fQ rows' r k) r k j).length=R:=by rw[qX,AA]
  have hvj:Rq.length=R:=by rw[Wn.1,hlj]
  by_cases hjL:j<R
  ·have dj:decide ((j:Int)<(R:Int))=true:=cF (by omega);have dj':((j:Int)<(R:Int))=True:=eq_true (by omega);have w1:aV .i64 ((j:Int)+1)=((j+1:Nat):Int):=by rw[wrap_i64 (by omega) (by omega)];omega
   by_cases R9:j=r
   ·have hjn:((j:Int)!=(r:Int))=false:=by rw[R9];simp
    have A9:eW (fQ rows' r k) r k (j+1)=eW (fQ rows' r k) r k j:=by rw[eW,if_neg (fun h=>h.1 R9)]
    simp only[↓aQ,aR,aa,ae,hl,g11,g97,g98,dj',hjn,w1];refine dO ?_;refine⟨_,?_,j+1,Rq,rfl,(by simp only[cK,hl]),?_⟩
    ·first|omega|(simp;omega)
    simp only[cM,hl,aa,ae,g1,g6,g7,g8,g9,g10,g11,g97]
    iterate 10 refine⟨by first|trivial|rfl|(congr 1;omega)|(simp;done)|(simp;omega),?_⟩
    refine⟨?_,?_,?_,?_,?_⟩
    ·omega
    ·rw[A9];exact Wn
    ·rw[A9];exact Wb
    ·rw[A9];intro m h1 h2;by_cases e1:m=r
     ·rw[e1];exact fun q hq=>(Wb q hq).mono (by omega)
     ·exact hbd m h1 (by omega)
    ·rw[A9];intro m h1 h2 h3;exact GZ m h1 (by omega) h3
   ·have hjn:((j:Int)!=(r:Int))=true:=by rw[bne_iff_ne];omega
    obtain⟨cj,jn1,jm1,jn2,jm2,evj,rcj,pj,rj⟩:=Wn.at (i:=j) (k:=k) (by omega) hkw;obtain⟨cq,_,_,_,_,evq,rcq,-,-⟩:=Wn.at (i:=r) (k:=k) (by omega) hkw;have lj:=fun b=>y8 h4 (b:=b) (vs:=Rq) (o:=j) (by omega)
    have lq:=fun b=>y8 h4 (b:=b) (vs:=Rq) (o:=r) (by omega)
    rw[evj]at lj;rw[evq]at lq;have MJ:=aU _ rj;have apo:=jh (E:=E) rj;have abf:=An (dW (eW (fQ rows' r k) r k j) j k);have bj:=GZ j hjL (Nat.le_refl _) R9;have hRj:gy (.aJ cj w) (row (eW (fQ rows' r k) r k j) j):=by
     have:=(Wn.2 j (by omega)).1
     rwa[evj]at this
    have hRq:gy (.aJ cq w) (row (eW (fQ rows' r k) r k j) r):=by
     have:=(Wn.2 r (by omega)).1
     rwa[evq]at this
    have hwj:(row (eW (fQ rows' r k) r k j) j).length=w:=(Wn.2 j (by omega)).2;have hwq:(row (eW (fQ rows' r k) r k j) r).length=w:=(Wn.2 r (by omega)).2;by_cases hej:dW (eW (fQ rows' r k) r k j) j k=0
    ·rw[cF hej]at abf;have A9:eW (fQ rows' r k) r k (j+1)=eW (fQ rows' r k) r k j:=by rw[eW,if_neg (fun h=>h.2 hej)]
     simp only[↓aQ,aR,↓aT,aK,↓reduceIte,aa,ae,hl,g7,g10,g11,g97,g98,dj',dk',hjn,w1,lj,pj,MJ,apo,abf];refine dO ?_;refine⟨_,?_,j+1,Rq,rfl,(by simp only[cK,hl]),?_⟩
     ·first|omega|(simp;omega)
     simp only[cM,hl,aa,ae,g1,g6,g7,g8,g9,g10,g11,g97]
     iterate 10 refine⟨by first|trivial|rfl|(congr 1;omega)|(simp;done)|(simp;omega),?_⟩
     refine⟨?_,?_,?_,?_,?_⟩
     ·omega
     ·rw[A9];exact Wn
     ·rw[A9];exact Wb
     ·rw[A9];intro m h1 h2;by_cases e1:m=j
      ·rw[e1];exact fun q hq=>(bj q hq).mono (by omega)
      ·exact hbd m h1 (by omega)
     ·rw[A9];intro m h1 h2 h3;exact GZ m h1 (by omega) h3
    ·rw[cH hej]at abf;have be:Bq (5^k*K) (dW (eW (fQ rows' r k) r k j) j k):=bj.get (by omega);obtain⟨lv',zN,ilv⟩:=Sy (E:=E) (k:=2*(5^k*K)) hRj hRq rj (fun q hq=>(bj q hq).mono (by omega)) Wb be (by omega) (by omega) (by omega);have apG:(aU3 (fun x y=>x-dW (eW (fQ rows' r k) r k j) j k*y) (row (eW (fQ rows' r k) r k j) j) (row (eW (fQ rows' r k) r k j) r)).length=w:=by rw[aU6,hwj,hwq,Nat.min_self]
     obtain⟨cl,iE,rcl⟩:=id ilv;rw[apG]at iE;subst iE;have A9:eW (fQ rows' r k) r k (j+1)=(eW (fQ rows' r k) r k j).set j (aU3 (fun x y=>x-dW (eW (fQ rows' r k) r k j) j k*y) (row (eW (fQ rows' r k) r k j) j) (row (eW (fQ rows' r k) r k j) r)):=by rw[eW,if_pos ⟨R9,hej⟩]
     have stj:∀b,mY 1 [.aJ cl w] (HS H0 (.cells .live Rq) b) 2 j=some (.cells .live (Rq.set j (.aJ cl w))):=fun b=>Ip h4 (by omega) rfl
     simp only[↓aQ,aR,↓aT,aK,↓reduceIte,aa,ah,ae,hl,g7,g10,g11,g97,g98,dj',dk',dr',hjn,w1,lj,lq,pj,MJ,apo,abf,zN,stj,IF,Um h4];refine dO ?_;refine⟨_,?_,j+1,Rq.set j (.aJ cl w),rfl,(by simp only[cK,hl]),?_⟩
     ·first|omega|(simp;omega)
     simp only[cM,hl,aa,ae,g1,g6,g7,g8,g9,g10,g11,g97]
     iterate 10 refine⟨by first|trivial|rfl|(congr 1;omega)|(simp;done)|(simp;omega),?_⟩
     refine⟨?_,?_,?_,?_,?_⟩
     ·omega
     ·rw[A9];exact Wn.set (by omega) ilv apG
     ·rw[A9,pH (by omega),if_neg R9];exact Wb
     ·rw[A9];intro m h1 h2;rw[pH (by omega)];by_cases e1:j=m
      ·rw[if_pos e1];intro q hq;obtain⟨t,M6,J4⟩:=aVB hq;rw[aVE]at J4;rw[<-J4];exact((bj _ (aMo _)).sub (be.mul (Wb _ (aMo _)))).mono (by omega)
      ·rw[if_neg e1];by_cases e2:m=r
       ·rw[e2];exact fun q hq=>(Wb q hq).mono (by omega)
       ·exact hbd m h1 (by omega)
     ·rw[A9];intro m h1 h2 h3;rw[pH (by omega),if_neg (by omega)];exact GZ m h1 (by omega) h3
  ·have dj:decide ((j:Int)<(R:Int))=false:=cH (by omega);obtain rfl:j=R:=by omega
   have w1:aV .i64 ((k:Int)+1)=((k+1:Nat):Int):=by rw[wrap_i64 (by omega) (by omega)];omega
   obtain⟨v',bM,gT,vh,xM,B8⟩:=Iu (E:=E) (H:=HS H0 (.cells .live Rq) (.cells .live [.bool kH,kr,.bool kI,ku])) (x:=[.int .i64 (k:Int)]) ac1 (by decide) (ak6 h4 lJ) (by simp) rfl rfl (by unfold gq;omega) (by omega) (by rw[vO];exact h4);simp only[↓aQ,aR,↓reduceIte,aa,ae,hl,g8,g10,g97,g98,dj,w1,bsI,eO,gT];generalize cJ.app _ (cJ.bM bM)=H2 at vh xM B8⊢;have e2:H2=HS H2 (.cells .live Rq) (.cells .live [.bool kH,kr,.bool kI,ku]):=(ZF (by rw[xM 2 (by omega),Ul h4]) (by rw[xM 3 (by omega),afP h4])).symm;refine dO ?_;refine⟨_,?_,k+1,eW (fQ rows' r k) r k j,fq++[k],Rq,v',H2,kH,kr,kI,ku,Z8,rfl,(by simp only[cK,hl]),?_⟩
   ·first|omega|(simp;omega)
   simp only[cM,hl,aa,ae,g1,g6,g7,g9]
   iterate 7 refine⟨by first|trivial|rfl|(congr 1;omega)|(simp;done)|(simp;omega),?_⟩
   refine⟨?_,?_,?_,?_,?_,?_,?_,?_,?_,?_,?_⟩
   ·omega
   ·have hp:=Dr.Fe (eZ:=eZ) (i:=i) (rows':=rows') K6 (by omega) (by omega) (by rw[ao4];exact hpe) (fun m h1 h2=>hz m (by omega) h2) (by rw[Uc,hrd]);rw[<-hrd,hlen]at hp;exact hp
   ·exact hlj
   ·rw[aMk];simp;omega
   ·exact Wn
   ·rw[ah0];intro m xN;exact hbd m (by omega) (by omega)
   ·exact apH
   ·exact at0
   ·exact B8
   ·rw[xM 0 (by omega),Ru h4 (by omega) (by omega)];exact AD
   ·simpa using vh
theorem dL{vs:List AV}{i:Nat}(h:i<vs.length):iR false 1 vs i=some (vs.getD i aX):=by simp[iR,h,aSW]
theorem Tl{vs:List AV}{rows:List (List Rat)}{w:Nat}(hm:oH vs rows w)(hR:0<rows.length)(hR2:rows.length<=256)(wN:w<=96):aO E 169 [.aJ vs rows.length]=some (.int .i64 0):=by
 refine ep ?_;obtain⟨R,hRe⟩:∃R,R=rows.length:=⟨_,rfl⟩;rw[<-hRe]at hR hR2⊢;have hvl:vs.length=R:=by rw[hm.1,hRe]
 have dR:decide ((R:Int)>256)=false:=cH (by omega);refine mO am8 ?_;intro ts hl g0;unfold alS;simp only[↓aQ,aR,aK,aa,ae,Tryz.f169,hl,g0,dR];refine fh (fun k_ ts H=>∃i,k_=R-i/\ts.length=25/\gt ts 0=.aJ vs R/\gt ts 8=.aJ vs R/\gt ts 9=.int .i64 (R:Int)/\gt ts 10=.int .i64 (i:Int)/\H=[]/\(i<=R)) (R) ?_ ?_
 rotate_left
 ·refine⟨0,(by first|omega|rfl|(simp;done)),(by simp only[cK,hl]),?_⟩;simp only[cM,hl,aa,ae,g0]
  iterate 5 refine⟨by first|trivial|rfl|(congr 1;omega)|(simp;done)|(simp;omega),?_⟩
  ·omega
 clear hl g0 ts;rintro k_ ts H ⟨i,rfl,hl,g0,g8,g9,g10,rfl,hi⟩;refine VS ?_;by_cases hd:i<R
 ·have dc:decide ((i:Int)<(R:Int))=true:=cF (by omega);have c1:((i:Int)<(R:Int))=True:=eq_true (by omega);have c0:((0:Int)<(R:Int))=True:=eq_true (by omega);have w1:aV .i64 ((i:Int)+1)=((i+1:Nat):Int):=by rw[wrap_i64 (by omega) (by omega)];omega
  obtain⟨⟨ci,e1,-⟩,h1⟩:=hm.2 i (by omega);obtain⟨⟨c0',e2,-⟩,h2⟩:=hm.2 0 (by omega);have p1:=dL (vs:=vs) (i:=i) (by omega);have p2:=dL (vs:=vs) (i:=0) (by omega);rw[e1,h1]at p1;rw[e2,h2]at p2;have dw:decide ((w:Int)>96)=false:=cH (by omega);have dww:((w:Int)!=(w:Int))=false:=by simp
  simp only[↓aQ,aR,aK,↓reduceIte,aa,ae,an,aq,hl,g0,g8,g9,g10,c1,c0,w1,p1,p2,dw,dww];refine dO ?_;refine⟨_,?_,i+1,rfl,(by simp only[cK,hl]),?_⟩
  ·first|omega|(simp;omega)
  simp only[cM,hl,aa,ae,g0,g8,g9]
  iterate 5 refine⟨by first|trivial|rfl|(congr 1;omega)|(simp;done)|(simp;omega),?_⟩
  ·omega
 ·have dc:decide ((i:Int)<(R:Int))=false:=cH (by omega);simp only[↓aQ,aR,↓reduceIte,aa,hl,g9,g10,dc]
theorem IJ{vs:List AV}{rows:List (List Rat)}{w:Nat}(hm:oH vs rows w)(hR:0<rows.length)(hR2:rows.length<=256):aO E 171 [.aJ vs rows.length]=some (.int .i64 (w:Int)):=by
 refine ep ?_;have hvl:vs.length=rows.length:=hm.1;have c0:((0:Int)<(rows.length:Int))=True:=eq_true (by omega);have e0:((rows.length:Int)==0)=false:=by rw[beq_eq_false_iff_ne];omega
 obtain⟨⟨c0',e2,-⟩,h2⟩:=hm.2 0 (by omega);have p2:=dL (vs:=vs) (i:=0) (by omega);rw[e2,h2]at p2;refine mO ana ?_;intro ts hl g0;unfold alU;simp only[↓aQ,aR,aK,↓reduceIte,aa,ae,an,aq,Tryz.f171,hl,g0,c0,e0,p2]
theorem jR{E:Env}{t s rQ:Nat}{ag:Bool}{z x cs:List AV}{n:Nat}{v:AV}{H:Hp}(hS:eR E t=some (ag,s,rQ,z))(hs:0<s)(h:u7 s 0 v H n cs)(tg:cs.length=n*s)(hx:x.length=s)(hxo:x.all b7=true)(hr:(n+1)*rQ<=gq)(hn:n+1<=4611686018427387904):
  ∃bM H2,aZ E (H++[cG.cells iH.live x]) (H++[cG.cells iH.live x]).length .append [t,t] [v,.aI H.length 0 1 s 1]=some (.aI (H.length+1) 0 (n+1) s (n+1),bM)/\(cJ.bM bM).app (H++[cG.cells iH.live x])=H2/\H2[H.length+1]?=some (.cells .live (cs++x))/\H2.length=H.length+2/\(∀k,k<H.length->(∀m,v≠ .aI k 0 m s m)->H2[k]?=H[k]?):=by
 obtain⟨i,e,ei,h1,h2,h3,h4,h5,h6,h7⟩:=iB hS;obtain⟨cS,isAgg,size,bytes,zero,eQ⟩:=i;simp only at h2;subst h2 h5 h6;have hlen:(H++[cG.cells iH.live x]).length=H.length+1:=by simp
 have tY:vJ (H++[cG.cells iH.live x]) ei false (.aI H.length 0 1 ei.size 1)=some (1,x):=by
  have ht:List.take (1*ei.size) x=x:=by rw[Nat.one_mul,<-hx,aR7]
  simp[vJ,pV,sJ,kf,hx];rw[<-hx];simp
 have hb:aZ E (H++[cG.cells iH.live x]) (H++[cG.cells iH.live x]).length .append [t,t] [v,.aI H.length 0 1 ei.size 1]=fM E (H++[cG.cells iH.live x]) (H++[cG.cells iH.live x]).length false t v (.aI H.length 0 1 ei.size 1):=by simp[aZ,h1]
 rw[hb];unfold fM;simp only[h1,h3,tY];rw[if_neg (by omega),if_neg (by rw[hxo,h7];simp;omega)];rcases h with⟨rfl,rfl,rfl⟩|⟨Ew,b,sG,tz,rfl,zK⟩
 ·simp only;rw[if_pos ⟨by omega,by omega⟩,hlen];refine⟨_,_,rfl,rfl,?_,?_,?_⟩
  ·rw[cR,<-hlen,eO,List.nil_append];simp
  ·rw[cR,<-hlen,eO];simp
  ·intro k hk _;rw[cR,<-hlen,eO,List.append_assoc,aOB (by omega)]
 ·have hgb:(H++[cG.cells iH.live x])[b]?=some (.cells .live cs):=by rw[aOB tz];exact zK
  simp only[hgb];rw[if_neg (by omega),if_pos ⟨trivial,by omega,by omega,by omega⟩,hlen];have hpd:dP (H++[cG.cells iH.live x]) b (.cells .dead [])=(H++[cG.cells iH.live x]).set b (.cells .dead []):=eY (by rw[hlen];omega);have uy:((H++[cG.cells iH.live x]).set b (.cells .dead [])).length=H.length+1:=by simp
  refine⟨_,_,rfl,rfl,?_,?_,?_⟩
  ·rw[sK,hpd,<-uy,eO,aQh,<-tg,aR7];simp
  ·rw[sK,hpd,<-uy,eO];simp
  ·intro k hk qY;have Zq:b≠k:=by rintro rfl;exact qY n rfl
   rw[sK,hpd,<-uy,eO,aOB (by simp;omega),aN9 Zq,aOB (by omega)]
def BJ(H:Hp)(rows:List (List Rat))(w:Nat)(v:AV)(i:Nat):Prop:=(i=0/\v=.aH)∨(0<i/\∃b hs,v=.aI b 0 i 1 i/\b<H.length/\H[b]?=some (.cells .live hs)/\hs.length=i/\∀j,j<i->∃c cs,hs.getD j aX=.aI c 0 w 4 w/\c≠b/\c<H.length/\H[c]?=some (.cells .live cs)/\iZ cs (row rows j))
theorem BJ.sl{H:Hp}{rows:List (List Rat)}{w i:Nat}{v:AV}(h:BJ H rows w v i):∃hs,u7 1 0 v H i hs/\hs.length=i:=by
 rcases h with⟨rfl,rfl⟩|⟨h0,b,hs,e,h1,h2,h3,-⟩
 ·exact⟨[],.inl ⟨rfl,rfl,rfl⟩,rfl⟩
 ·exact⟨hs,.inr ⟨h0,b,Nat.zero_le _,h1,e,h2⟩,h3⟩
theorem xu{s low n:Nat}{v:AV}{H l:Hp}{cs:List AV}(h:u7 s low v H n cs):u7 s low v (H++l) n cs:=by
 rcases h with h|⟨h0,b,h1,h2,h3,h4⟩
 ·exact .inl h
 ·exact .inr ⟨h0,b,h1,by rw[aMk];omega,h3,by rw[aOB h2];exact h4⟩
theorem BJ.step{H H2:Hp}{rows:List (List Rat)}{w i:Nat}{v:AV}{cs:List AV}{hs:List AV}(h:BJ H rows w v i)(lJ:u7 1 0 v H i hs)(hi:hs.length=i)(yJ:iZ cs (row rows i))(h1:H2[H.length+3]?=some (.cells .live (hs++[.aI (H.length+1) 0 w 4 w])))(hl:H2.length=H.length+4)(hk:∀k,k<H.length+2->(∀m,v≠ .aI k 0 m 1 m)->H2[k]?=(H++[.cells .dead [],cG.cells iH.live cs])[k]?):BJ H2 rows w (.aI (H.length+3) 0 (i+1) 1 (i+1)) (i+1):=by
 refine .inr ⟨by omega,H.length+3,_,rfl,by omega,h1,by simp[hi],?_⟩;intro j hj;by_cases e:j=i
 ·subst e;refine⟨H.length+1,cs,?_,by omega,by omega,?_,yJ⟩
  ·rw[aSW,aUV (by omega),hi,Nat.sub_self];rfl
  ·rw[hk (H.length+1) (by omega)]
   ·rw[aUV (by omega)];simp
   ·intro m e2;rcases lJ with⟨-,-,e3⟩|⟨-,b,-,hb,e3,-⟩
    ·rw[e3]at e2;simp at e2
    ·rw[e3]at e2;simp at e2;omega
 ·rcases h with⟨h0,-⟩|⟨h0,b,vh,e1,h2,h3,h4,h5⟩
  ·omega
  ·obtain⟨c,tL,e2,hc,JZ,h6,h7⟩:=h5 j (by omega);have hss:hs=vh:=by
    rcases lJ with⟨h8,-,-⟩|⟨-,b',-,-,e3,h9⟩
    ·omega
    ·rw[e1]at e3;simp only[AV.aI.injEq,and_true]at e3;obtain rfl:=e3;rw[h3]at h9;simpa using h9.symm
   subst hss;refine⟨c,tL,?_,by omega,by omega,?_,h7⟩
   ·rw[aSW,aOB (by omega),<-aSW];exact e2
   ·rw[hk c (by omega)]
    ·rw[aOB JZ];exact h6
    ·intro m e3;rw[e1]at e3;simp at e3;exact hc e3.1.symm
theorem BJ.frz{H:Hp}{rows:List (List Rat)}{w i:Nat}{v:AV}(h:BJ H rows w v i)(hi:i<=rows.length)(hw:∀j,j<i->(row rows j).length=w):∃o bs,fz H 39 v=some (o,bs)/\((i=0/\o=.aH)∨(0<i/\∃vs,o=.aJ vs i/\oH vs (rows.take i) w)):=by
 rcases h with⟨h0,e⟩|⟨h0,b,hs,e1,h2,h3,h4,h5⟩
 ·subst e;exact⟨_,_,rfl,.inl ⟨h0,rfl⟩⟩
 ·have key:∀l:List AV,(∀x∈l,∃c cs,x=.aI c 0 w 4 w/\H[c]?=some (.cells .live cs)/\cs.length=w*4/\∀u∈cs,Flat u)->∃r,dh (fz H 38) l=some r/\r.length=l.length/\∀j,j<l.length->∃c cs,l.getD j aX=.aI c 0 w 4 w/\H[c]?=some (.cells .live cs)/\(r.map (·.1)).getD j aX=.aJ cs w:=by
   intro l;induction l with
   |nil=>intro _;exact⟨[],rfl,rfl,by simp⟩
   |cons x l ih=>
    intro hx;obtain⟨r,wJ,yp,Bb⟩:=ih fun y hy=>hx y (by simp[hy])
    obtain⟨c,cs,e,hc,iE,hf⟩:=hx x (by simp);have h6:=kD (n:=37) (off:=0) (len:=w) (esz:=4) (k:=w) hc (by decide) (by omega) (by rw[aQh,<-iE,aR7];exact fj hf);rw[gn,dH]at h6;subst e;refine⟨(.aJ cs w,[c])::r,?_,by simp[yp],?_⟩
    ·unfold dh;rw[h6,wJ]
    ·intro j hj;cases j with
     |zero=>exact⟨c,cs,rfl,hc,rfl⟩
     |succ j=>
      obtain⟨c',tL,a1,a2,a3⟩:=Bb j (by simpa using hj);exact⟨c',tL,by simpa using a1,a2,by simpa using a3⟩
  obtain⟨r,wJ,yp,Bb⟩:=key hs (by
   intro x hx;obtain⟨j,hj,e⟩:=aVB hx;obtain⟨c,cs,a1,-,-,a4,a5⟩:=h5 j (by omega);rw[aSW,aMh hj,aNt,e]at a1;exact⟨c,cs,a1,a4,by rw[a5.len,hw j (by omega)],a5.flat⟩)
  have h6:=kD (n:=38) (off:=0) (len:=i) (esz:=1) (k:=i) h3 (by decide) (by omega) (by rw[aQh,aQq,<-h4,aR7];exact wJ);subst e1;refine⟨_,_,h6,.inr ⟨h0,_,rfl,?_,?_⟩⟩
  ·rw[List.length_map,yp,h4,aMp];omega
  ·intro j hj;rw[aMp]at hj;have MZ:j<i:=by omega
   obtain⟨c,cs,a1,a2,a3⟩:=Bb j (by omega);obtain⟨c',tL,b1,-,-,b4,b5⟩:=h5 j MZ;rw[a1]at b1;simp only[AV.aI.injEq,and_true]at b1;obtain rfl:=b1;rw[a2]at b4;simp only[Option.some.injEq,cG.cells.injEq,true_and]at b4;subst b4;have hrt:row (rows.take i) j=row rows j:=by unfold row;rw[aSW,aK7,if_pos MZ,<-aSW]
   rw[hrt,a3];exact⟨⟨cs,by rw[hw j MZ],b5⟩,hw j MZ⟩
theorem X7{E:Env}{t s rQ:Nat}{ag:Bool}{z:List AV}(hS:eR E t=some (ag,s,rQ,z)){H:Hp}{cs:List AV}{n:Nat}{i:IntKind}:AE E H t (.aJ cs n) none (some (.int i 0))=some .ef:=by
 obtain⟨ti,e,ei,h1,h2,h3,h4,h5,_⟩:=iB hS;obtain⟨cS,isAgg,size,bytes,zero,eQ⟩:=ti;simp only at h2;subst h2 h5
 have:=Qe (n:=n) (k:=0) (i:=i) (by omega)
 simp only[Int.cast_ofNat_Int]at this;simp[AE,h1,iM,h3,show gG n n none (some (.int i 0))=some (0,0)from this]
structure AH(eZ:List (List Rat))(w K:Nat)(o p:AV):Prop where
 ex:∃k rows fq,Dr eZ k rows fq/\k<=w/\(k=w∨fq.length=rows.length)/\rows.length=eZ.length/\(∀i,i<rows.length->(row rows i).length=w)/\mR (5^w*K) rows/\fq.length<=rows.length/\((fq=[]/\p=.aH)∨p=.aJ (fq.map fun k:Nat=>.int .i64 (k:Int)) fq.length)/\((fq.length=0/\o=.aH)∨(0<fq.length/\∃vs,o=.aJ vs fq.length/\oH vs (rows.take fq.length) w))
theorem L4{ZA:List AV}{eZ:List (List Rat)}{w K:Nat}(Ev:oH ZA eZ w)(C6:mR K eZ)(hK:0<K)(hw:0<w)(hR:0<eZ.length)(hR2:eZ.length<=256)(wN:w<=96)(yn:5^w*K<=10000000000):
  ∃o p,aO E 139 [.aJ ZA eZ.length]=some (.tuple [o,p,.int .i64 0])/\AH eZ w K o p:=by
 suffices hh:∃u,aO E 139 [.aJ ZA eZ.length]=some u/\∃o p,u=.tuple [o,p,.int .i64 0]/\AH eZ w K o p by
  obtain⟨u,h1,o,p,rfl,h2⟩:=hh;exact⟨o,p,h1,h2⟩
 have yf:=Tl (E:=E) Ev hR hR2 wN;have C7:=IJ (E:=E) Ev hR hR2;obtain⟨u,K6,⟨o,p,d,k,rows,fq,vs,rfl,hS,hk,K8,hlen,hm,hb,rfl,uy,hp,dq,Wg⟩⟩:=Gh (E:=E) Ev C6 hK hw hR hR2 wN yn;obtain⟨CJ,CH,CK,CI,_,_,rfl,-,-,-,-⟩:=bR Wg;have DM:=aU _ Wg;have hwr:∀i,i<rows.length->(row rows i).length=w:=fun i hi=>(hm.2 i hi).2
 have Et:jP p=some (fq.length:Int):=by
  rcases hp with⟨rfl,rfl⟩|rfl<;>rfl
 have pp:aN p=true:=by
  rcases hp with⟨rfl,rfl⟩|rfl<;>rfl
 have hvl:vs.length=rows.length:=hm.1;obtain⟨sv,vL,aoI,uL⟩:∃sv,(∀H,AE E H 216 (.aJ vs eZ.length) none (some (.int .i64 (fq.length:Int)))=some sv)/\jP sv=some (fq.length:Int)/\∀i,i<fq.length->cI E 216 sv (.int .i64 (i:Int))=some (.eU (vs.take fq.length) i):=by
  by_cases h0:fq.length=0
  ·refine⟨.ef,fun H=>?_,by rw[h0];rfl,fun i hi=>by omega⟩;rw[h0];exact X7 (E:=E) xb
  ·have h1:=fun H=>X6 (E:=E) xb (H:=H) (cs:=vs) (n:=eZ.length) (k:=fq.length) (i:=.i64) (by omega) (by omega)
   rw[aQq]at h1;refine⟨_,h1,rfl,fun i hi=>?_⟩;rw[ac5,if_pos ⟨by omega,by omega⟩,Int.toNat_natCast,aQq]
 obtain⟨P,hP⟩:∃P,P=fq.length:=⟨_,rfl⟩;rw[<-hP]at Et vL aoI uL;refine mO amY ?_;intro ts hl g0;have T:=jf C.toOver;unfold alO;simp only[↓aQ,aR,↓aT,aK,↓reduceIte,aa,ah,ae,Tryz.f139,aE,hl,g0,yf,C7,K6,DM,Et,vL,aoI];refine fh (fun k_ ts H=>∃i v HH,k_=P-i/\ts.length=41/\gt ts 3=p/\gt ts 8=v/\gt ts 27=sv/\gt ts 28=.int .i64 (P:Int)/\gt ts 29=.int .i64 (i:Int)/\H=HH/\(i<=P)/\(BJ HH rows w v i)) (P) ?_ ?_
 rotate_left
 ·refine⟨0,.aH,[.cells .live [.bool CJ,CH,.bool CK,CI]],(by first|omega|rfl|(simp;done)),(by simp only[cK,hl]),?_⟩;simp only[cM,hl,aa,ae]
  iterate 6 refine⟨by first|trivial|rfl|(congr 1;omega)|(simp;done)|(simp;omega),?_⟩
  refine⟨?_,?_⟩
  ·omega
  ·exact .inl ⟨rfl,rfl⟩
 clear hl g0 ts;rintro k_ ts H ⟨i,v,HH,rfl,hl,g3,g8,g27,TX,g29,rfl,hi,hh⟩;refine VS ?_;by_cases hd:i<P
 ·have dc:decide ((i:Int)<(P:Int))=true:=cF (by omega);have w1:aV .i64 ((i:Int)+1)=((i+1:Nat):Int):=by rw[wrap_i64 (by omega) (by omega)];omega
  have hg:=uL i hd;obtain⟨⟨cs,e1,rc⟩,h1⟩:=hm.2 i (by omega);rw[h1]at e1;have hpn:=dL (vs:=vs.take P) (i:=i) (by rw[aMp];omega);have Sl:(vs.take P).getD i aX=vs.getD i aX:=by rw[aSW,aK7,if_pos hd,<-aSW]
  rw[Sl,e1]at hpn;have iE:=Kv (E:=E) (H:=H) (cs:=cs) (n:=w) (by rw[rc.len,h1]) rc.one hw (by omega);obtain⟨hs,lJ,R8⟩:=hh.sl;obtain⟨bM,H2,gT,uJ,q1,q2,q3⟩:=jR (E:=E) (H:=H++[.cells .dead [],.cells .live cs]) (x:=[.aI (H.length+1) 0 w 4 w]) xb (by decide) (xu (l:=[.cells .dead [],.cells .live cs]) lJ) (by omega) rfl rfl (by unfold gq;omega) (by omega);have Wm:(H++[cG.cells iH.dead [],.cells .live cs]).length=H.length+2:=by simp
  have pS:∀aM,aW E aM 216 1 [(0,.aI (H.length+1) 0 w 4 w)]=some (.aI aM 0 1 1 1,[(aM,.cells .live [.aI (H.length+1) 0 w 4 w])]):=fun aM=>gE xb rfl (by decide) (by decide) rfl
  simp only[↓aQ,aR,↓aT,aK,aa,ae,hl,g8,g27,TX,g29,dc,w1,hg,hpn,iE,pS,eO,gT,uJ];rw[Wm]at q1 q2 q3⊢;refine dO ?_;refine⟨_,?_,i+1,(.aI (H.length+3) 0 (i+1) 1 (i+1)),H2,rfl,(by simp only[cK,hl]),?_⟩
  ·first|omega|(simp;omega)
  simp only[cM,hl,aa,ae,g3,g27,TX]
  iterate 6 refine⟨by first|trivial|rfl|(congr 1;omega)|(simp;done)|(simp;omega),?_⟩
  refine⟨?_,?_⟩
  ·omega
  ·exact hh.step lJ R8 rc q1 q2 q3
 ·have dc:decide ((i:Int)<(P:Int))=false:=cH (by omega);obtain rfl:i=P:=by omega
  obtain⟨oo,bs,hf,hoo⟩:=hh.frz (by omega) (fun j hj=>hwr j (by omega));have hfp:fz H 39 p=some (p,[]):=by
   rcases hp with⟨rfl,rfl⟩|rfl<;>rfl
  have tX:∀o,((i=0/\o=.aH)∨(0<i/\∃vs,o=.aJ vs i/\oH vs (rows.take i) w))->AH eZ w K o p:=by intro o ho;refine⟨k,rows,fq,hS,hk,K8,hlen,hwr,hb,uy,hp,?_⟩;rw[<-hP];exact ho
  rcases id hh with⟨h0,e⟩|⟨h0,b,hs,e,-⟩
  ·subst e;simp only[↓aQ,aR,↓reduceIte,aa,ae,hl,g3,g8,TX,g29,dc,pp];exact⟨_,_,rfl,tX _ (.inl ⟨h0,rfl⟩)⟩
  ·subst e;have gf:=IY hf hfp (show fz H 39 (.int .i64 0)=some (.int .i64 0,[])from rfl);simp only[↓aQ,aR,↓reduceIte,aa,ae,hl,g3,g8,TX,g29,dc,pp,gf];exact⟨_,_,rfl,tX _ hoo⟩
end Go.Proofs.YtblnjkjjedanaaaGreatDoor
