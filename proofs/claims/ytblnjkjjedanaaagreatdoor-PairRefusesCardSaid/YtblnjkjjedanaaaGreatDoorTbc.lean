/- A part of the proof that PairRefuses returns true for every input; no condition of its own. -/
import Derived.Test.YtblnjkjjedanaaaGreatDoorTbb
import Derived.Test.YtblnjkjjedanaaaGreatDoorTie
import Derived.Test.YtblnjkjjedanaaaGreatDoorCards
import Derived.ProofKit
import Derived.LaidMore
import Derived.OpenShut
import Derived.Stop.Joined
import Derived.SevenTiedAt
import Derived.Carry
set_option linter.all false
set_option maxHeartbeats 100000000
set_option maxRecDepth 100000
open List renaming getElem?_eq_getElem->aMh,getD_eq_getElem?_getD->aSW,getElem?_eq_some_iff->aLu,getElem_mem->aMo,length_append->aMk,getElem?_drop->aK8,getElem?_map->aNe,mem_append_right->aOa,mem_append_left->aOd,getElem?_range->aYz,getElem?_take->aK7,flatMap_cons->aNs,length_cons->aMn,not_mem_nil->aUn,range->aYi
open Option renaming some->aLv,getD_some->aNt,bind_eq_some_iff->aLA,map_some->aNj
open Bool renaming and_eq_true->aMq
open Nat renaming le_refl->aLr
namespace Go.Proofs
open Go.Shelf
def Tryz.Cf:Go.Shelf.Ren:=⟨fun|167=>173|240=>165|276=>196|n=>n,fun|9=>9|3=>3|4=>4|0=>0|20=>20|72=>195|75=>198|70=>192|37=>193|127=>244|164=>271|5=>5|80=>117|n=>n,fun|n=>n⟩
theorem Tryz.abG:Go.Proofs.Lays.n167 Tryz.prog Tryz.Cf:={
 mixed:=by kernel_rfl
 f167:=Tryz.func173.trans (congrArg some (by kernel_rfl))
 f240:=Tryz.func165.trans (congrArg some (by kernel_rfl))
 f276:=Tryz.func196.trans (congrArg some (by kernel_rfl))
 t0:=Tryz.underlying0
 a0:=Tryz.isAgg0
 z0:=Tryz.sizeOf0
 v0:=Tryz.zeroValue0
 t4:=Tryz.underlying4
 a4:=Tryz.isAgg4
 z4:=Tryz.sizeOf4
 v4:=Tryz.zeroValue4
 t5:=Tryz.underlying5
 a5:=Tryz.isAgg5
 z5:=Tryz.sizeOf5
 v5:=Tryz.zeroValue5
 t9:=Tryz.underlying9
 a9:=Tryz.isAgg9
 z9:=Tryz.sizeOf9
 v9:=Tryz.zeroValue9
 t20:=Tryz.underlying20
 a20:=Tryz.isAgg20
 z20:=Tryz.sizeOf20
 v20:=Tryz.zeroValue20
 t37:=Tryz.underlying193
 a37:=Tryz.isAgg193
 z37:=Tryz.sizeOf193
 v37:=Tryz.zeroValue193
 t70:=Tryz.underlying192
 a70:=Tryz.isAgg192
 z70:=Tryz.sizeOf192
 v70:=Tryz.zeroValue192
 t72:=Tryz.underlying195
 a72:=Tryz.isAgg195
 z72:=Tryz.sizeOf195
 v72:=Tryz.zeroValue195
 t75:=Tryz.underlying198
 a75:=Tryz.isAgg198
 z75:=Tryz.sizeOf198
 v75:=Tryz.zeroValue198
 t164:=Tryz.underlying271
 a164:=Tryz.isAgg271
 z164:=Tryz.sizeOf271
 v164:=Tryz.zeroValue271}
theorem Tryz.yX:Builder.Extra Tryz.prog Tryz.Cf:={
 sizeBuilder:=by kernel_rfl
 liesBuilder:=by kernel_rfl
 t5:=Tryz.underlying5
 a5:=Tryz.isAgg5
 z5:=Tryz.sizeOf5
 v5:=Tryz.zeroValue5
 infoByte:=by kernel_rfl
 cellsByte:=by kernel_rfl
 sizeByte:=by kernel_rfl
 neB5:=by decide}
end Go.Proofs
namespace Go.Proofs.YtblnjkjjedanaaaGreatDoor
open Go Go.RowKit Dv
variable{E:Env}[C:Ctx E]
theorem O7{q:List Rat}{k:Nat}(h:k<q.length):mI (q.take (k+1))=mI (q.take k)++bC (q.getD k 0)++[32]:=by unfold mI;rw[List.take_add_one,aMh h,Option.toList_some,List.flatMap_append,aNs,List.flatMap_nil,List.append_nil,aSW,aMh h,aNt,List.append_assoc]
theorem SK{q:List Rat}(h:∀x∈q,(bC x).length<=140000000000):(mI q).length<=q.length*140000000001:=by
 unfold mI;induction q with
 |nil=>simp
 |cons x q ih=>
  rw[aNs,aMk,aMk,aMn];have h1:=h x (by simp);have h2:=ih fun y hy=>h y (by simp[hy])
  simp only[aMn,List.length_nil];omega
theorem G9{T e:TypeId}{B b:Nat}{bs:List Value}{w w':World}(h:Lib.IsBuilder T e B b bs w)(hb:Below w.heap.size w w'):Lib.IsBuilder T e B b bs w':=by
 have key:∀p,Lib.BuilderAt T e B b p bs w->Lib.BuilderAt T e B b p bs w':=by
  rintro p ⟨h1,v,h2,⟨h3,h4⟩,h5⟩;refine⟨h1,v,by rw[hb.block b (eh h2)];exact h2,⟨h3,?_⟩,h5⟩;rcases h4 with h4|⟨g,cap,cur,k1,k2,k3,k4⟩
  ·exact .inl h4
  ·exact .inr ⟨g,cap,cur,k1,k2,by rw[hb.block g (eh k3)];exact k3,k4⟩
 rcases h with h|h
 ·exact .inl (key _ h)
 ·exact .inr (key _ h)
theorem zM{p:Prop}(h:p):Hid p:=h
theorem SO{w:World}{cb o cap n:Nat}{q:List Rat}{nm:Nat->List UInt8}(KT:n<=cap)(hn:n<=1000)(gO:cb<w.heap.size)
  (wG:∀k,k<n->∃(b0 b2:Bool) (p1 p3:Option Addr) (l1 l3 k1 k3:Nat),(w.cell? ⟨cb,o+k*4,none⟩=some (.bool b0)/\w.cell? ⟨cb,o+k*4+1,none⟩=some (.slice p1 l1 k1)/\w.cell? ⟨cb,o+k*4+2,none⟩=some (.bool b2)/\w.cell? ⟨cb,o+k*4+3,none⟩=some (.slice p3 l3 k3))/\∀wr,Below w.heap.size w wr->Calls Tryz.prog 19 #[.agg #[.bool b0,.slice p1 l1 k1,.bool b2,.slice p3 l3 k3]] wr fun e w'=>e=.returned (.string ⟨(nm k).toArray⟩)/\Below wr.heap.size wr w')
  (hnm:∀k,k<n->nm k=bC (q.getD k 0))
  (hq:q.length=n) (aeS:∀x∈q,(bC x).length<=140000000000):
  Calls Tryz.prog 140 #[.slice (some ⟨cb,o,none⟩) n cap] w fun e w'=>e=.returned (.string ⟨(mI q).toArray⟩)/\Below w.heap.size w w':=by
 have HC:=zM wG;have HL:=zM aeS;have HM:=zM hnm;clear wG aeS hnm
 go_enter Tryz.func140,Tryz.ntmps140
 go_wp2
 go_loopw [8] (fun i wr=>∃k:Nat,k<=n/\i=.int .i64 k/\Hid (Lib.IsBuilder 195 5 w.heap.size w.heap.size (Lib.byteCells (mI (q.take k))) wr)/\Hid (Below w.heap.size w wr)) (fun i _=>n-(Lib.intOf i).toNat)
 case atStart=>
  refine⟨0,Nat.zero_le _,rfl,zM (.inl ⟨aLr _,.slice none 0 0,heap_alloc_new w _,⟨rfl,.inl ⟨rfl,rfl⟩⟩,by simp[Value.ownBlock]⟩),zM ((Below.refl _ _).alloc (aLr _) _)⟩
 case round=>
  obtain⟨k,hk,rfl,HB,HW⟩:=hrel;by_cases hkn:k<n
  ·obtain⟨b0,b2,p1,p3,l1,l3,k1,k3,⟨g0,g1,g2,g3⟩,vI⟩:=HC.out k hkn;have HN:=zM vI;clear vI;have h0:wr.cell? ⟨cb,o+k*4,none⟩=some (.bool b0):=by rw[HW.out.cell (p:=⟨cb,o+k*4,none⟩) gO];exact g0
   have h1:wr.cell? ⟨cb,o+k*4+1,none⟩=some (.slice p1 l1 k1):=by rw[HW.out.cell (p:=⟨cb,o+k*4+1,none⟩) gO];exact g1
   have h2:wr.cell? ⟨cb,o+k*4+2,none⟩=some (.bool b2):=by rw[HW.out.cell (p:=⟨cb,o+k*4+2,none⟩) gO];exact g2
   have h3:wr.cell? ⟨cb,o+k*4+3,none⟩=some (.slice p3 l3 k3):=by rw[HW.out.cell (p:=⟨cb,o+k*4+3,none⟩) gO];exact g3
   clear g0 g1 g2 g3
   go_wp2_with fail
   have yf:w.heap.size<=wr.heap.size:=HW.out.size;have hbA:Below wr.heap.size wr (wr.alloc (Obj.cells #[.bool b0,.slice p1 l1 k1,.bool b2,.slice p3 l3 k3] 62)):=(Below.refl _ _).alloc (aLr _) _;refine(HN.out _ (HW.out.trans (hbA.mono yf))).mono ?_;rintro e w1 ⟨rfl,sG⟩;have HB1:=zM (G9 (G9 HB.out hbA) sG);have HW1:=zM ((HW.out.trans (hbA.mono yf)).trans (sG.mono (Nat.le_trans yf hbA.size)));clear sG hbA h0 h1 h2 h3;have M0:(mI (q.take k)).length<=1000*140000000001:=by refine Nat.le_trans (SK (fun x hx=>HL.out x (List.mem_of_mem_take hx))) (Nat.mul_le_mul_right _ ?_);rw[List.length_take];omega
   have uN:(nm k).length<=140000000000:=by
    rw[HM.out k hkn];exact HL.out _ (by
    rw[aSW,aMh (by omega)];exact aMo (by omega))
   go_wp2_with fail
   refine(Any.Builder_WriteString {Tryz.Jd with} Tryz.nW w.heap.size w.heap.size _ ⟨(nm k).toArray⟩ w1 HB1.out (by rw[Lib.byteCells_length,Lib.size_eq];show(mI (q.take k)).length+(nm k).length<=_;omega) HW1.out.size).mono ?_;rintro e w2 ⟨rfl,h2,tz⟩;have HB2:=zM (Or.inr h2:Lib.IsBuilder 195 5 w.heap.size w.heap.size _ w2);have HW2:=zM (HW1.out.trans tz);clear h2 tz
   go_wp2_with fail
   refine(Any.Builder_WriteByte Tryz.abG Tryz.yX w.heap.size w.heap.size _ 32 w2 HB2.out (by rw[aMk,Lib.byteCells_length,Lib.strCells_length,Lib.size_eq];show(mI (q.take k)).length+(nm k).length+1<=_;omega) HW2.out.size).mono ?_;rintro e w3 ⟨rfl,h3,zK⟩;have aeE:Lib.byteCells (mI (q.take k))++Lib.strCells ⟨(nm k).toArray⟩++[Value.int .u8 32]=Lib.byteCells (mI (q.take (k+1))):=by rw[O7 (by omega),<-HM.out k hkn,Lib.byteCells_append,Lib.byteCells_append,Lib.strCells_eq];rfl
   rw[aeE]at h3;have HB3:=zM (Or.inr h3:Lib.IsBuilder 195 5 w.heap.size w.heap.size _ w3);have HW3:=zM (HW2.out.trans zK);clear h3 zK aeE
   go_wp2
   exact⟨⟨k+1,by omega,by go_num,HB3,HW3⟩,by simp[Lib.intOf];omega⟩
  ·have hke:k=n:=by omega
   subst hke;have HBf:Hid (Lib.IsBuilder 195 5 w.heap.size w.heap.size (Lib.byteCells (mI q)) wr):=by
    have:=HB.out
    rw[List.take_of_length_le (by omega)]at this;exact zM this
   go_wp2_with fail
   refine(Any.Builder_String_any {Tryz.Jd with} Tryz.nW w.heap.size w.heap.size (mI q) wr HBf.out HW.out.size).mono ?_;rintro e w2 ⟨rfl,tz⟩;have HW2:=zM (HW.out.trans tz);clear tz
   go_wp2
   go_ret
   exact⟨rfl,HW2.out⟩
theorem GA{L:Nat->Prop}{w w':World}(hb:Below w.heap.size w w'):Ext w L w' L:=⟨hb.size,fun c hc hl=>⟨hb.block c hc,hl⟩,fun c cs e f h=>⟨cs,f,by rw[hb.block c (eh h)];exact h,rfl⟩⟩
theorem VW{E:Env}{L:Nat->Prop}{w w':World}(hg:tF E L w)(hb:Below w.heap.size w w'):tF E L w':=by
 intro g cs h;obtain⟨c,e,f,h1,h2,h3,h4⟩:=hg g cs h;exact⟨c,e,f,by rw[hb.block g (eh h1)];exact h1,h2,j6.ext (GA hb) cs cE cE c 0 (dZ.le_refl _) h3,h4⟩
theorem afC{L:Nat->Prop}{w:World}{m:AV}{v:Value}(hm:m=.aH∨m=.ef∨∃cs n,m=.aJ cs n)(h:R cE w L m v):∃p l k,v=.slice p l k:=by
 rcases hm with rfl|rfl|⟨cs,n,rfl⟩
 ·simp only[R]at h;exact⟨_,_,_,h⟩
 ·simp only[R]at h;obtain⟨a,cap,h⟩:=h;exact⟨_,_,_,h⟩
 ·simp only[R]at h;obtain⟨cb,o,cap,c,e,f,rfl,-⟩:=h;exact⟨_,_,_,rfl⟩
theorem BO{E:Env}{f:Nat}{al:List AV}{r:AV}{L:Nat->Prop}{w:World}{vs:Array Value}(V:Valid E Tryz.prog)(O:za E Tryz.prog)(hf:(E0.fn f).isSome=true)(hr:aO E f al=some r)(hl:∀l,L l->l<w.heap.size)(hg:tF E L w)(ha:Rs cE w L al vs.toList):Calls Tryz.prog f vs w (MT (iS w L r)):=by
 obtain⟨-,n,hn⟩:=yH hr;have oc:=Qk V O n f al r hn L w vs hl hg ha;have hcf:=U1 hf vs w;rcases oc with⟨v,w',h1,_⟩|⟨f',args,w1,h1,h2⟩|⟨l,f',tmps,assign,body,w1,h1,_⟩
 ·rw[hcf]at h1;cases h1
 ·rw[hcf]at h1;cases h1;exact callsIn_wide.1 h2
 ·rw[hcf]at h1;cases h1
theorem Tj{vs:Array Value}{w:World}{post:Ending->World->Prop}{Rr:Value->World->Prop}(hc:Calls Tryz.prog 140 vs w post)(hm:∀e w',post e w'->MT Rr e w'):pM Tryz.prog ((callFunc 140 vs).run Tryz.prog w) Rr:=
 .inr (.inl ⟨140,vs,w,enters_of Tryz.func140 (by kernel_rfl) rfl vs w,callsIn_wide.2 (hc.mono hm)⟩)
theorem WZ{v:AV}{l:List Nat}(h:fG v l):v=.aH∨v=.ef∨∃cs n,v=.aJ cs n:=by
 obtain⟨-,h⟩:=h;rcases h with h|⟨-,h|h⟩
 ·exact .inr (.inr ⟨_,_,h⟩)
 ·exact .inl h
 ·exact .inr (.inl h)
theorem ajH{n n':Bool}{m m':AV}{q:Rat}(h:cX (.agg [.bool n,m,.bool n',m']) q):(m=.aH∨m=.ef∨∃cs k,m=.aJ cs k)/\(m'=.aH∨m'=.ef∨∃cs k,m'=.aJ cs k):=by obtain⟨na,ma,nb,mb,l,l',e,-,h1,h2,-⟩:=bR h;simp only[AV.agg.injEq,List.cons.injEq,AV.bool.injEq,and_true]at e;obtain⟨-,rfl,-,rfl⟩:=e;exact⟨WZ h1,WZ h2⟩
theorem aea(o:List AV->Option AV):Ctx (EN o) where
 fn:=rfl
 ty:=rfl
 ud:=rfl
 pairs:=rfl
 glob:=rfl
 ov:=fun f l hf=>by
  show(if f=140 then o l else ij yh f l)=none
  simp only[N1,List.mem_cons,aUn,or_false,not_or]at hf;obtain⟨h0,h1,h2,h3,h4,h5,h6,h7,h8,h9,h10⟩:=hf;rw[if_neg h0];simp[ij,yh,h1,h2,h3,h4,h5,h6,h7,h8,h9,h10]
 SX:=fun f l hf=>by
  show(if f=140 then o l else ij yh f l)=ij yh f l
  simp only[RU,List.mem_cons,aUn,or_false]at hf;rw[if_neg (by omega)]
instance aBb:Ctx E0:=aea _
theorem abZ{v:AV}{q:List Rat}{k:Nat}(hv:gy v q)(hb:BL k q)(hk:k<=100000000000)(hn:q.length<=1000){L:Nat->Prop}{w:World}{vs:Array Value}(hl:∀l,L l->l<w.heap.size)(hg:tF E0 L w)(ha:Rs cE w L [v] vs.toList):pM Tryz.prog ((callFunc 140 vs).run Tryz.prog w) (iS w L (.str (mI q))):=by
 obtain⟨u,rfl,h1⟩:=UD ha;obtain⟨cs,rfl,hC⟩:=hv;simp only[R]at h1;obtain⟨cb,o,cap,c,e,f,rfl,KT,Er,J3,tT⟩:=h1;refine Tj (SO (nm:=fun k=>bC (q.getD k 0)) KT hn (eh Er) ?_ (fun _ _=>rfl) rfl (fun x hx=>by have:=rm (hb x hx);omega)) ?_
 ·intro i hi;obtain⟨n0,m0,n1,m1,hc4,hR⟩:=hC.get hi;have get:∀j x,([AV.bool n0,m0,AV.bool n1,m1]:List AV)[j]?=some x->∃y,c[o+i*4+j]?=some y/\R cE w L x y:=by
   intro j x hx;have hj:j<4:=(aLu.1 hx).1
   have:cs[i*4+j]?=some x:=by rw[<-hc4,List.getElem?_take_of_lt hj,aK8]at hx;exact hx
   obtain⟨y,hy,hr⟩:=j6.get tT (i*4+j) x this;exact⟨y,by rw[<-Nat.add_assoc]at hy;exact hy,hr⟩
  obtain⟨y0,g0,r0⟩:=get 0 _ rfl;obtain⟨y1,g1,r1⟩:=get 1 _ rfl;obtain⟨y2,g2,r2⟩:=get 2 _ rfl;obtain⟨y3,g3,r3⟩:=get 3 _ rfl;have e0:y0=.bool n0:=by simpa only[R]using r0
  have e2:y2=.bool n1:=by simpa only[R]using r2
  have hm:=ajH hR;obtain⟨p1,l1,k1,e1⟩:=afC hm.1 r1;obtain⟨p3,l3,k3,e3⟩:=afC hm.2 r3;subst e0 e1 e2 e3;have cell:∀j y,c[o+i*4+j]?=some y->w.cell? ⟨cb,o+i*4+j,none⟩=some y:=fun j y h=>by
   unfold World.cell?;simp[Er,h]
  refine⟨n0,n1,p1,p3,l1,l3,k1,k3,⟨cell 0 _ g0,cell 1 _ g1,cell 2 _ g2,cell 3 _ g3⟩,fun wr hbw=>?_⟩;have vI:=iQ (E:=E0) hR (hb _ (by rw[aSW,aMh hi];exact aMo hi)) hk;have ext:=GA (L:=L) hbw;refine(BO (vs:=#[.agg #[.bool n0,.slice p1 l1 k1,.bool n1,.slice p3 l3 k3]]) YS aqD (by kernel_rfl) vI (fun l h=>Nat.lt_of_lt_of_le (hl l h) hbw.size) (VW hg hbw) ?_).mono ?_
  ·simp only[Rs,R];exact⟨_,_,rfl,⟨_,rfl,_,_,rfl,rfl,_,_,rfl,R.ext ext _ cE cE _ (dZ.le_refl _) r1,_,_,rfl,rfl,_,_,rfl,R.ext ext _ cE cE _ (dZ.le_refl _) r3,rfl⟩,rfl⟩
  ·intro e w' he;cases e with
   |panicked _=>exact he.elim
   |outgrown=>exact he.elim
   |returned v=>
    obtain⟨h1,h2⟩:=he;simp only[R]at h2;subst h2;exact⟨rfl,h1⟩
 ·rintro e w' ⟨rfl,ux⟩;exact⟨ux,by simp[R]⟩
theorem XP{v:AV}{q q':List Rat}{k k':Nat}(h:gy v q)(h':gy v q')(b:BL k q)(b':BL k' q')(hk:k<=100000000000)(xM:k'<=100000000000):q=q':=by
 obtain⟨cs,rfl,hC⟩:=h;obtain⟨tL,e,hC'⟩:=h';simp only[AV.aJ.injEq]at e;obtain⟨rfl,hl⟩:=e;refine List.ext_getElem hl fun i h1 h2=>?_
 obtain⟨n0,m0,n1,m1,e1,hR⟩:=hC.get h1;obtain⟨n0',m0',n1',m1',e1',hR'⟩:=hC'.get h2;rw[e1]at e1';simp only[List.cons.injEq,AV.bool.injEq,and_true]at e1';obtain⟨rfl,rfl,rfl,rfl⟩:=e1';rw[aSW,aMh h1,aNt]at hR;rw[aSW,aMh h2,aNt]at hR';have c1:=iQ (E:=E0) hR (b _ (aMo h1)) hk;have c2:=iQ (E:=E0) hR' (b' _ (aMo h2)) xM;rw[c1]at c2;simp only[aLv.injEq,AV.str.injEq]at c2;exact LR c2
def Ir(l:List AV)(q:List Rat):Prop:=∃v k,l=[v]/\gy v q/\BL k q/\k<=100000000000/\q.length<=1000
noncomputable def Hj(l:List AV):Option AV:=by
 classical exact if h:∃q,Ir l q then some (.str (mI h.choose))else none
theorem Xa{l:List AV}{q:List Rat}(h:Ir l q):Hj l=some (.str (mI q)):=by have hx:∃q,Ir l q:=⟨q,h⟩;unfold Hj;rw[dif_pos hx];have h2:=hx.choose_spec;obtain⟨v,k,rfl,a1,a2,a3,-⟩:=h;obtain⟨v',k',e,b1,b2,b3,-⟩:=h2;simp only[List.cons.injEq,and_true]at e;subst e;rw[XP b1 a1 b2 a2 b3 a3]
theorem SL{l:List AV}{r:AV}(h:Hj l=some r):∃q,Ir l q/\r=.str (mI q):=by
 unfold Hj at h;split at h
 ·rename_i hx;exact⟨_,hx.choose_spec,by simpa using h.symm⟩
 ·cases h
noncomputable def EV:Env:=EN Hj
theorem auC:lS EV where
 toCtx:=aea _
 nm:=fun v q k h1 h2 h3 h4=>by
  show(if(140:Nat)=140 then Hj [v]else ij yh 140 [v])=_
  rw[if_pos rfl];exact Xa ⟨v,k,rfl,h1,h2,h3,h4⟩
theorem aqE:za EV Tryz.prog:=afk fun al r h L w vs hl hg ha=>by
 obtain⟨q,⟨v,k,rfl,h1,h2,h3,h4⟩,rfl⟩:=SL h;exact abZ h1 h2 h3 h4 hl hg ha
theorem fnV(o:List AV->Option AV):(List.range' 0 278).all (s7 (EN o))=true:=by kernel_rfl
theorem aj3:Valid EV Tryz.prog:=by
 refine Cx (E:=EV) (P:=Tryz.prog) (imp:=aiq) (eX:=Vm) (skip:=X4) (by simp only[EV,EN]) (by simp only[EV,EN]) GP GO fun f hf=>?_
 rw[KG]at hf;exact fW (fnV _) (by omega) (by omega)
end Go.Proofs.YtblnjkjjedanaaaGreatDoor
namespace Go.Proofs.YtblnjkjjedanaaaGreatDoor
open Go Go.ChangeShapes Go.WideShapes Go.ChangeAt Go.RowKit Go.ChangeMaps Dv
variable{E:Env}[C:Ctx E]
theorem own:ownKnob Tryz.prog.godebug=none:=by kernel_rfl
theorem laidOut:laidOutB Tryz.prog=true:=by kernel_rfl
theorem yz{H:Type}{enc:TypeId×Value->H}{P:Program}(hl:laidOutB P=true){W W':World}{sp:Nat->Bool}(hb:Go.RowKit.Below W.heap.size W W'):∀{ts:List TypeId} {vs:List Value} {ds:List (DataW H)} {ps:List MemPlace},
  (∀t∈ts,P.readableRec t=true/\t<P.types.size)->DataW.TrodAll enc P W 0 (fun _=>true) true ts vs ds ps->(∀p∈ps,p.block<W.heap.size)->(∀p∈ps,sp p.block=true)->DataW.TrodAll enc P W' 0 sp true ts vs ds ps
 |[],[],[],_,_,h,_,_=>h
 |t::ts,v::vs,d::ds,ps,ht,h,gO,hs=>by
  obtain⟨p,p',h1,h2,rfl⟩:=h;have q:=ht t (List.mem_cons_self ..);exact trodAll_cons_mk (WideElems.Trod_stays hl q.1 q.2 h1 (fun x hx=>hb.same (gO x (aOd _ hx))) (fun x hx=>hs x (aOd _ hx)))
   (yz hl hb (fun t ht'=>ht t (List.mem_cons_of_mem _ ht')) h2 (fun x hx=>gO x (aOa _ hx)) (fun x hx=>hs x (aOa _ hx)))
 |[],_::_,_,_,_,h,_,_=>by simp[DataW.TrodAll]at h
 |[],[],_::_,_,_,h,_,_=>by simp[DataW.TrodAll]at h
 |_::_,[],_,_,_,h,_,_=>by simp[DataW.TrodAll]at h
 |_::_,_::_,[],_,_,h,_,_=>by simp[DataW.TrodAll]at h
theorem Ge{H:Type}{enc:TypeId×Value->H}{P:Program}{f:Func}{s:ChangeSpec}{apart fresh handsOn again:Bool}{W W':World}{args:Array Value}{v:Value}{ds gs:List (DataW H)}{before pa pv:List MemPlace}
  (hW:DataW.Whole enc P f.params.toList s.vars apart W args.toList ds gs before)
  (j7:∀(b:Nat) (sp:Nat->Bool) (hd:Bool),DataW.TrodAll enc P W' b sp hd f.resultTypes.toList (v.resultList f.resultTypes.size) (s.fn H (ds++gs)).results [])
  (wF:∀sp:Nat->Bool,(∀p∈before,sp p.block=true)->DataW.TrodAll enc P W' 0 sp true f.params.toList args.toList (s.fn H (ds++gs)).args pa)
  (afb:∀sp:Nat->Bool,(∀p∈before,sp p.block=true)->DataW.TrodVars enc P W' sp s.vars (s.fn H (ds++gs)).vars pv)
  (hps:before=pa++pv) (hb:Go.RowKit.Below W.heap.size W W')
  (Wr:∀(j:Nat) (t:TypeId) (r:Value),f.resultTypes[j]?=some t->(v.resultList f.resultTypes.size)[j]?=some r->Value.okWide P W' .any 0 t r):
  s.post enc P f apart fresh handsOn again W args v W':=by
 have gO:=hW.lt;have hold:∀p∈before,(fun b=>decide (b<W.heap.size)) p.block=true:=fun p hp=>by simpa using hW.lt p hp
 refine⟨ds,gs,before,[],pa,pv,hW,j7 _ _ _,wF _ hold,afb _ hold,hb.frame _,fun _=>?_⟩;obtain⟨_,_,_,_,_,hz,hn⟩:=hW;refine⟨Wr,_,_,([]++pa)++pv,⟨[]++pa,pv,trodAll_append (wF _ (fun _ _=>rfl)) (j7 _ _ _),afb _ (fun _ _=>rfl),rfl,?_,?_⟩,?_⟩
 ·intro b off hp;have hm:MemPlace.cell b off∈before:=by rw[hps];simpa using hp
  rw[hb.frozen (gO _ hm)];exact hz b off hm
 ·intro ha
  have:=hn ha
  rw[hps]at this;simpa using this
 ·intro p hp _;rw[hps];simpa using hp
theorem u3:Tryz.prog.underlying 3=some (.int .i64):=by kernel_rfl
theorem u4:Tryz.prog.underlying 4=some .bool:=by kernel_rfl
noncomputable def fieldsOf(t:TypeId):List (TypeId×Nat):=match Tryz.prog.underlying t with
 |some (.struct fs)=>fs.toList.map fun f=>(f.type,f.offset)
 |_=>[]
theorem u22:Tryz.prog.underlying 22=some (.slice 29):=by kernel_rfl
theorem u29:Tryz.prog.underlying 29=some (.array 6 28):=by kernel_rfl
theorem u28:Tryz.prog.underlying 28=some (.int .i8):=by kernel_rfl
theorem auJ:Tryz.prog.cellsOf 28=1:=by kernel_rfl
theorem agz:Tryz.prog.cellsOf 29=6:=by kernel_rfl
section
variable{H:Type}{enc:TypeId×Value->H}{W:World}{base:Nat}{sp:Nat->Bool}{held:Bool}{fuel:Nat}
theorem L3{cs:List Value}{x:DataW H×List MemPlace}(h:DataW.trod enc Tryz.prog W base sp held fuel 29 cs=some x):cs.length=6/\∀j,j<6->∃z,cs[j]?=some (.int .i8 z)/\-128<=z/\z<=127:=by
 obtain⟨xs,m,rfl,rfl,hlen,hn,A9⟩:=DataW.trod_array u29 h;rw[auJ]at A9;rw[agz]at hlen;refine⟨hlen,fun j hj=>?_⟩;have hxj:∃y,xs[j]?=some y:=⟨xs[j],aMh (by omega)⟩;obtain⟨y,hy⟩:=hxj;have he:=A9 j hj;rw[hy,Nat.mul_one]at he;obtain⟨z,e1,-,wz⟩:=DataW.trod_int u28 he;refine⟨z,?_,?_⟩
 ·have h0:=congrArg (fun l=>l[0]?) e1;simpa[aK7,aK8]using h0
 ·simp only[Lit.wf,aMq,decide_eq_true_eq]at wz;have h1:IntKind.i8.min= -128:=rfl;have h2:IntKind.i8.max=127:=rfl;rw[h1,h2]at wz;exact wz
theorem Ux{b o m:Nat}:(⟨b,o,none⟩:Addr).add m=⟨b,o+m,none⟩:=by
 unfold Addr.add
 split
 ·rename_i h;subst h;rfl
 ·rfl
def zAt(W:World)(a:Addr)(m:Nat):Int:=match W.cell? (a.add m)with
 |some (.int _ z)=>z
 |_=>0
theorem acA{v:Value}{x:DataW H×List MemPlace}(h:DataW.trod enc Tryz.prog W base sp held fuel 22 [v]=some x):∃(lv:AV) (cells:List AV) (len:Nat) (zf:Nat->Int),R cE W (fun _=>False) lv v/\jP lv=some (len:Int)/\aN lv=true/\(0<len->lv=.aJ cells len)/\cells.length=len*6/\∀j,j<len*6->cells[j]?=some (.int .i8 (zf j))/\-128<=zf j/\zf j<=127:=by
 rcases DataW.trod_slice u22 h with⟨e,-⟩|⟨a,len,cap,elems,rest,n,-,e,-,-,KT,-,A9,uL,-⟩
 ·simp only[List.cons.injEq,and_true]at e;subst e;exact⟨.aH,[],0,fun _=>0,by simp[R],rfl,rfl,fun h=>absurd h (by omega),rfl,fun j hj=>absurd hj (by omega)⟩
 ·simp only[List.cons.injEq,and_true]at e;subst e;by_cases h0:len=0
  ·subst h0;exact⟨.ef,[],0,fun _=>0,by simp[R],rfl,rfl,fun h=>absurd h (by omega),rfl,fun j hj=>absurd hj (by omega)⟩
  have hsn:a.spot=none:=by
   have hg:=uL 0 (by omega);rw[agz,aMh (by omega),aLA]at hg;obtain⟨cs,h1,h2⟩:=hg;obtain⟨Sa,hz⟩:=L3 h2;obtain⟨z,g1,g2⟩:=hz 0 (by omega);have h3:=(World.cells?_some h1).2.2 0 (by omega);rw[g1,show(a.add (0*6)).add 0=a from rfl]at h3;unfold World.cell? at h3;split at h3
   case h_2=>cases h3
   cases hs:a.spot with
   |none=>rfl
   |some s=>rw[hs]at h3;cases h3
  obtain⟨bk,of,spt⟩:=a;simp only at hsn;subst hsn;have hc:∀m,m<len*6->∃z,W.cell? ⟨bk,of+m,none⟩=some (.int .i8 z)/\-128<=z/\z<=127:=by
   intro m hm;have hi:m/6<len:=by omega
   have hg:=uL (m/6) hi;rw[agz,aMh (by omega),aLA]at hg;obtain⟨cs,h1,h2⟩:=hg;obtain⟨Sa,hz⟩:=L3 h2;obtain⟨z,g1,g2⟩:=hz (m%6) (by omega);refine⟨z,?_,g2⟩;have h3:=(World.cells?_some h1).2.2 (m%6) (by omega);rw[g1,Ux,Ux,show of+m/6*6+m%6=of+m by omega]at h3;exact h3
  obtain⟨c,e,f,hh,hcz⟩:∃c e f,W.heap[bk]?=some (.cells c e f)/\∀m,m<len*6->∃z,c[of+m]?=some (.int .i8 z)/\zAt W ⟨bk,of,none⟩ m=z/\-128<=z/\z<=127:=by
   obtain⟨z,g,-⟩:=hc 0 (by omega);unfold World.cell? at g;split at g
   case h_2=>cases g
   rename_i c e f hh;refine⟨c,e,f,hh,fun m hm=>?_⟩;obtain⟨z',g',hb⟩:=hc m hm;have hza:zAt W ⟨bk,of,none⟩ m=z':=by unfold zAt;rw[Ux,g']
   unfold World.cell? at g';have hh':W.heap[bk]?=some (.cells c e f):=hh;simp only[hh']at g';exact⟨z',by simpa using g',hza,hb⟩
  refine⟨.aJ ((aYi (len*6)).map fun m=>.int .i8 (zAt W ⟨bk,of,none⟩ m)) len,(aYi (len*6)).map fun m=>.int .i8 (zAt W ⟨bk,of,none⟩ m),len,zAt W ⟨bk,of,none⟩,?_,rfl,rfl,fun _=>rfl,by simp,fun j hj=>?_⟩
  ·simp only[R];refine⟨bk,of,cap,c,e,f,rfl,KT,hh,fun h=>h,j6.jI fun i x hx=>?_⟩;have hi:i<len*6:=by have:=(aLu.1 hx).1;simpa using this
   obtain⟨z,g1,g2,-⟩:=hcz i hi;rw[aNe,aYz hi]at hx;simp only[aNj,aLv.injEq]at hx;subst hx;exact⟨_,g1,by simp[R,g2]⟩
  ·obtain⟨z,g1,g2,g3⟩:=hcz j hj;rw[aNe,aYz hj,g2];exact⟨by rw[<-g2];rfl,g3⟩
end
theorem g1:Tryz.prog.globalNamed "internal/strconv.uint64pow10"=some 1:=by kernel_rfl
theorem g6:Tryz.prog.globalNamed "math/bits.deBruijn32tab"=some 6:=by kernel_rfl
theorem g7:Tryz.prog.globalNamed "math/bits.deBruijn64tab"=some 7:=by kernel_rfl
theorem y1:(Tryz.prog.globals[1]?).map (·.type)=some 295:=by kernel_rfl
theorem y6:(Tryz.prog.globals[6]?).map (·.type)=some 320:=by kernel_rfl
theorem y7:(Tryz.prog.globals[7]?).map (·.type)=some 321:=by kernel_rfl
theorem u5:Tryz.prog.underlying 5=some (.int .u8):=by kernel_rfl
theorem azh:Tryz.prog.underlying 154=some (.int .u64):=by kernel_rfl
theorem azi:Tryz.prog.underlying 295=some (.array 20 154):=by kernel_rfl
theorem azj:Tryz.prog.underlying 320=some (.array 32 5):=by kernel_rfl
theorem azk:Tryz.prog.underlying 321=some (.array 64 5):=by kernel_rfl
theorem cz5:Tryz.prog.cellsOf 5=1:=by kernel_rfl
theorem ami:Tryz.prog.cellsOf 154=1:=by kernel_rfl
theorem amj:Tryz.prog.cellsOf 295=20:=by kernel_rfl
theorem amk:Tryz.prog.cellsOf 320=32:=by kernel_rfl
theorem aml:Tryz.prog.cellsOf 321=64:=by kernel_rfl
def afH(k:IntKind)(n:Nat)(tab:List AV)(d:DataW Unit):Bool:=tab.length==n&&(aYi n).all fun i=>match tab[i]?,(match d with|.agg l=>l[i]?|_=>none)with
 |some (.int k' a),some (.lit (.int k'' b))=>a==b&&decide (k'=k)&&decide (k''=k)
 |_,_=>false
theorem Fy{enc:TypeId×Value->Unit}{W:World}{n g te ta:Nat}{k:IntKind}{nm:String}{tab:List AV}{cs:Array Value}{fuel:Nat}{base:Nat}{sp:Nat->Bool}{hd:Bool}{d:DataW Unit}{ps:List MemPlace}
  (hg:Tryz.prog.globalNamed nm=some g) (hue:Tryz.prog.underlying te=some (.int k)) (hua:Tryz.prog.underlying ta=some (.array n te)) (G3:Tryz.prog.cellsOf te=1) (hca:Tryz.prog.cellsOf ta=n)
  (hv:W.var? Tryz.prog nm=some cs) (hd:DataW.trod enc Tryz.prog W base sp hd fuel ta cs.toList=some (d,ps)) (Wr:afH k n tab d=true):
  ∃c e f,W.heap[g]?=some (.cells c e f)/\j6 cE W (fun _=>False) c 0 tab/\c.size=tab.length:=by
 unfold afH at Wr;rw[aMq,beq_iff_eq]at Wr;obtain⟨Wk,tf⟩:=Wr;obtain⟨xs,m,rfl,Oz,hlen,hn,A9⟩:=DataW.trod_array hua hd;rw[G3]at A9;rw[hca]at hlen;have Sm:=hv;unfold World.var? at Sm;rw[hg]at Sm;simp only[Option.bind_some]at Sm;split at Sm
 case h_2=>cases Sm
 rename_i c e f Er;cases Sm;have tg:cs.size=n:=by simpa using hlen
 refine⟨cs,e,f,Er,j6.jI fun i x hx=>?_,by omega⟩;have hi:i<n:=by have:=(aLu.1 hx).1;omega
 have Sk:=List.all_eq_true.1 tf i (List.mem_range.2 hi);rw[hx]at Sk;have R6:d=.agg (xs.map (·.1)):=congrArg Prod.fst Oz;rw[R6]at Sk;have G7:∃y,xs[i]?=some y:=⟨xs[i],aMh (by omega)⟩;obtain⟨y,hy⟩:=G7;have he:=A9 i hi;rw[hy]at he;obtain⟨z,e1,e2,_⟩:=DataW.trod_int hue he;simp only[aNe,hy,aNj,e2]at Sk;split at Sk
 case h_2=>cases Sk
 rename_i k' a k'' b q1 q2;cases q1;simp only[aLv.injEq,DataW.lit.injEq,Lit.int.injEq]at q2;obtain⟨rfl,rfl⟩:=q2;simp only[aMq,beq_iff_eq,decide_eq_true_eq]at Sk;obtain⟨⟨rfl,rfl⟩,-⟩:=Sk;refine⟨.int k' a,?_,by simp[R]⟩;rw[Nat.zero_add,Nat.mul_one]at*
 have:(cs.toList.drop i).take 1=[.int k' a]:=e1
 rw[<-Array.getElem?_toList];have h0:=congrArg (fun l=>l[0]?) this;simpa[aK7,aK8]using h0
theorem IZ{W:World}(h:laidMetH Tryz.prog Rows.pairRefusesRow.laid W):tF E0 (fun _=>False) W:=by
 have h':laidMet Tryz.prog Rows.pairRefusesRow.laid W:=h;obtain⟨ps,⟨g0',t0',cs0,f0,p0,q0,J0,ht0,hv0,Oj,⟨g1',t1',cs1,f1,p1,q1,C9,M6,hv1,uK,⟨g2',t2',cs2,f2,p2,q2,hg2,J4,Ud,xL,_,_⟩,_⟩,_⟩,_,_⟩:=h';obtain rfl:=aLv.inj (g6.symm.trans J0);obtain rfl:=aLv.inj (g7.symm.trans C9);obtain rfl:=aLv.inj (g1.symm.trans hg2);obtain rfl:=aLv.inj (y6.symm.trans ht0);obtain rfl:=aLv.inj (y7.symm.trans M6);obtain rfl:=aLv.inj (y1.symm.trans J4);intro g cs hg;have hg':VV g=some cs:=hg;unfold VV at hg';split at hg'
 ·cases hg';obtain⟨c,e,f,h1,h2,h3⟩:=Fy (k:=.u8) (n:=64) g7 u5 azk cz5 aml hv1 uK (tab:=afG) (by kernel_rfl);exact⟨c,e,f,h1,fun h=>h,h2,h3⟩
 ·cases hg';obtain⟨c,e,f,h1,h2,h3⟩:=Fy (k:=.u8) (n:=32) g6 u5 azj cz5 amk hv0 Oj (tab:=afF) (by kernel_rfl);exact⟨c,e,f,h1,fun h=>h,h2,h3⟩
 ·cases hg';obtain⟨c,e,f,h1,h2,h3⟩:=Fy (k:=.u64) (n:=20) g1 azh azi ami amj Ud xL (tab:=BA) (by kernel_rfl);exact⟨c,e,f,h1,fun h=>h,h2,h3⟩
 ·cases hg'
def firstCells:Array Value:=(match Go.Pinned.utf8First with
 |.agg l=>(l.map fun d=>match d with|.lit (.int k n)=>Value.int k n|_=>undef).toArray
 |_=>#[])
noncomputable def Bg(os:Os):World:=
 let w0:=World.doorLaid Tryz.prog 400 os
 {w0 with heap:=w0.heap.modify 2 fun
   |.cells _ t frozen=>.cells firstCells t frozen
   |o=>o}
theorem F8(os:Os)(args:Array Value):laidMetH Tryz.prog Rows.pairRefusesRow.laid ((Bg os).forCall (fun _ _=>0) ⟨#[],args,[]⟩).memory:=
 show laidMet Tryz.prog Rows.pairRefusesRow.laid ((Bg os).forCall (fun _ _=>0) ⟨#[],args,[]⟩).memory from laidMet_of_run' 8 (by kernel_rfl) (by kernel_rfl)
end Go.Proofs.YtblnjkjjedanaaaGreatDoor
