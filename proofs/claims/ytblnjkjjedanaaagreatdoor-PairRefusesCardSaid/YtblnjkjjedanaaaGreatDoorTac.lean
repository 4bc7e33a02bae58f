/- A part of the proof that PairRefuses returns true for every input; no condition of its own. -/
import Derived.Test.YtblnjkjjedanaaaGreatDoorTab
import Derived.Laws.MakeOwn
import Derived.Laws.IdiomStrings
set_option linter.all false
set_option maxHeartbeats 100000000
set_option maxRecDepth 100000
open List renaming getElem?_eq_some_iff->aLu,extract_eq_take_drop->aLy,getElem?_append->aL9,all_eq_true->aMa,getElem?_eq_getElem->aMh,getElem?_of_mem->aMj,length_append->aMk,getElem?_set->aLq,length_cons->aMn,getElem_mem->aMo,length_take->aMp
open Option renaming some->aLv,map_eq_some_iff->aLp
open Array renaming getElem?_toList->aLC,toList_extract->aL7,getElem?_extract->aMc,getElem?_eq_getElem->aMf,extract_size->aMm,ext'->aMv
open Nat renaming mul_le_mul_right->aL8,le_refl->aLr,add_mul->aMb,zero_add->aMg,add_assoc->aLt,sub_zero->aMl
open Bool renaming false_eq_true->aLs,not_eq_true'->aMd,not_eq_false->aMe,or_eq_true->aMi,and_eq_true->aMq
namespace Dv
open Go Go.RowKit
section
variable{E:Env}{P:Program}{ι:dZ}{w:World}{L:Nat->Prop}{ts:List AV}{a:Act}{Lo:Nat->Prop}{w0:World}{H:Hp}
def iS(E:Env)(Lo:Nat->Prop)(w0:World)(ι:dZ)(H:Hp)(w:World)(v:AV)(e:cJ)(cv:Value)(w':World):Prop:=
 ∃ι':dZ,ι.le ι'/\iW E Lo w0 ι' (e.app H) w'/\Ext w (Live Lo ι H) w' (Live Lo ι' (e.app H))/\R ι' w' (Live Lo ι' (e.app H)) v cv
theorem iS.pure(S:iW E Lo w0 ι H w){v:AV}{cv:Value}(h:R ι w (Live Lo ι H) v cv):iS E Lo w0 ι H w v (.bM []) cv w:=
 ⟨ι,dZ.le_refl _,S,Ext.refl _ _,h⟩
theorem rh(S:iW E Lo w0 ι H w){aM:Nat}(hf:pI ι H aM){cs:List AV}{c:Array Value}{e:TypeId}{f:Nat×Nat}{w1:World}(hw:w1.heap=w.heap)
  (Oo:w1.os=w.os) (F6:w1.tape=w.tape) (tX:w1.output=w.output) (hr:j6 ι w (Live Lo ι H) c 0 cs) (gf:∀k,k<c.size->¬(f.1<=k/\k<f.2)):
  let eP:=cG.cells .live cs
  let ι':=ι.put aM (w.heap.size,0)
  ι.le ι'/\iW E Lo w0 ι' ((cJ.bM [(aM,eP)]).app H) (w1.alloc (.cells c e f))/\
   Ext w (Live Lo ι H) (w1.alloc (.cells c e f)) (Live Lo ι' ((cJ.bM [(aM,eP)]).app H))/\
   (w1.alloc (.cells c e f)).heap[w.heap.size]?=some (.cells c e f)/\ι' aM=some (w.heap.size,0):=by
 intro eP ι';have hx:=xI S hf (eP:=eP) rfl (.cells c e f) hw;have hle:=dZ.Bj (p:=(w.heap.size,0)) hf.1;refine⟨hle,?_,hx,?_,by simp[ι',dZ.put]⟩
 ·refine S.alloc hf rfl hw Oo F6 tX ?_;simp only[jF,eP];exact⟨c,e,f,rfl,j6.ext hx _ _ _ _ _ hle hr,fun _=>gf⟩
 ·simp[World.alloc,hw]
theorem Hl(S:iW E Lo w0 ι H w){aM:Nat}(hf:pI ι H aM){eP:cG}(hl:eP.st=.live){o:Obj}{w1:World}(hw:w1.heap=w.heap)
  (Oo:w1.os=w.os) (F6:w1.tape=w.tape) (tX:w1.output=w.output) (hr:∀ι w L,jF ι w L 0 eP o) (Ep:eP.tP E:=by trivial):
  let ι':=ι.put aM (w.heap.size,0)
  ι.le ι'/\iW E Lo w0 ι' ((cJ.bM [(aM,eP)]).app H) (w1.alloc o)/\
   Ext w (Live Lo ι H) (w1.alloc o) (Live Lo ι' ((cJ.bM [(aM,eP)]).app H))/\ι' aM=some (w.heap.size,0):=by
 intro ι';exact⟨dZ.Bj hf.1,S.alloc hf hl hw Oo F6 tX (hr _ _ _) Ep,xI S hf hl o hw,by simp[ι',dZ.put]⟩
theorem Ay(V:Valid E P){t:Nat}{i:yT}{cs:List AV}(hi:E.ty t=some i)(hz:i.zero=some cs)(ι:dZ)(w:World)(L:Nat->Prop):
  ∃z,(zeroValue t).run P w=.ok z w/\Rs ι w L cs z.cells.toList/\cs.length=i.size/\(i.isAgg=true->∃a,z=.agg a)/\(i.isAgg=false->z.cells=#[z]):=by
 obtain⟨ti,h1,h2,h3,h4⟩:=(V.ty t i hi).info;obtain⟨z,z1,z2,z3,z4,z5⟩:=h4 cs hz;exact⟨z,by simp[zeroValue,typeInfo,h1,z1],xw 19 _ _ z2,z3,z4,z5⟩
theorem Ii(V:Valid E P){t:Nat}{z:AV}(h:gX E t=some z)(ι:dZ)(w:World)(L:Nat->Prop):
  ∃zv,(zeroValue t).run P w=.ok zv w/\R ι w L z zv:=by
 unfold gX at h;split at h
 case h_2=>cases h
 rename_i i hi;split at h
 case h_2=>cases h
 rename_i cs hz;obtain⟨zv,z1,z2,z3,z4,z5⟩:=Ay V hi hz ι w L;refine⟨zv,z1,?_⟩;split at h
 ·rename_i ha;cases h;obtain⟨vs,rfl⟩:=z4 ha;simp only[R];exact⟨vs,rfl,z2⟩
 ·rename_i ha;split at h
  ·rename_i c;cases h;rw[z5 (by simpa using ha)]at z2;simp only[Rs]at z2;obtain⟨y,ys,e1,e2,e3⟩:=z2;simp at e1;rw[e1.1];exact e2
  ·cases h
theorem Ry(V:Valid E P)(S:iW E Lo w0 ι H w){t aM:Nat}(hf:pI ι H aM){z:AV}(h:gX E t=some z):
  ∃cv w',(Instr.alloc t true (.tuple #[])).run P w=.ok cv w'/\iS E Lo w0 ι H w (.b6 aM 0) (.bM [(aM,.cells .live z.cells)]) cv w':=by
 obtain⟨zv,z1,z2⟩:=Ii V h ι w (Live Lo ι H);have hr:j6 ι w (Live Lo ι H) zv.cells 0 z.cells:=z2.cells.at (fun i v hv=>by simpa using hv);have N:=rh S hf (e:=t) (f:=(0,0)) (w1:=w) rfl rfl rfl rfl hr (by simp);refine⟨.pointer (some ⟨w.heap.size,0,none⟩),w.alloc (.cells zv.cells t (0,0)),?_,_,N.1,N.2.1,N.2.2.1,?_⟩
 ·simp[Instr.alloc,z1,newVar,newRow]
 ·simp only[R];exact⟨_,_,N.2.2.2.2,by simp⟩
theorem ZQ(S:iW E Lo w0 ι H w){t aM:Nat}(hf:pI ι H aM){z:AV}{zv:Value}(z2:R ι w (Live Lo ι H) z zv):
  ∃cv w',(Instr.box t zv).run P w=.ok cv w'/\iS E Lo w0 ι H w (.b6 aM 0) (.bM [(aM,.cells .live z.cells)]) cv w':=by
 have hr:j6 ι w (Live Lo ι H) zv.cells 0 z.cells:=z2.cells.at (fun i v hv=>by simpa using hv);have N:=rh S hf (e:=t) (f:=(0,0)) (w1:=w) rfl rfl rfl rfl hr (by simp);refine⟨.pointer (some ⟨w.heap.size,0,none⟩),w.alloc (.cells zv.cells t (0,0)),?_,_,N.1,N.2.1,N.2.2.1,?_⟩
 ·simp[Instr.box,newVar,newRow]
 ·simp only[R];exact⟨_,_,N.2.2.2.2,by simp⟩
theorem Ma(z:List AV):∀(n k:Nat),(iG z n)[k]?=if k<n*z.length then z[k%z.length]? else none
 |0,k=>by simp[iG]
 |n+1,k=>by
  simp only[iG];rw[aL9];by_cases hk:k<z.length
  ·rw[if_pos hk,if_pos (by rw[aMb];omega),Nat.mod_eq_of_lt hk]
  ·rw[if_neg hk,Ma z n (k-z.length)];have e:(k-z.length)%z.length=k%z.length:=by rw[Nat.mod_eq_sub_mod (a:=k) (by omega)]
   rw[e];have e2:(n+1)*z.length=n*z.length+z.length:=by rw[aMb,Nat.one_mul]
   by_cases h2:k-z.length<n*z.length
   ·rw[if_pos h2,if_pos (by omega)]
   ·rw[if_neg h2,if_neg (by omega)]
theorem Aj(z:List AV):∀n,(iG z n).length=n*z.length
 |0=>by simp[iG]
 |n+1=>by simp[iG,Aj z n,aMb];omega
theorem XF{cs:List AV}{z:Array Value}(h:Rs ι w L cs z.toList)(dM:0<cs.length)(n:Nat):
  Rs ι w L (iG cs n) ((Array.range (n*cs.length)).map (fun i=>z[i%z.size]!)).toList:=by
 have hz:z.size=cs.length:=by have:=h.length;simpa using this
 refine Rs.jI (by simp[Aj]) fun i x hx=>?_
 rw[Ma]at hx;split at hx
 ·rename_i hi;obtain⟨v,h1,h2⟩:=h.get _ x hx;refine⟨v,?_,h2⟩;rw[aLC]at h1⊢;rw[Array.getElem?_map,Array.getElem?_range,if_pos hi];simp only[Option.map_some,hz];rw[getElem!_def,h1]
 ·cases hx
theorem Ga(V:Valid E P)(S:iW E Lo w0 ι H w){t aM:Nat}(hf:pI ι H aM){l c v:AV}{vl vc:Value}{st:List (Nat×cG)}
  (hl:R ι w (Live Lo ι H) l vl) (hc:R ι w (Live Lo ι H) c vc) (h:fL E aM t l c=some (v,st)):
  ∃cv w',(Instr.makeSlice t vl vc).run P w=.ok cv w'/\iS E Lo w0 ι H w v (.bM st) cv w':=by
 unfold fL at h;split at h
 case h_2=>cases h
 rename_i e _ _ _ _ _ kl n kc m hi;have hu:=(V.ty t _ hi).cS;split at h
 case h_2=>cases h
 rename_i ei l9;split at h
 case h_2=>cases h
 rename_i z hz;split at h
 case isFalse=>cases h
 rename_i tU;obtain⟨h0,hnm,hb,h63,hzl,K4⟩:=tU;simp only[aLv.injEq,Prod.mk.injEq]at h;obtain⟨rfl,rfl⟩:=h;simp only[R]at hl hc;subst hl;subst hc
 obtain⟨ti,g1,g2,g3,g4⟩:=(V.ty e ei l9).info;obtain⟨zv,z1,z2,z3,_,_⟩:=g4 z hz;have hzr:Rs ι w (Live Lo ι H) z zv.cells.toList:=xw 19 _ _ z2;have hm:m.toNat*ei.bytes<=140737488355328:=hb;have run:=run_make (P:=P) w t e ti zv hu g1 z1 kl kc n m h0 hnm (by
   rw[g3]
   have:=Int.ofNat_le.2 hm
   have e1:((m.toNat:Nat):Int)=m:=by omega
   rw[Int.natCast_mul,e1]at this;rw[Int.mul_comm];omega) (by omega)
 rw[g2]at run;have Ba:=XF hzr (by omega) m.toNat;rw[hzl]at Ba;have hr:j6 ι w (Live Lo ι H) (madeCells zv.cells (m.toNat*ei.size)) 0 (iG z m.toNat):=Ba.at (fun i v hv=>by
  rw[aLC]at hv;unfold madeCells;rw[aMg];exact hv)
 have N:=rh S hf (e:=e) (f:=(0,0)) (w1:=w) rfl rfl rfl rfl hr (fun k _ hk=>by exact absurd hk.2 (Nat.not_lt_zero _));refine⟨_,_,run,_,N.1,N.2.1,N.2.2.1,?_⟩;simp only[R];refine⟨w.heap.size,0,m.toNat,madeCells zv.cells (m.toNat*ei.size),e,(0,0),N.2.2.2.2,rfl,by omega,aLr _,N.2.2.2.1,?_⟩;rw[size_madeCells];omega
end
section
variable{E:Env}{P:Program}{ι:dZ}{w:World}{L:Nat->Prop}{ts:List AV}{a:Act}{Lo:Nat->Prop}{w0:World}{H:Hp}
theorem heap_setCell(w:World)(b o:Nat)(v:Value)(x:Nat):(w.setCell ⟨b,o,none⟩ v).heap[x]?=
  if x=b then(w.heap[b]?).map (fun ob=>match ob with|.cells c e f=>.cells (c.setIfInBounds o v) e f|ob=>ob)else w.heap[x]?:=by
 simp only[World.setCell,Array.getElem?_modify];by_cases hx:x=b
 ·subst hx;simp only[if_true];cases w.heap[x]? with
  |none=>rfl
  |some ob=>cases ob<;>simp
 ·rw[if_neg (fun e=>hx e.symm),if_neg hx]
theorem tq:∀(vs:List Value) (w:World) (cb o:Nat) (c:Array Value) (e:TypeId) (f:Nat×Nat),w.heap[cb]?=some (.cells c e f)->o+vs.length<=c.size->
  ∃c',Is w (w.setCells cb o vs) cb (.cells c' e f)/\c'.size=c.size/\∀k:Nat,c'[k]?=if o<=k/\k<o+vs.length then vs[k-o]? else c[k]?
 |[],w,cb,o,c,e,f,h,_=>⟨c,⟨rfl,rfl,rfl,rfl,h,fun _ _=>rfl⟩,rfl,fun k=>by rw[if_neg (by simp only[List.length_nil];omega)]⟩
 |v::vs,w,cb,o,c,e,f,h,hl=>by
  simp only[aMn]at hl;have h1:(w.setCell ⟨cb,o,none⟩ v).heap[cb]?=some (.cells (c.setIfInBounds o v) e f):=by rw[heap_setCell,if_pos rfl,h];rfl
  obtain⟨c',g1,g2,g3⟩:=tq vs (w.setCell ⟨cb,o,none⟩ v) cb (o+1) _ e f h1 (by simp;omega);refine⟨c',⟨g1.os,g1.tape,g1.output,?_,g1.here,fun x hx=>?_⟩,by rw[g2];simp,fun k=>?_⟩
  ·have:=g1.size
   simpa[World.setCells,World.setCell]using this
  ·have:=g1.there x hx
   rw[heap_setCell,if_neg hx]at this;exact this
  ·rw[g3];simp only[aMn];by_cases hk:k=o
   ·subst hk;rw[if_neg (by omega),if_pos (by omega),Array.getElem?_setIfInBounds,if_pos rfl,if_pos (by omega)]
    simp
   ·by_cases h2:o+1<=k/\k<o+1+vs.length
    ·rw[if_pos h2,if_pos (by omega)];rw[show k-o=(k-(o+1))+1 from by omega]
     simp
    ·rw[if_neg h2,if_neg (by omega),Array.getElem?_setIfInBounds_ne (fun q=>hk q.symm)]
theorem xf(S:iW E Lo w0 ι H w){b cb co off:Nat}{cs xs:List AV}{vs:List Value}(hb:H[b]?=some (.cells .live cs))(hi:ι b=some (cb,co))
  (hr:Rs ι w (Live Lo ι H) xs vs) (hle:off+xs.length<=cs.length) (sH:xs.all b7=true):
  (storeCells ⟨cb,co+off,none⟩ vs).run P w=.ok () (w.setCells cb (co+off) vs)/\
   iW E Lo w0 ι (H.set b (.cells .live (dE cs off xs))) (w.setCells cb (co+off) vs)/\
   Ext w (Live Lo ι H) (w.setCells cb (co+off) vs) (Live Lo ι (H.set b (.cells .live (dE cs off xs)))):=by
 obtain⟨NK,co',o,g1,g2,g3,g4,_⟩:=S.obj b _ hb (by simp[cG.st]);rw[hi]at g1;cases g1
 simp only[jF]at g3;obtain⟨c,e,f,rfl,g5,g6⟩:=g3;have hlen:vs.length=xs.length:=hr.length;by_cases J6:xs=[]
 ·subst J6;simp at hlen;subst hlen;have e1:dE cs off []=cs:=by simp[dE]
  have e2:H.set b (.cells .live cs)=H:=by
   apply List.ext_getElem?;intro k;rw[aLq]
   split
   ·rename_i hk;subst hk;rw[hb];split<;>rename_i gO
    ·rfl
    ·exact absurd (aLu.1 hb).1 gO
   ·rfl
  rw[e1,e2];exact⟨by simp[storeCells,World.setCells],S,Ext.refl _ _⟩
 have hxl:0<xs.length:=List.length_pos_iff.2 J6;have tg:cs≠[]:=fun q=>by subst q;simp only[List.length_nil]at hle;omega
 have yf:=g5.size tg;have oc:=run_storeCells_cells (P:=P) cb (co+off) vs 0 w (fun j hj=>by
   rw[uF g2,aMf (show co+off+0+j<c.size by omega)];rfl) (fun j hj=>by
   have:=g6 trivial (co+off+0+j) (by omega)
   simp only[World.frozen?,g2];simpa using this) (fun v hv=>by
   obtain⟨i,zL⟩:=aMj hv;have hil:i<xs.length:=by have:=(aLu.1 zL).1;omega
   obtain⟨v',k1,k2⟩:=hr.get i _ (aMh hil);rw[zL]at k1;cases k1
   exact Hn k2 (aMa.1 sH _ (aMo hil)))
 obtain⟨c',q1,q2,q3⟩:=tq vs w cb (co+off) c e f g2 (by omega);refine⟨by simpa using oc,?_⟩;have tW:Live Lo ι H cb:=.inr ⟨b,_,co,hb,rfl,hi⟩;have hx:=q1.ext (L:=Live Lo ι H) (L':=Live Lo ι H) g2 (fun cs e f q=>by cases q;exact⟨c',_,rfl,q2⟩) tW (fun _ h=>h);refine S.update hb rfl rfl hi g2 (fun cs e f q=>by cases q;exact⟨c',_,rfl,q2⟩) q1 ?_;simp only[jF];refine⟨c',e,f,rfl,j6.jI fun i x G7=>?_,fun _=>by rw[q2];exact g6 trivial⟩;rw[q3];unfold dE at G7;rw[aL9,aL9]at G7;simp only[aMk,aMp]at G7;have On:min off cs.length=off:=by omega
 rw[On]at G7;by_cases h1:i<off
 ·rw[if_pos (by omega),if_pos h1,List.getElem?_take,if_pos h1]at G7;rw[if_neg (by omega)];obtain⟨v,k1,k2⟩:=g5.get i x G7;exact⟨v,k1,R.ext hx _ _ _ _ (dZ.le_refl _) k2⟩
 ·by_cases h2:i<off+xs.length
  ·rw[if_pos h2,if_neg h1]at G7;rw[if_pos (by omega)];obtain⟨v,k1,k2⟩:=hr.get _ x G7;exact⟨v,by rw[<-k1];congr 1;omega,R.ext hx _ _ _ _ (dZ.le_refl _) k2⟩
  ·rw[if_neg h2,List.getElem?_drop]at G7;rw[if_neg (by omega)];obtain⟨v,k1,k2⟩:=g5.get _ x G7;refine⟨v,?_,R.ext hx _ _ _ _ (dZ.le_refl _) k2⟩;rw[<-k1];congr 1;omega
theorem mN{b:Nat}{eP:cG}{x:cG}(hb:H[b]?=some x):(cJ.bM [(b,eP)]).app H=H.set b eP:=by
 have:=(aLu.1 hb).1
 simp[cJ.app,dP,this]
theorem PM(V:Valid E P)(S:iW E Lo w0 ι H w){t:Nat}{p x:AV}{vp vx:Value}{st:List (Nat×cG)}(hp:R ι w (Live Lo ι H) p vp)(hx:R ι w (Live Lo ι H) x vx)
  (h:iC E H t p x=some st):∃w',(Instr.storeAt t vp vx).run P w=.ok () w'/\iS E Lo w0 ι H w aX (.bM st) undef w':=by
 unfold iC at h;split at h
 case h_2=>cases h
 rename_i b off i hi;split at h
 case h_2=>cases h
 rename_i cs hb;split at h
 ·cases h
 rename_i tU;simp only[ne_eq,aMi,decide_eq_true_eq,not_or,Decidable.not_not,Nat.not_lt,aMd,aMe]at tU;obtain⟨⟨h1,h2⟩,h3⟩:=tU;cases h;simp only[R]at hp;obtain⟨cb,co,g1,rfl⟩:=hp;have T:=xf (P:=P) (xs:=x.cells) (off:=off) S hb g1 hx.cells (by omega) (by simpa using h3);refine⟨_,?_,ι,dZ.le_refl _,by rw[mN hb];exact T.2.1,by rw[mN hb];exact T.2.2,by simp[aX,undef,R,Rs]⟩;have yf:vx.cells.size=i.size:=by have:=hx.cells.length;simpa[h1]using this
 simp only[Instr.storeAt,Instr.sureAddr,Sem.run_bind,Sem.run_pure,Result.andThen_ok,storeVar,cU V hi w,yf,ne_eq,not_true_eq_false,if_false];exact T.1
end
section
variable{E:Env}{P:Program}{ι:dZ}{w:World}{L:Nat->Prop}{ts:List AV}{a:Act}{Lo:Nat->Prop}{w0:World}{H:Hp}
theorem xY(S:iW E Lo w0 ι H w){x:AV}{vx:Value}(hx:R ι w (Live Lo ι H) x vx){esz n:Nat}{xs:List AV}(hl:pV x=some n)(h:sJ H esz x=some xs):
  ∃news:Array Value,(Builtin.lenOf vx).run P w=.ok n w/\xs.length=n*esz/\Rs ι w (Live Lo ι H) xs news.toList/\
   (∀m,m<=n->(Builtin.firstCells esz m vx).run P w=.ok (news.extract 0 (m*esz)) w):=by
 unfold sJ at h;split at h
 ·rename_i b;split at h
  case isFalse=>cases h
  rename_i C8;cases h;subst C8;simp only[pV,aLv.injEq]at hl;simp only[R]at hx;subst hx;subst hl;refine⟨(b.map fun c=>Value.int .u8 c.toNat).toArray,?_,by simp,?_,fun m hm=>?_⟩
  ·simp[Builtin.lenOf,ByteArray.size]
  ·refine Rs.jI (by simp) fun i y hy=>?_
   simp only[List.getElem?_map,aLp]at hy;obtain⟨c,hc,rfl⟩:=hy;refine⟨.int .u8 c.toNat,by simp[hc],by simp[R]⟩
  ·simp only[Builtin.firstCells,Sem.run_pure];congr 1;apply aMv;rw[Array.toList_map,ByteArray.data_extract,aL7,aL7];simp[aLy,List.map_take]
 ·unfold kf at h;split at h
  ·cases h;simp only[pV,aLv.injEq]at hl;subst hl
   simp only[R]at hx;subst hx
   exact⟨#[],by simp[Builtin.lenOf],by simp,by simp[Rs],fun m hm=>by simp[Builtin.firstCells]⟩
  ·cases h;simp only[pV,aLv.injEq]at hl;subst hl
   simp only[R]at hx;obtain⟨ad,cap,rfl⟩:=hx
   refine⟨#[],by simp[Builtin.lenOf],by simp,by simp[Rs],fun m hm=>?_⟩
   have:m=0:=by omega
   subst this;simp[Builtin.firstCells,loadCells,loadCellsFrom]
  ·rename_i cs len _;split at h
   case isFalse=>cases h
   rename_i iE;cases h;simp only[pV,aLv.injEq]at hl;subst hl
   simp only[R]at hx;obtain⟨cb,o,cap,c,e,f,rfl,h2,h3,h4,h5⟩:=hx;have h5':=j6.ext (Ext.refl w (Live Lo ι H)) _ _ ι _ _ (uc ι) h5;refine⟨c.extract o (o+xs.length),by simp[Builtin.lenOf],iE,h5'.list,fun m hm=>?_⟩;have kM:m*esz<=xs.length:=by rw[iE];exact aL8 _ hm
   obtain⟨vs,g1,g2,g3⟩:=GC (P:=P) h3 (h5'.take (m*esz));have hlen:(xs.take (m*esz)).length=m*esz:=by simp;omega
   have g2':=run_loadCells_list (P:=P) w ⟨cb,o,none⟩ (c.extract o (o+m*esz)).toList (fun j v hj=>by
    rw[addr_add,uF h3];rw[aLC,aMc]at hj;split at hj
    ·exact hj
    ·cases hj)
   have vg:(c.extract o (o+m*esz)).toList.length=m*esz:=by
    have:=(h5'.take (m*esz)).list.length
    rw[hlen]at this;exact this
   rw[vg]at g2';simp only[Builtin.firstCells,g2'];congr 1;apply aMv;simp only[aL7,aLy,aMl,List.drop_zero,List.take_take];congr 1;omega
  ·rename_i b off len e kc _;split at h
   ·cases h
   rename_i C8;simp only[ne_eq,Decidable.not_not]at C8;subst C8;split at h
   case h_2=>cases h
   rename_i st cs hb;split at h
   ·cases h
   rename_i fK;simp only[not_or,Nat.not_lt]at fK;cases h;simp only[pV,aLv.injEq]at hl;subst hl
   simp only[R]at hx;obtain⟨cb,co,cap,c,e',f,h1,rfl,h3,h4,h5,h6⟩:=hx;obtain⟨NK,co',o,g1,g2,g3,_⟩:=S.obj b _ hb fK.1;rw[h1]at g1;cases g1
   rw[h5]at g2;cases g2
   simp only[jF]at g3;obtain⟨c2,e2,f2,q1,q2,_⟩:=g3;cases q1;have hr:=(q2.drop off).take (len*e);have hlen:((cs.drop off).take (len*e)).length=len*e:=by simp;omega
   refine⟨c.extract (co+off) (co+off+len*e),by simp[Builtin.lenOf],hlen,by have:=hr.list;rwa[hlen]at this,fun m hm=>?_⟩;have kM:m*e<=len*e:=aL8 _ hm;have g2':=run_loadCells_list (P:=P) w ⟨cb,co+off,none⟩ (c.extract (co+off) (co+off+m*e)).toList (fun j v hj=>by
    rw[addr_add,uF h5];rw[aLC,aMc]at hj;split at hj
    ·exact hj
    ·cases hj)
   have vg:(c.extract (co+off) (co+off+m*e)).toList.length=m*e:=by
    have:=(hr.take (m*e)).list.length
    have h8:(((cs.drop off).take (len*e)).take (m*e)).length=m*e:=by simp;omega
    rw[h8]at this;exact this
   rw[vg]at g2';simp only[Builtin.firstCells,g2'];congr 1;apply aMv;simp only[aL7,aLy,aMl,List.drop_zero,List.take_take];congr 1;omega
  ·cases h
section
variable{t u ty e:Nat}{eg:Array Nat}{args:Array Value}{vx:Value}{ui ei:yT}{n:Nat}{news:Array Value}{b:Option Addr}{sl sc:Nat}
theorem DD(V:Valid E P)(MX:eg[0]?=some t)(Oe:eg[1]?=some u)(J0:args[0]?=some (.slice b sl sc))(C9:args[1]?=some vx)
  (fX:(underlying t).run P w=.ok (.slice e) w) (l9:E.ty e=some ei) (M7:(underlying u).run P w=.ok ui.cS w) (hq:∀k,ui.cS≠ .int k)
  (hlen:(Builtin.lenOf vx).run P w=.ok n w) (aa5:(Builtin.firstCells ei.size n vx).run P w=.ok news w) (F4:sl+n<=sc):
  (Builtin.append_ eg ty args).run P w=(match b with
   |some a=>(do storeCells (a.add (sl*ei.size)) news.toList;pure (.slice b (sl+n) sc):Sem Value).run P w
   |none=>.ok (.slice b (sl+n) sc) w):=by
 cases hd:ui.cS
 case int k=>exact absurd hd (hq k)
 all_goals
  rw[hd]at M7;simp only[Builtin.append_,MX,Oe,J0,C9,Sem.run_bind,fX,Result.andThen_ok,cU V l9 w,M7,Sem.run_pure,hlen,aa5,F4,if_true,Bool.not_false,aLs,if_false];cases b<;>simp
theorem Gx(V:Valid E P)(MX:eg[0]?=some t)(Oe:eg[1]?=some u)(J0:args[0]?=some (.slice b sl sc))(C9:args[1]?=some vx)
  (fX:(underlying t).run P w=.ok (.slice e) w) (l9:E.ty e=some ei) (M7:(underlying u).run P w=.ok ui.cS w) (hq:∀k,ui.cS≠ .int k)
  (hlen:(Builtin.lenOf vx).run P w=.ok n w) (F4:¬sl+n<=sc) (hb:(sl+n)*ei.bytes<=140737488355328) (h63:sl+n<=4611686018427387904)
  {O8 z:Array Value} (hz:∀w:World,∃zv,(zeroValue e).run P w=.ok zv w/\zv.cells=z)
  (aa5:(Builtin.firstCells ei.size n vx).run P w.drew=.ok news w.drew) (hold:(Builtin.firstCells ei.size sl (.slice b sl sc)).run P w.drew=.ok O8 w.drew):
  (Builtin.append_ eg ty args).run P w=.ok (.slice (some ⟨w.heap.size,0,none⟩) (sl+n) (grownCap w (sl+n) sc e))
   (w.drew.alloc (.cells (O8++news++Builtin.zeroCells z (grownCap w (sl+n) sc e-(sl+n))) e)):=by
 obtain⟨ti,t1,t2,t3⟩:=V.Lb l9;have aok:=growslice_fits (need:=sl+n) (old:=sc) (bytes:=ei.bytes) (by omega) hb;have Wp:¬(281474976710656<Builtin.nextslicecap (sl+n) sc*ei.bytes):=by omega
 have ahZ:IntKind.i64.max=9223372036854775807:=by decide
 have hn2:¬(9223372036854775807<((sl+n:Nat):Int)):=by omega
 obtain⟨zv,Sn,hz2⟩:=hz w.drew;have aCh:Sem.run P (Builtin.firstCells ei.size n vx) {heap:=w.heap,tape:=w.tape,drawn:=w.drawn+1,os:=w.os,output:=w.output}=.ok news w.drew:=aa5;have Ws:Sem.run P (Builtin.firstCells ei.size sl (.slice b sl sc)) {heap:=w.heap,tape:=w.tape,drawn:=w.drawn+1,os:=w.os,output:=w.output}=.ok O8 w.drew:=hold;have Sk:∀w:World,(typeInfo e).run P w=.ok ti w:=fun w=>by simp[typeInfo,t1]
 cases hd:ui.cS
 case int k=>exact absurd hd (hq k)
 all_goals
  rw[hd]at M7;simp only[Builtin.append_,MX,Oe,J0,C9,Sem.run_bind,fX,Result.andThen_ok,cU V l9 w,M7,Sem.run_pure,hlen,F4,if_false,Bool.not_false,aLs,Sk,t3,ahZ,gt_iff_lt,hn2,false_and,Wp,run_choose,Question.forced,run_askRoom,Ws,aa5,Sn,hz2,newRow,run_newObj,Nat.reducePow,if_true];rfl
theorem DE(V:Valid E P){k k':IntKind}{m:Int}(MX:eg[0]?=some t)(Oe:eg[1]?=some u)(J0:args[0]?=some (.slice b sl sc))(C9:args[1]?=some (.int k' m))
  (fX:(underlying t).run P w=.ok (.slice e) w) (l9:E.ty e=some ei) (M7:(underlying u).run P w=.ok ui.cS w) (hq:ui.cS=.int k)
  (h0:0<=m) (aGu:m<=4611686018427387904) (hmb:m.toNat*ei.bytes<=140737488355328) (K4:m.toNat*ei.size≠0)
  (F4:¬sl+m.toNat<=sc) (hb:(sl+m.toNat)*ei.bytes<=140737488355328) (h63:sl+m.toNat<=4611686018427387904) (hbz:ei.bytes≠0)
  {O8 z:Array Value} (hz:∀w:World,∃zv,(zeroValue e).run P w=.ok zv w/\zv.cells=z)
  (hold:(Builtin.firstCells ei.size sl (.slice b sl sc)).run P w.drew=.ok O8 w.drew):
  (Builtin.append_ eg ty args).run P w=.ok (.slice (some ⟨w.heap.size,0,none⟩) (sl+m.toNat) (grownCap w (sl+m.toNat) sc e))
   (w.drew.alloc (.cells (O8++Builtin.zeroCells z m.toNat++Builtin.zeroCells z (grownCap w (sl+m.toNat) sc e-(sl+m.toNat))) e)):=by
 obtain⟨ti,t1,t2,t3⟩:=V.Lb l9;have aok:=growslice_fits (need:=sl+m.toNat) (old:=sc) (bytes:=ei.bytes) (by omega) hb;have Wp:¬(281474976710656<Builtin.nextslicecap (sl+m.toNat) sc*ei.bytes):=by omega
 have ahZ:IntKind.i64.max=9223372036854775807:=by decide
 have hn2:¬(9223372036854775807<((sl+m.toNat:Nat):Int)):=by omega
 obtain⟨zv,Sn,hz2⟩:=hz w.drew;have Ws:Sem.run P (Builtin.firstCells ei.size sl (.slice b sl sc)) {heap:=w.heap,tape:=w.tape,drawn:=w.drawn+1,os:=w.os,output:=w.output}=.ok O8 w.drew:=hold;have Sk:∀w:World,(typeInfo e).run P w=.ok ti w:=fun w=>by simp[typeInfo,t1]
 have hw:IntKind.i64.wrap m=m:=by rw[IntKind.wrap_i64];omega
 have n1:¬m<0:=by omega
 have n3:¬(281474976710656<m*(ei.bytes:Int)):=by
  have:=Int.ofNat_le.2 hmb
  have e1:((m.toNat:Nat):Int)=m:=by omega
  rw[Int.natCast_mul,e1]at this;omega
 rw[hq]at M7;simp only[Builtin.append_,MX,Oe,J0,C9,Sem.run_bind,fX,Result.andThen_ok,cU V l9 w,M7,Sem.run_pure,asInt,asIntOf,hw,n1,n3,K4,F4,if_false,Bool.not_true,aLs,Sk,t3,ahZ,gt_iff_lt,hn2,false_and,Wp,run_choose,Question.forced,run_askRoom,Ws,Sn,hz2,newRow,run_newObj,Nat.reducePow,Int.reducePow,if_true];rfl
end
theorem A5(S:iW E Lo w0 ι H w){aM:Nat}(hf:pI ι H aM){cs:List AV}{n esz e cap:Nat}{vs rest:Array Value}(hr:Rs ι w (Live Lo ι H) cs vs.toList)
  (hn:cs.length=n*esz) (KT:n<=cap) (wL:rest.size=(cap-n)*esz):
  iS E Lo w0 ι H w (.aI aM 0 n esz n) (.bM [(aM,.cells .live cs)]) (.slice (some ⟨w.heap.size,0,none⟩) n cap) (w.drew.alloc (.cells (vs++rest) e)):=by
 have hl:vs.size=cs.length:=by have:=hr.length;simpa using this
 have tT:j6 ι w (Live Lo ι H) (vs++rest) 0 cs:=hr.at (fun i v hv=>by
  rw[aLC]at hv
  have:i<vs.size:=(Array.getElem?_eq_some_iff.1 hv).1
  rw[aMg,Array.getElem?_append_left this];exact hv)
 have N:=rh S hf (e:=e) (f:=(0,0)) (w1:=w.drew) rfl rfl rfl rfl tT (fun k _ hk=>absurd hk.2 (Nat.not_lt_zero _));refine⟨_,N.1,N.2.1,N.2.2.1,?_⟩;simp only[R];refine⟨w.heap.size,0,cap,vs++rest,e,(0,0),N.2.2.2.2,rfl,aLr _,KT,N.2.2.2.1,?_⟩;rw[Array.size_append,hl,hn,wL,<-aMb]
 have:n+(cap-n)=cap:=by omega
 rw[this];omega
end
section
variable{E:Env}{P:Program}{ι:dZ}{w:World}{L:Nat->Prop}{ts:List AV}{a:Act}{Lo:Nat->Prop}{w0:World}{H:Hp}
theorem iW.dr(S:iW E Lo w0 ι H w):iW E Lo w0 ι H w.drew:=(S.drew (w':=w.drew) rfl rfl rfl rfl).1
theorem KI{w':World}(h:w'.heap=w.heap):Ext w L w' L:=
 ⟨by rw[h];exact aLr _,fun _ _ hn=>⟨by rw[h],hn⟩,fun c cs e f hc=>⟨cs,f,by rw[h];exact hc,rfl⟩⟩
theorem R.dr{x:AV}{v:Value}(h:R ι w L x v):R ι w.drew L x v:=R.ext (w:=w) (w':=w.drew) (KI rfl) _ _ _ _ (dZ.le_refl _) h
theorem Rs.azl{x:List AV}{v:List Value}(h:Rs ι w.drew L x v):Rs ι w L x v:=Rs.ext (w:=w.drew) (w':=w) (KI rfl) _ _ _ _ (dZ.le_refl _) h
theorem sB(z:Array Value)(n:Nat):(Builtin.zeroCells z n).size=n*z.size:=size_zeroCells z n
theorem MS(V:Valid E P){e:Nat}{ei:yT}(l9:E.ty e=some ei){zc:List AV}(hz:ei.zero=some zc):
  ∃z:Array Value,z.size=ei.size/\∀w:World,∃zv,(zeroValue e).run P w=.ok zv w/\zv.cells=z:=by
 obtain⟨ti,h1,h2,h3,h4⟩:=(V.ty e ei l9).info;obtain⟨z,z1,z2,z3,z4,z5⟩:=h4 zc hz
 have:=(xw (ι:=cE) (w:=default) (L:=fun _=>False) 19 _ _ z2).length
 exact⟨z.cells,by simp at this;omega,fun w=>⟨z,by simp[zeroValue,typeInfo,h1,z1],rfl⟩⟩
theorem Ee{cb o m esz len cap:Nat}{c:Array Value}{e:TypeId}{f:Nat×Nat}(hc:w.heap[cb]?=some (.cells c e f))(hle:o+m*esz<=c.size):
  (Builtin.firstCells esz m (.slice (some ⟨cb,o,none⟩) len cap)).run P w=.ok (c.extract o (o+m*esz)) w:=by
 have g:=run_loadCells_list (P:=P) w ⟨cb,o,none⟩ (c.extract o (o+m*esz)).toList (fun j v hj=>by
  rw[addr_add,uF hc];rw[aLC,aMc]at hj;split at hj
  ·exact hj
  ·cases hj)
 have hl:(c.extract o (o+m*esz)).toList.length=m*esz:=by simp;omega
 rw[hl]at g;simp only[Builtin.firstCells,g]
theorem Ny(V:Valid E P)(S:iW E Lo w0 ι H w){aM t u ty:Nat}(hf:pI ι H aM){eg:Array Nat}{args:Array Value}{vs vx:Value}{ui:yT}
  (MX:eg[0]?=some t) (Oe:eg[1]?=some u) (J0:args[0]?=some vs) (C9:args[1]?=some vx) (hu:E.ty u=some ui)
  (hq:∀k,ui.cS≠ .int k) {s x v:AV} {st:List (Nat×cG)}
  (hs:R ι w (Live Lo ι H) s vs) (hx:R ι w (Live Lo ι H) x vx) (h:fM E H aM false t s x=some (v,st)):
  ∃cv w',(Builtin.append_ eg ty args).run P w=.ok cv w'/\iS E Lo w0 ι H w v (.bM st) cv w':=by
 unfold fM at h;split at h
 case h_2=>cases h
 rename_i e _ _ _ _ _ hi;have fX:(underlying t).run P w=.ok (.slice e) w:=bg V hi w;have M7:(underlying u).run P w=.ok ui.cS w:=bg V hu w;split at h
 case h_2=>cases h
 rename_i ei l9;split at h
 case h_2=>cases h
 rename_i n xs tY;simp only[vJ,aLs,if_false]at tY;split at tY
 case h_2=>cases tY
 rename_i n' xs' hlx hsx;cases tY;obtain⟨news,x1,x2,x3,x4⟩:=xY S hx hlx hsx;obtain⟨aql,d1,d2,d3,d4⟩:=xY S.dr hx.dr hlx hsx;have hns:news.size=n*ei.size:=by have:=x3.length;rw[<-x2];simpa using this
 have hnd:aql.size=n*ei.size:=by have:=d3.length;rw[<-d2];simpa using this
 have xn:=x4 n (aLr _);rw[<-hns,aMm]at xn;have dn:=d4 n (aLr _);rw[<-hnd,aMm]at dn;split at h
 ·
  rename_i Ew;subst Ew;have Ew:news=#[]:=by apply Array.eq_empty_of_size_eq_zero;rw[hns];simp
  have CM:∃b sl sc,vs=.slice b sl sc/\sl<=sc/\(b=none∨∃ad,b=some ad):=by
   cases s<;>first|(exfalso;revert h;simp;done)|simp only[R]at hs
   ·exact⟨none,0,0,hs,aLr _,.inl rfl⟩
   ·obtain⟨ad,cap,rfl⟩:=hs;exact⟨_,_,_,rfl,Nat.zero_le _,.inr ⟨ad,rfl⟩⟩
   ·obtain⟨cb,co,cap,c,e',f,h1,rfl,h3,h4,_⟩:=hs;exact⟨_,_,_,rfl,by omega,.inr ⟨_,rfl⟩⟩
   ·obtain⟨cb,o,cap,c,e',f,rfl,h3,_⟩:=hs;exact⟨_,_,_,rfl,by omega,.inr ⟨_,rfl⟩⟩
  obtain⟨b,sl,sc,rfl,hle,hb⟩:=CM;have oc:=DD (ty:=ty) V MX Oe J0 C9 fX l9 M7 hq x1 xn (by omega);refine⟨.slice b sl sc,w,?_,?_⟩
  ·rw[oc];subst Ew;rcases hb with rfl|⟨ad,rfl⟩
   ·simp
   ·simp[storeCells]
  ·have:v=s/\st=[]:=by
    cases s<;>first|(exfalso;revert h;simp;done)|(simp only[if_true,aLv.injEq,Prod.mk.injEq]at h;exact⟨h.1.symm,h.2.symm⟩)
   rw[this.1,this.2];exact iS.pure S hs
 rename_i Ew;split at h
 ·cases h
 rename_i JY;simp only[aMi,decide_eq_true_eq,not_or,aMd,aMe]at JY;obtain⟨⟨aGV,sH⟩,hzn⟩:=JY;obtain⟨zc,hzc⟩:∃zc,ei.zero=some zc:=by
  cases hh:ei.zero with
  |none=>rw[hh]at hzn;exact absurd rfl hzn
  |some zc=>exact⟨zc,rfl⟩
 obtain⟨z,hzs,hz⟩:=MS V l9 hzc;have d3':=d3.azl;split at h
 ·
  split at h
  case isFalse=>cases h
  rename_i hb;obtain⟨sG,tz⟩:=hb;cases h;simp only[R]at hs;subst hs;have hold:(Builtin.firstCells ei.size 0 (.slice none 0 0)).run P w.drew=.ok #[] w.drew:=by simp[Builtin.firstCells]
  have oc:=Gx (ty:=ty) V MX Oe J0 C9 fX l9 M7 hq x1 (by omega) (by rw[aMg];exact sG) (by omega) hz dn hold;rw[aMg]at oc;have G:=A5 S hf (e:=e) (rest:=Builtin.zeroCells z (grownCap w n 0 e-n)) d3' x2 (grownCap_ge w n 0 e) (by rw[sB,hzs]);exact⟨_,_,by rw[oc];simp,G⟩
 ·
  rename_i b off len esz kc _;split at h
  case h_2=>cases h
  rename_i cs hb;simp only[R]at hs;obtain⟨cb,co,cap,c,e',f,h1,rfl,h3,h4,h5,h6⟩:=hs;obtain⟨NK,co',o,g1,g2,g3,g4,_⟩:=S.obj b _ hb (by simp[cG.st]);rw[h1]at g1;cases g1
  rw[h5]at g2;cases g2
  simp only[jF]at g3;obtain⟨c2,e2,f2,q1,q2,q3⟩:=g3;cases q1;split at h
  ·
   rename_i hk;split at h
   case isFalse=>cases h
   rename_i hc;obtain⟨C8,hle⟩:=hc;cases h;have oc:=DD (ty:=ty) V MX Oe J0 C9 fX l9 M7 hq x1 xn (by omega);have hm:off+len*esz+xs.length<=cs.length:=by rw[x2,<-C8,aLt,<-aMb];exact hle
   have T:=xf (P:=P) (xs:=xs) (off:=off+len*esz) S hb h1 x3 hm (by simpa using sH);refine⟨.slice (some ⟨cb,co+off,none⟩) (len+n) cap,_,?_,ι,dZ.le_refl _,by rw[mN hb];exact T.2.1,by rw[mN hb];exact T.2.2,?_⟩
   ·rw[oc];simp only[addr_add,<-C8,aLt,Sem.run_bind]
    have:=T.1
    rw[show co+(off+len*esz)=co+(off+len*esz)from rfl]at this;rw[this];rfl
   ·simp only[R];obtain⟨c',f',k1,k2⟩:=T.2.2.shape cb c e' f h5;exact⟨cb,co,cap,c',e',f',h1,rfl,hk,h4,k1,by omega⟩
  ·rename_i hk;split at h
   case isFalse=>cases h
   rename_i hc;obtain⟨C8,hle,sG,tz⟩:=hc;cases h;have wG:Rs ι w (Live Lo ι H) ((cs.drop off).take (len*esz)) (c.extract (co+off) (co+off+len*esz)).toList:=by
    have:=((q2.drop off).take (len*esz)).list
    have hlen:((cs.drop off).take (len*esz)).length=len*esz:=by simp;omega
    rwa[hlen]at this
   have hlen:((cs.drop off).take (len*esz)).length=len*esz:=by simp;omega
   by_cases F4:len+n<=cap
   ·
    have oc:=DD (ty:=ty) V MX Oe J0 C9 fX l9 M7 hq x1 xn F4;have yK:co+off+len*esz+n*esz<=c.size:=by
     have:(len+n)*esz<=cap*esz:=aL8 _ F4
     rw[aMb]at this;omega
    have hvl:news.toList.length=n*esz:=by rw[C8];simpa using hns
    have ae0:=run_storeCells_cells (P:=P) cb (co+off+len*esz) news.toList 0 w (fun j hj=>by
      rw[uF h5,aMf (show co+off+len*esz+0+j<c.size by omega)];rfl) (fun j hj=>by
      have:=q3 trivial (co+off+len*esz+0+j) (by omega)
      simp only[World.frozen?,h5];simpa using this) (fun v hv=>by
      obtain⟨i,zL⟩:=aMj hv;have hil:i<xs.length:=by have:=(aLu.1 zL).1;rw[x2,<-C8];omega
      obtain⟨v',k1,k2⟩:=x3.get i _ (aMh hil);rw[zL]at k1;cases k1
      exact Hn k2 (aMa.1 (by simpa using sH) _ (aMo hil)))
    obtain⟨c',o1,o2,o3⟩:=tq news.toList w cb (co+off+len*esz) c e' f h5 (by omega);have Ey:nw (.cells c e' f) (.cells c' e' f):=fun cs e f q=>by cases q;exact⟨c',_,rfl,o2⟩
    have tW:Live Lo ι H cb:=.inr ⟨b,_,co,hb,rfl,h1⟩;have J6:=o1.ext (L:=Live Lo ι H) (L':=Live Lo ι H) h5 Ey tW (fun _ h=>h);have KZ:=dZ.Bj (p:=(cb,co+off)) hf.1;have G:=S.ajI (cs0:=[]) (co':=co+off) (blk':=.cells .live ((cs.drop off).take (len*esz)++xs)) hb rfl rfl hf h1 h5 Ey o1 (by
     simp only[jF];refine⟨c',e',f,rfl,j6.jI fun i y hy=>?_,fun _=>by rw[o2];exact q3 trivial⟩;rw[o3];rw[aL9]at hy;rw[hlen]at hy;by_cases h8:i<len*esz
     ·rw[if_pos h8]at hy;rw[if_neg (by omega)];obtain⟨v,k1,k2⟩:=((q2.drop off).take (len*esz)).get i y hy;exact⟨v,k1,R.ext J6 _ _ _ _ KZ k2⟩
     ·rw[if_neg h8]at hy;have hil:=(aLu.1 hy).1;rw[if_pos (by rw[hvl];rw[x2,<-C8]at hil;omega)];obtain⟨v,k1,k2⟩:=x3.get _ y hy;exact⟨v,by rw[<-k1];congr 1;omega,R.ext J6 _ _ _ _ KZ k2⟩) (by simp)
    have gT:(cJ.bM [(b,.cells .dead []),(aM,.cells .live ((cs.drop off).take (len*esz)++xs))]).app H=dP (H.set b (.cells .dead [])) aM (.cells .live ((cs.drop off).take (len*esz)++xs)):=by have gO:=(aLu.1 hb).1;simp[cJ.app,dP,gO]
    refine⟨.slice (some ⟨cb,co+off,none⟩) (len+n) cap,_,?_,_,KZ,by rw[gT];exact G.1,by rw[gT];exact G.2,?_⟩
    ·rw[oc];simp only[addr_add,<-C8,Sem.run_bind,aLt]at ae0⊢
     have:=ae0
     rw[this];rfl
    ·simp only[R];exact⟨cb,co+off,cap,c',e',f,by simp[dZ.put],by simp,aLr _,F4,o1.here,by rw[o2];omega⟩
   ·
    have hold:(Builtin.firstCells ei.size len (.slice (some ⟨cb,co+off,none⟩) len cap)).run P w.drew=.ok (c.extract (co+off) (co+off+len*esz)) w.drew:=by
     rw[<-C8];exact Ee (w:=w.drew) h5 (by
      have:len*esz<=cap*esz:=aL8 _ (by omega)
      omega)
    have oc:=Gx (ty:=ty) V MX Oe J0 C9 fX l9 M7 hq x1 F4 sG (by omega) hz dn hold;have K:=S.kill (b:=b) [] (by simp);have hf':pI ι (H.set b (.cells .dead [])) aM:=by
     refine⟨hf.1,?_⟩;rcases hf.2 with q|q
     ·exact .inl (by simpa using q)
     ·refine .inr ?_;have GZ:b≠aM:=fun e=>by subst e;rw[hf.1]at h1;cases h1
      rw[aLq,if_neg GZ];exact q
    have tf:Rs ι w (Live Lo ι (H.set b (.cells .dead []))) ((cs.drop off).take (len*esz)++xs) (c.extract (co+off) (co+off+len*esz)++aql).toList:=by rw[Array.toList_append];exact(Rs.ext K.2 _ _ _ _ (dZ.le_refl _) wG).append (Rs.ext K.2 _ _ _ _ (dZ.le_refl _) d3')
    have G:=A5 K.1 hf' (e:=e) (n:=len+n) (esz:=esz) (rest:=Builtin.zeroCells z (grownCap w (len+n) cap e-(len+n))) tf
     (by rw[aMk,hlen,x2,<-C8,aMb]) (grownCap_ge w (len+n) cap e) (by rw[sB,hzs,C8])
    obtain⟨ι',p1,p2,p3,p4⟩:=G;have gT:(cJ.bM [(b,.cells .dead []),(aM,.cells .live ((cs.drop off).take (len*esz)++xs))]).app H=(cJ.bM [(aM,.cells .live ((cs.drop off).take (len*esz)++xs))]).app (H.set b (.cells .dead [])):=by have gO:=(aLu.1 hb).1;simp[cJ.app,dP,gO]
    refine⟨_,_,oc,ι',p1,by rw[gT];exact p2,by rw[gT];exact K.2.trans p3,by rw[gT];exact p4⟩
 ·cases h
end
section
variable{E:Env}{P:Program}{ι:dZ}{w:World}{L:Nat->Prop}{ts:List AV}{a:Act}{Lo:Nat->Prop}{w0:World}{H:Hp}
theorem U6(V:Valid E P)(S:iW E Lo w0 ι H w){t ty:Nat}{eg:Array Nat}{args:Array Value}{vd vx:Value}{d x v:AV}{st:List (Nat×cG)}
  (MX:eg[0]?=some t) (J0:args[0]?=some vd) (C9:args[1]?=some vx) (hd:R ι w (Live Lo ι H) d vd) (hx:R ι w (Live Lo ι H) x vx) (h:v7 E H t d x=some (v,st)):
  ∃cv w',(Builtin.copy_ eg ty args).run P w=.ok cv w'/\iS E Lo w0 ι H w v (.bM st) cv w':=by
 unfold v7 at h;split at h
 case h_2=>cases h
 rename_i e _ _ _ _ _ hi;have fX:(underlying t).run P w=.ok (.slice e) w:=bg V hi w;split at h
 case h_2=>cases h
 rename_i ei l9;split at h
 case h_2=>cases h
 rename_i dn xn xs hld hlx hsx;obtain⟨news,x1,x2,x3,x4⟩:=xY (P:=P) S hx hlx hsx;have hns:news.size=xn*ei.size:=by have:=x3.length;rw[<-x2];simpa using this
 have xm:=x4 (min xn dn) (Nat.min_le_left _ _);simp only at h;split at h
 ·rename_i Ev;rw[Ev]at xm;simp only[Nat.zero_mul]at xm;have CM:∃b sc,vd=.slice b dn sc:=by
   cases d<;>first|(exfalso;revert h;simp;done)|simp only[R]at hd
   ·simp only[pV,aLv.injEq]at hld;subst hld;exact⟨none,0,hd⟩
   ·simp only[pV,aLv.injEq]at hld;subst hld;obtain⟨ad,cap,rfl⟩:=hd;exact⟨_,_,rfl⟩
   ·simp only[pV,aLv.injEq]at hld;subst hld;obtain⟨cb,co,cap,c,e',f,h1,rfl,h3,h4,_⟩:=hd;exact⟨_,_,rfl⟩
  obtain⟨b,sc,rfl⟩:=CM;have hv:v=.int .i64 0/\st=[]:=by
   cases d<;>first|(exfalso;revert h;simp;done)|(simp only[aLv.injEq,Prod.mk.injEq]at h;exact⟨h.1.symm,h.2.symm⟩)
  obtain⟨rfl,rfl⟩:=hv;refine⟨.int .i64 0,w,?_,iS.pure S (by simp[R])⟩;have e1:news.extract 0 0=#[]:=by simp
  have On:Nat.min xn dn=0:=Ev;rw[e1]at xm;simp only[Builtin.copy_,MX,J0,C9,Sem.run_bind,fX,Result.andThen_ok,x1,cU V l9 w,On,xm];cases b<;>simp[storeCells,goInt]
 ·rename_i Ev;split at h
  case h_2=>cases h
  rename_i b off dl esz kc;split at h
  case h_2=>cases h
  rename_i cs hb;split at h
  case isFalse=>cases h
  rename_i hc;obtain⟨C8,hle,sH⟩:=hc;cases h;simp only[pV,aLv.injEq]at hld;subst hld;simp only[R]at hd;obtain⟨cb,co,cap,c,e',f,h1,rfl,h3,h4,h5,h6⟩:=hd;have gO:(xs.take (min xn dl*esz)).length=min xn dl*esz:=by rw[aMp,x2,<-C8];exact Nat.min_eq_left (aL8 _ (Nat.min_le_left _ _))
  have wG:Rs ι w (Live Lo ι H) (xs.take (min xn dl*esz)) (news.extract 0 (min xn dl*ei.size)).toList:=by
   have:=x3.take (min xn dl*esz)
   rw[aL7,aLy];simpa[C8]using this
  have T:=xf (P:=P) (xs:=xs.take (min xn dl*esz)) (off:=off) S hb h1 wG (by rw[gO];exact hle) (by
   rw[aMa]at sH⊢;exact fun y hy=>sH y (List.mem_of_mem_take hy))
  refine⟨.int .i64 (min xn dl:Nat),_,?_,ι,dZ.le_refl _,by rw[mN hb];exact T.2.1,by rw[mN hb];exact T.2.2,by simp[R]⟩;have On:Nat.min xn dl=min xn dl:=rfl;simp only[Builtin.copy_,MX,J0,C9,Sem.run_bind,fX,Result.andThen_ok,x1,cU V l9 w,On,xm,T.1,Sem.run_pure,goInt]
theorem HI:∀(n:Nat) (x y:AV),JE n x y=true->x=y
 |n,x,y,h=>by
  unfold JE at h;split at h
  ·simp at h;rw[h]
  ·simp at h;rw[h.1,h.2]
  ·simp at h;rw[h]
  ·rename_i n xs ys;simp only[aMq,beq_iff_eq]at h;obtain⟨h1,h2⟩:=h;congr 1;apply List.ext_getElem h1;intro i hi hj;rw[aMa]at h2
   have:=h2 (xs[i],ys[i]) (by
    rw[List.mem_iff_getElem];exact⟨i,by simp;omega,by simp⟩)
   exact HI n _ _ this
  ·cases h
theorem n8(V:Valid E P)(em:Bool):∀(n m d t:Nat) (k:AV) (vk:Value),n<=d->plainKey E n t=true->R ι w L k vk->uw E m t k k=some true->
  (Instr.checkKey em d t vk).run P w=.ok () w
 |0,_,_,_,_,_,_,h,_,_=>by simp[plainKey]at h
 |n+1,m,d,t,k,vk,hd,hp,hr,he=>by
  obtain⟨d,rfl⟩:∃q,d=q+1:=⟨d-1,by omega⟩;cases m with
  |zero=>simp[uw]at he
  |succ m=>
  unfold plainKey at hp;cases hi:E.ty t with
  |none=>simp[hi]at hp
  |some i=>
   simp only[hi]at hp;have hu:=(V.ty t i hi).cS;unfold uw at he;simp only[hi]at he;cases fX:i.cS<;>simp only[fX]at hp he hu<;>first|(exfalso;revert hp;simp;done)|skip
   case bool=>simp[Instr.checkKey,run_underlying hu]
   case int=>simp[Instr.checkKey,run_underlying hu]
   case string=>simp[Instr.checkKey,run_underlying hu]
   case array len elem=>
    cases k<;>first|(exfalso;revert he;simp;done)|skip
    rename_i xs;simp only[R]at hr;obtain⟨vs,rfl,hr⟩:=hr;cases l9:E.ty elem with
    |none=>simp[l9]at he
    |some ei=>
     simp only[l9]at he;simp only[Instr.checkKey,Sem.run_bind,run_underlying hu,Result.andThen_ok];simp only[Std.Legacy.Range.forIn_eq_forIn_range',Std.Legacy.Range.size,aMl,Nat.add_one_sub_one,Nat.div_one];have loop:∀(c i:Nat),qN E (uw E m) elem ei.size xs xs c i=some true->
       (forIn (List.range' i c) PUnit.unit fun i r=>(do
        let a<-Go.sizeOf elem
        let b<-part elem vs (i*a)
        Instr.checkKey em d elem b
        pure (ForInStep.yield PUnit.unit):Sem (ForInStep PUnit))).run P w=.ok PUnit.unit w:=by
      intro c;induction c with
      |zero=>intro i _;simp
      |succ c ih=>
       intro i h;unfold qN at h;cases h1:ik E elem xs (i*ei.size)with
       |none=>simp[h1]at h
       |some a=>
        simp only[h1]at h;obtain⟨va,p1,r1⟩:=p8 V hr h1;cases h3:uw E m elem a a with
        |none=>simp[h3]at h
        |some r=>
         simp only[h3]at h;cases r with
         |false=>simp at h
         |true=>
          simp only at h
          have:=n8 V em n m d elem a va (by omega) hp r1 h3
          rw[List.range'_succ];simp only[List.forIn_cons,Sem.run_bind,cU V l9 w,Result.andThen_ok,p1,this,Sem.run_pure];exact ih (i+1) h
     have:=loop len 0 he
     simp at this⊢;simp[this]
   case struct fs=>
    cases k<;>first|(exfalso;revert he;simp;done)|skip
    rename_i xs;simp only[R]at hr;obtain⟨vs,rfl,hr⟩:=hr;simp only[aMq,aMa]at hp;simp only[hp.1,Bool.not_true,aLs,if_false]at he;simp only[Instr.checkKey,Sem.run_bind,run_underlying hu,Result.andThen_ok];rw[<-Array.forIn_toList];have loop:∀(l:List Field),(∀f∈l,plainKey E n f.type=true)->eqFields E (uw E m) xs xs l=some true->
      (forIn l PUnit.unit fun f r=>(do
       if f.name≠ "_" then do
        let b<-part f.type vs f.offset
        Instr.checkKey em d f.type b
        pure (ForInStep.yield PUnit.unit)
       else pure (ForInStep.yield PUnit.unit):Sem (ForInStep PUnit))).run P w=.ok PUnit.unit w:=by
     intro l;induction l with
     |nil=>intro _ _;simp
     |cons f l ih=>
      intro uy h;unfold eqFields at h;split at h
      ·cases h
      rename_i Wq;cases h1:ik E f.type xs f.offset with
      |none=>simp[h1]at h
      |some a=>
       simp only[h1]at h;obtain⟨va,p1,r1⟩:=p8 V hr h1;cases h3:uw E m f.type a a with
       |none=>simp[h3]at h
       |some r=>
        simp only[h3]at h;cases r with
        |false=>simp at h
        |true=>
         simp only at h
         have:=n8 V em n m d f.type a va (by omega) (uy f (by simp)) r1 h3
         simp only[List.forIn_cons,Sem.run_bind,ne_eq,Wq,not_false_eq_true,if_true,Result.andThen_ok,p1,this,Sem.run_pure];exact ih (fun g hg=>uy g (by simp[hg])) h
    have:=loop fs.toList (fun f hf=>hp.2 f hf) he
    simp at this⊢;simp[this]
theorem Cr(V:Valid E P){kt:Nat}{i:yT}(hi:E.ty kt=some i){k x:Value}{b:Bool}(h:Instr.sameNow i.cS k x=some b)(d:Nat):
  (Op.equalIn (d+1) kt k x).run P w=.ok b w:=by
 have hu:=(V.ty kt i hi).cS;unfold Instr.sameNow at h;split at h
 ·rename_i k1 k2 a k3 c fX;rw[fX]at hu;split at h
  ·rename_i hk;cases h;simp[Op.equalIn,run_underlying hu,hk]
  ·cases h
 ·rename_i a c fX;rw[fX]at hu;cases h;simp[Op.equalIn,run_underlying hu]
 ·rename_i a c fX;rw[fX]at hu;cases h;simp[Op.equalIn,run_underlying hu]
 ·cases h
theorem BZ(V:Valid E P){kt:Nat}{i:yT}(hi:E.ty kt=some i){k:Value}:∀(es:List MapEntry) (j:Nat) (r:Option (Nat×Value)),Instr.findNow i.cS k es j=some r->
  (Instr.findAsking kt k es j).run P w=.ok r w
 |[],j,r,h=>by simp[Instr.findNow]at h;subst h;simp[Instr.findAsking]
 |e::es,j,r,h=>by
  unfold Instr.findNow at h;split at h
  ·rename_i hs;cases h
   have:=Cr (w:=w) V hi hs 9999
   simp[Instr.findAsking,Op.equal,Op.maxDepth,this]
  ·rename_i hs
   have:=Cr (w:=w) V hi hs 9999
   simp[Instr.findAsking,Op.equal,Op.maxDepth,this];exact BZ V hi es (j+1) r h
  ·cases h
def Uj(ι:dZ)(w:World)(L:Nat->Prop)(j n:Nat):Option (Nat×AV)->Option (Nat×Value)->Prop
 |none,none=>True
 |some (i,v),some (i',v')=>i=i'/\R ι w L v v'/\j<=i/\i-j<n
 |_,_=>False
theorem GU(V:Valid E P){kt:Nat}{k:AV}{vk:Value}(hk:R ι w L k vk):∀(ks vs:List AV) (es:List MapEntry) (j:Nat) (r:Option (Nat×AV)),
  Rs ι w L ks (es.map (·.key))->Rs ι w L vs (es.map (·.val))->sN (qn E kt) k ks vs j=some r->
  ∃r',(Instr.findAsking kt vk es j).run P w=.ok r' w/\Uj ι w L j es.length r r'
 |[],[],es,j,r,h1,h2,h=>by
  simp only[Rs,List.map_eq_nil_iff]at h1;subst h1;simp[sN]at h;subst h
  exact⟨none,by simp[Instr.findAsking],trivial⟩
 |[],_::_,es,j,r,h1,h2,h=>by simp[sN]at h
 |_::_,[],es,j,r,h1,h2,h=>by simp[sN]at h
 |x::ks,y::vs,[],j,r,h1,h2,h=>by simp[Rs]at h1
 |x::ks,y::vs,e::es,j,r,h1,h2,h=>by
  simp only[Rs,List.map_cons,List.cons.injEq]at h1 h2;obtain⟨kx,kxs,⟨e1,e2⟩,rx,rxs⟩:=h1;obtain⟨vy,vys,⟨e3,e4⟩,ry,rys⟩:=h2;subst e1;subst e3;subst e2;subst e4
  unfold sN at h;cases hq:qn E kt k x with
  |none=>simp[hq]at h
  |some b=>
   simp only[hq]at h;have he:=zB V 20 10000 kt k x vk e.key b (by omega) hk rx hq;cases b with
   |true=>
    simp only[aLv.injEq]at h;subst h
    exact⟨some (j,e.val),by simp[Instr.findAsking,Op.equal,Op.maxDepth,he],rfl,ry,aLr _,by simp⟩
   |false=>
    simp only at h;obtain⟨r',g1,g2⟩:=GU V hk ks vs es (j+1) r rxs rys h;refine⟨r',by simp[Instr.findAsking,Op.equal,Op.maxDepth,he];exact g1,?_⟩;cases r with
    |none=>cases r' with
     |none=>trivial
     |some p=>exact g2.elim
    |some p=>cases r' with
     |none=>exact g2.elim
     |some p'=>obtain⟨q1,q2,q3,q4⟩:=g2;exact⟨q1,q2,by omega,by simp;omega⟩
theorem sO(V:Valid E P){kt:Nat}{i:yT}(hi:E.ty kt=some i){k:AV}{vk:Value}(hk:R ι w L k vk){ks vs:List AV}{es:List MapEntry}{r:Option (Nat×AV)}
  (h1:Rs ι w L ks (es.map (·.key))) (h2:Rs ι w L vs (es.map (·.val))) (h:sN (qn E kt) k ks vs 0=some r):
  ∃r',(Instr.findKey kt vk es).run P w=.ok r' w/\Uj ι w L 0 es.length r r':=by
 obtain⟨r',g1,g2⟩:=GU V hk ks vs es 0 r h1 h2 h;refine⟨r',?_,g2⟩;unfold Instr.findKey;simp only[Sem.run_bind,bg V hi w,Result.andThen_ok];cases hn:Instr.findNow i.cS vk es 0 with
 |none=>simpa using g1
 |some q=>
  have:=BZ (w:=w) V hi es 0 q hn
  rw[this]at g1;simp only[Sem.run_pure];exact g1
theorem W0(S:iW E Lo w0 ι H w){m:AV}{vm:Value}{ks vs:List AV}(hm:R ι w (Live Lo ι H) m vm)(h:Bm H m=some (ks,vs)):
  (vm=.map none/\ks=[]/\vs=[])∨∃cb es clock,vm=.map (some cb)/\w.heap[cb]?=some (.map es clock)/\
   Rs ι w (Live Lo ι H) ks (es.toList.map (·.key))/\Rs ι w (Live Lo ι H) vs (es.toList.map (·.val)):=by
 unfold Bm at h;split at h
 ·cases h;simp only[R]at hm;exact .inl ⟨hm,rfl,rfl⟩
 ·cases h;simp only[R]at hm;obtain⟨cb,es,clock,rfl,h2,h3,h4,h5⟩:=hm;exact .inr ⟨cb,es,clock,rfl,h2,Rs.ext (Ext.refl _ _) _ _ _ _ (uc _) h4,Rs.ext (Ext.refl _ _) _ _ _ _ (uc _) h5⟩
 ·rename_i b;split at h
  case h_2=>cases h
  rename_i st ks' FL hb;split at h
  ·cases h
  rename_i fK;cases h;simp only[R]at hm;obtain⟨cb,co,h1,rfl⟩:=hm;obtain⟨NK,co',o,g1,g2,g3,_⟩:=S.obj b _ hb fK;rw[h1]at g1;cases g1
  simp only[jF]at g3;obtain⟨es,clock,rfl,g4,g5,_⟩:=g3;exact .inr ⟨cb,es,clock,rfl,g2,g4,g5⟩
 ·cases h
theorem sk{cb:Nat}{es:Array MapEntry}{clock:Nat}(h:w.heap[cb]?=some (.map es clock)):(getObj cb).run P w=.ok (.map es clock) w:=by simp[getObj,Sem.run,h]
theorem OU(V:Valid E P)(S:iW E Lo w0 ι H w){t:Nat}{m k av:AV}{vm vk:Value}{ok:Bool}(hm:R ι w (Live Lo ι H) m vm)(hk:R ι w (Live Lo ι H) k vk)
  (h:jk E H t m k ok=some av):∃cv,(Instr.lookup t vm vk ok).run P w=.ok cv w/\R ι w (Live Lo ι H) av cv:=by
 unfold jk at h;split at h
 case h_2=>cases h
 rename_i kt et _ _ _ _ _ hi;have hu:=bg V hi w;split at h
 case h_2=>cases h
 rename_i ks vs hmp;split at h
 ·cases h
 rename_i hpk;simp only[aMi,aMd,bne_iff_ne,ne_eq,not_or,aMe,Decidable.not_not]at hpk;obtain⟨Sd,hp2⟩:=hpk;have hkt:∃ki,E.ty kt=some ki:=by
  unfold plainKey at Sd;cases hh:E.ty kt with
  |none=>simp[hh]at Sd
  |some ki=>exact⟨ki,rfl⟩
 obtain⟨ki,Wh⟩:=hkt;have Z0:∀em,(Instr.checkKey em 10000 kt vk).run P w=.ok () w:=fun em=>n8 V em 20 20 10000 kt k vk (by omega) Sd hk hp2
 have dW:∃es:Array MapEntry,(vm=.map none/\es=#[]∨∃cb clock,vm=.map (some cb)/\w.heap[cb]?=some (.map es clock))/\
   Rs ι w (Live Lo ι H) ks (es.toList.map (·.key))/\Rs ι w (Live Lo ι H) vs (es.toList.map (·.val)):=by
  rcases W0 S hm hmp with⟨rfl,rfl,rfl⟩|⟨cb,es,clock,rfl,h2,h3,h4⟩
  ·exact⟨#[],.inl ⟨rfl,rfl⟩,by simp[Rs],by simp[Rs]⟩
  ·exact⟨es,.inr ⟨cb,clock,rfl,h2⟩,h3,h4⟩
 obtain⟨es,e1,e2,e3⟩:=dW;split at h
 ·rename_i j v hf;cases h;obtain⟨r',g1,g2⟩:=sO V Wh hk e2 e3 hf;cases r' with
  |none=>exact g2.elim
  |some p=>
   obtain⟨_,q2,_⟩:=g2;refine⟨if ok then .tuple #[p.2,.bool true]else p.2,?_,?_⟩
   ·unfold Instr.lookup;rcases e1 with⟨rfl,rfl⟩|⟨cb,clock,rfl,q⟩
    ·simp only[Sem.run_bind,hu,Result.andThen_ok,Sem.run_pure,Z0,g1]
    ·simp only[Sem.run_bind,hu,Result.andThen_ok,sk q,Sem.run_pure,Z0,g1]
   ·cases ok
    ·simpa using q2
    ·simp only[if_true,R];exact⟨_,rfl,by simp[Rs,q2,R]⟩
 ·rename_i hf;rw[aLp]at h;obtain⟨z,hz,rfl⟩:=h;obtain⟨zv,z1,z2⟩:=Ii V hz ι w (Live Lo ι H);obtain⟨r',g1,g2⟩:=sO V Wh hk e2 e3 hf;cases r' with
  |some p=>exact g2.elim
  |none=>
   refine⟨if ok then .tuple #[zv,.bool false]else zv,?_,?_⟩
   ·unfold Instr.lookup;rcases e1 with⟨rfl,rfl⟩|⟨cb,clock,rfl,q⟩
    ·simp only[Sem.run_bind,hu,Result.andThen_ok,Sem.run_pure,Z0,g1,z1]
    ·simp only[Sem.run_bind,hu,Result.andThen_ok,sk q,Sem.run_pure,Z0,g1,z1]
   ·cases ok
    ·simpa using z2
    ·simp only[if_true,R];exact⟨_,rfl,by simp[Rs,z2,R]⟩
 ·cases h
end
end Dv
