/- A part of the proof that PairChecks returns true for every input; no condition of its own. -/
import Derived.Test.YtblnjkjjedanaaaGreatDoorTaa
import Derived.Laws.MakeOwn
import Derived.Laws.IdiomStrings
set_option linter.all false
set_option maxHeartbeats 100000000
set_option maxRecDepth 100000
open Option renaming map_eq_some_iff->aKP,some->aKV,map_some->aLT,isSome_iff_exists->aL7,getD_some->aMp
open Array renaming getElem?_toList->aKX,toList_extract->aLK,getElem?_setIfInBounds_ne->aLO,getElem?_extract->aK2,getElem?_modify->aLQ,getElem?_eq_getElem->aLU,toList_push->aLW,extract_size->aLX,getElem?_append_left->aLY,ext'->aL4,length_toList->aMd,getElem?_map->aMe,range->aMl
open List renaming getElem?_eq_some_iff->aKS,getElem?_map->aLI,map_cons->aLJ,extract_eq_take_drop->aKZ,all_eq_true->aLN,getElem?_append->aK5,mem_append->aLV,getElem?_set->aKQ,getElem?_eq_getElem->aL5,map_append->aL9,foldl_cons->aMa,getElem?_of_mem->aMb,mem_cons->aMc,length_append->aMf,mem_map->aMg,mem_singleton->aMh,map_nil->aMi,ext_getElem?->aMj,flatMap_cons->aMk,length_cons->aMm,getElem_mem->aMn,length_take->aMo
open Nat renaming le_refl->aKR,mul_le_mul_right->aLL,zero_add->aLM,add_mul->aLS,not_lt->aL3,sub_zero->aL6,not_lt_zero->aL8,add_assoc->aKU
open Bool renaming or_eq_true->aLP,false_eq_true->aKT,and_eq_true->aLR,not_eq_true'->aLZ,not_eq_false->aL0
namespace Dv
open Go Go.RowKit
section
variable{E:Env}{P:Program}{ι:eg}{w:World}{L:Nat->Prop}{ts:List AV}{a:Act}{Lo:Nat->Prop}{w0:World}{H:Hp}
def ju(E:Env)(Lo:Nat->Prop)(w0:World)(ι:eg)(H:Hp)(w:World)(v:AV)(e:cE)(cv:Value)(w':World):Prop:=
 ∃ι':eg,ι.le ι'/\iZ E Lo w0 ι' (e.app H) w'/\Ext w (Live Lo ι H) w' (Live Lo ι' (e.app H))/\R ι' w' (Live Lo ι' (e.app H)) v cv
theorem ju.pure(S:iZ E Lo w0 ι H w){v:AV}{cv:Value}(h:R ι w (Live Lo ι H) v cv):ju E Lo w0 ι H w v (.bU []) cv w:=
 ⟨ι,eg.le_refl _,S,Ext.refl _ _,h⟩
theorem qO(S:iZ E Lo w0 ι H w){aL:Nat}(hf:pI ι H aL){cs:List AV}{c:Array Value}{e:TypeId}{f:Nat×Nat}{w1:World}(hw:w1.heap=w.heap)
  (hos:w1.os=w.os) (Hj:w1.tape=w.tape) (yp:w1.output=w.output) (hr:kN ι w (Live Lo ι H) c 0 cs) (gg:∀k,k<c.size->¬(f.1<=k/\k<f.2)):
  let eN:=cz.cells .live cs
  let ι':=ι.put aL (w.heap.size,0)
  ι.le ι'/\iZ E Lo w0 ι' ((cE.bU [(aL,eN)]).app H) (w1.alloc (.cells c e f))/\
   Ext w (Live Lo ι H) (w1.alloc (.cells c e f)) (Live Lo ι' ((cE.bU [(aL,eN)]).app H))/\
   (w1.alloc (.cells c e f)).heap[w.heap.size]?=some (.cells c e f)/\ι' aL=some (w.heap.size,0):=by
 intro eN ι';have hx:=xO S hf (eN:=eN) rfl (.cells c e f) hw;have hle:=eg.C9 (p:=(w.heap.size,0)) hf.1;refine⟨hle,?_,hx,?_,by simp[ι',eg.put]⟩
 ·refine S.alloc hf rfl hw hos Hj yp ?_;simp only[jH,eN];exact⟨c,e,f,rfl,kN.ext hx _ _ _ _ _ hle hr,fun _=>gg⟩
 ·simp[World.alloc,hw]
theorem Ih(S:iZ E Lo w0 ι H w){aL:Nat}(hf:pI ι H aL){eN:cz}(hl:eN.st=.live){o:Obj}{w1:World}(hw:w1.heap=w.heap)
  (hos:w1.os=w.os) (Hj:w1.tape=w.tape) (yp:w1.output=w.output) (hr:∀ι w L,jH ι w L 0 eN o) (Gv:eN.uc E:=by trivial):
  let ι':=ι.put aL (w.heap.size,0)
  ι.le ι'/\iZ E Lo w0 ι' ((cE.bU [(aL,eN)]).app H) (w1.alloc o)/\
   Ext w (Live Lo ι H) (w1.alloc o) (Live Lo ι' ((cE.bU [(aL,eN)]).app H))/\ι' aL=some (w.heap.size,0):=by
 intro ι';exact⟨eg.C9 hf.1,S.alloc hf hl hw hos Hj yp (hr _ _ _) Gv,xO S hf hl o hw,by simp[ι',eg.put]⟩
theorem AA(V:Valid E P){t:Nat}{i:Bn}{cs:List AV}(hi:E.ty t=some i)(hz:i.zero=some cs)(ι:eg)(w:World)(L:Nat->Prop):
  ∃z,(zeroValue t).run P w=.ok z w/\Rs ι w L cs z.cells.toList/\cs.length=i.size/\(i.isAgg=true->∃a,z=.agg a)/\(i.isAgg=false->z.cells=#[z]):=by
 obtain⟨ti,h1,h2,h3,h4⟩:=(V.ty t i hi).info;obtain⟨z,z1,z2,z3,z4,z5⟩:=h4 cs hz;exact⟨z,by simp[zeroValue,typeInfo,h1,z1],yd 19 _ _ z2,z3,z4,z5⟩
theorem It(V:Valid E P){t:Nat}{z:AV}(h:fR E t=some z)(ι:eg)(w:World)(L:Nat->Prop):
  ∃zv,(zeroValue t).run P w=.ok zv w/\R ι w L z zv:=by
 unfold fR at h;split at h
 case h_2=>cases h
 rename_i i hi;split at h
 case h_2=>cases h
 rename_i cs hz;obtain⟨zv,z1,z2,z3,z4,z5⟩:=AA V hi hz ι w L;refine⟨zv,z1,?_⟩;split at h
 ·rename_i ha;cases h;obtain⟨vs,rfl⟩:=z4 ha;simp only[R];exact⟨vs,rfl,z2⟩
 ·rename_i ha;split at h
  ·rename_i c;cases h;rw[z5 (by simpa using ha)]at z2;simp only[Rs]at z2;obtain⟨y,ys,e1,e2,e3⟩:=z2;simp at e1;rw[e1.1];exact e2
  ·cases h
theorem T3(V:Valid E P)(S:iZ E Lo w0 ι H w){t aL:Nat}(hf:pI ι H aL){z:AV}(h:fR E t=some z):
  ∃cv w',(Instr.alloc t true (.tuple #[])).run P w=.ok cv w'/\ju E Lo w0 ι H w (.b9 aL 0) (.bU [(aL,.cells .live z.cells)]) cv w':=by
 obtain⟨zv,z1,z2⟩:=It V h ι w (Live Lo ι H);have hr:kN ι w (Live Lo ι H) zv.cells 0 z.cells:=z2.cells.at (fun i v hv=>by simpa using hv);have N:=qO S hf (e:=t) (f:=(0,0)) (w1:=w) rfl rfl rfl rfl hr (by simp);refine⟨.pointer (some ⟨w.heap.size,0,none⟩),w.alloc (.cells zv.cells t (0,0)),?_,_,N.1,N.2.1,N.2.2.1,?_⟩
 ·simp[Instr.alloc,z1,newVar,newRow]
 ·simp only[R];exact⟨_,_,N.2.2.2.2,by simp⟩
theorem ad9(S:iZ E Lo w0 ι H w){t aL:Nat}(hf:pI ι H aL){z:AV}{zv:Value}(z2:R ι w (Live Lo ι H) z zv):
  ∃cv w',(Instr.box t zv).run P w=.ok cv w'/\ju E Lo w0 ι H w (.b9 aL 0) (.bU [(aL,.cells .live z.cells)]) cv w':=by
 have hr:kN ι w (Live Lo ι H) zv.cells 0 z.cells:=z2.cells.at (fun i v hv=>by simpa using hv);have N:=qO S hf (e:=t) (f:=(0,0)) (w1:=w) rfl rfl rfl rfl hr (by simp);refine⟨.pointer (some ⟨w.heap.size,0,none⟩),w.alloc (.cells zv.cells t (0,0)),?_,_,N.1,N.2.1,N.2.2.1,?_⟩
 ·simp[Instr.box,newVar,newRow]
 ·simp only[R];exact⟨_,_,N.2.2.2.2,by simp⟩
theorem MB(z:List AV):∀(n k:Nat),(iE z n)[k]?=if k<n*z.length then z[k%z.length]? else none
 |0,k=>by simp[iE]
 |n+1,k=>by
  simp only[iE];rw[aK5];by_cases hk:k<z.length
  ·rw[if_pos hk,if_pos (by rw[aLS];omega),Nat.mod_eq_of_lt hk]
  ·rw[if_neg hk,MB z n (k-z.length)];have e:(k-z.length)%z.length=k%z.length:=by rw[Nat.mod_eq_sub_mod (a:=k) (by omega)]
   rw[e];have e2:(n+1)*z.length=n*z.length+z.length:=by rw[aLS,Nat.one_mul]
   by_cases h2:k-z.length<n*z.length
   ·rw[if_pos h2,if_pos (by omega)]
   ·rw[if_neg h2,if_neg (by omega)]
theorem AO(z:List AV):∀n,(iE z n).length=n*z.length
 |0=>by simp[iE]
 |n+1=>by simp[iE,AO z n,aLS];omega
theorem YF{cs:List AV}{z:Array Value}(h:Rs ι w L cs z.toList)(dY:0<cs.length)(n:Nat):
  Rs ι w L (iE cs n) ((aMl (n*cs.length)).map (fun i=>z[i%z.size]!)).toList:=by
 have hz:z.size=cs.length:=by have:=h.length;simpa using this
 refine Rs.jW (by simp[AO]) fun i x hx=>?_
 rw[MB]at hx;split at hx
 ·rename_i hi;obtain⟨v,h1,h2⟩:=h.get _ x hx;refine⟨v,?_,h2⟩;rw[aKX]at h1⊢;rw[aMe,Array.getElem?_range,if_pos hi];simp only[aLT,hz];rw[getElem!_def,h1]
 ·cases hx
theorem HT(V:Valid E P)(S:iZ E Lo w0 ι H w){t aL:Nat}(hf:pI ι H aL){l c v:AV}{vl vc:Value}{st:List (Nat×cz)}
  (hl:R ι w (Live Lo ι H) l vl) (hc:R ι w (Live Lo ι H) c vc) (h:fM E aL t l c=some (v,st)):
  ∃cv w',(Instr.makeSlice t vl vc).run P w=.ok cv w'/\ju E Lo w0 ι H w v (.bU st) cv w':=by
 unfold fM at h;split at h
 case h_2=>cases h
 rename_i e _ _ _ _ _ kl n kc m hi;have hu:=(V.ty t _ hi).cV;split at h
 case h_2=>cases h
 rename_i ei mL;split at h
 case h_2=>cases h
 rename_i z hz;split at h
 case isFalse=>cases h
 rename_i uf;obtain⟨h0,hnm,hb,h63,hzl,NH⟩:=uf;simp only[aKV.injEq,Prod.mk.injEq]at h;obtain⟨rfl,rfl⟩:=h;simp only[R]at hl hc;subst hl;subst hc
 obtain⟨ti,g1,g2,g3,g4⟩:=(V.ty e ei mL).info;obtain⟨zv,z1,z2,z3,_,_⟩:=g4 z hz;have hzr:Rs ι w (Live Lo ι H) z zv.cells.toList:=yd 19 _ _ z2;have hm:m.toNat*ei.bytes<=140737488355328:=hb;have run:=run_make (P:=P) w t e ti zv hu g1 z1 kl kc n m h0 hnm (by
   rw[g3]
   have:=Int.ofNat_le.2 hm
   have e1:((m.toNat:Nat):Int)=m:=by omega
   rw[Int.natCast_mul,e1]at this;rw[Int.mul_comm];omega) (by omega)
 rw[g2]at run;have I9:=YF hzr (by omega) m.toNat;rw[hzl]at I9;have hr:kN ι w (Live Lo ι H) (madeCells zv.cells (m.toNat*ei.size)) 0 (iE z m.toNat):=I9.at (fun i v hv=>by
  rw[aKX]at hv;unfold madeCells;rw[aLM];exact hv)
 have N:=qO S hf (e:=e) (f:=(0,0)) (w1:=w) rfl rfl rfl rfl hr (fun k _ hk=>by exact absurd hk.2 (aL8 _));refine⟨_,_,run,_,N.1,N.2.1,N.2.2.1,?_⟩;simp only[R];refine⟨w.heap.size,0,m.toNat,madeCells zv.cells (m.toNat*ei.size),e,(0,0),N.2.2.2.2,rfl,by omega,aKR _,N.2.2.2.1,?_⟩;rw[size_madeCells];omega
end
section
variable{E:Env}{P:Program}{ι:eg}{w:World}{L:Nat->Prop}{ts:List AV}{a:Act}{Lo:Nat->Prop}{w0:World}{H:Hp}
theorem heap_setCell(w:World)(b o:Nat)(v:Value)(x:Nat):(w.setCell ⟨b,o,none⟩ v).heap[x]?=
  if x=b then(w.heap[b]?).map (fun ob=>match ob with|.cells c e f=>.cells (c.setIfInBounds o v) e f|ob=>ob)else w.heap[x]?:=by
 simp only[World.setCell,aLQ];by_cases hx:x=b
 ·subst hx;simp only[if_true];cases w.heap[x]? with
  |none=>rfl
  |some ob=>cases ob<;>simp
 ·rw[if_neg (fun e=>hx e.symm),if_neg hx]
theorem tw:∀(vs:List Value) (w:World) (cb o:Nat) (c:Array Value) (e:TypeId) (f:Nat×Nat),w.heap[cb]?=some (.cells c e f)->o+vs.length<=c.size->
  ∃c',Ko w (w.setCells cb o vs) cb (.cells c' e f)/\c'.size=c.size/\∀k:Nat,c'[k]?=if o<=k/\k<o+vs.length then vs[k-o]? else c[k]?
 |[],w,cb,o,c,e,f,h,_=>⟨c,⟨rfl,rfl,rfl,rfl,h,fun _ _=>rfl⟩,rfl,fun k=>by rw[if_neg (by simp only[List.length_nil];omega)]⟩
 |v::vs,w,cb,o,c,e,f,h,hl=>by
  simp only[aMm]at hl;have h1:(w.setCell ⟨cb,o,none⟩ v).heap[cb]?=some (.cells (c.setIfInBounds o v) e f):=by rw[heap_setCell,if_pos rfl,h];rfl
  obtain⟨c',g1,g2,g3⟩:=tw vs (w.setCell ⟨cb,o,none⟩ v) cb (o+1) _ e f h1 (by simp;omega);refine⟨c',⟨g1.os,g1.tape,g1.output,?_,g1.here,fun x hx=>?_⟩,by rw[g2];simp,fun k=>?_⟩
  ·have:=g1.size
   simpa[World.setCells,World.setCell]using this
  ·have:=g1.there x hx
   rw[heap_setCell,if_neg hx]at this;exact this
  ·rw[g3];simp only[aMm];by_cases hk:k=o
   ·subst hk;rw[if_neg (by omega),if_pos (by omega),Array.getElem?_setIfInBounds,if_pos rfl,if_pos (by omega)]
    simp
   ·by_cases h2:o+1<=k/\k<o+1+vs.length
    ·rw[if_pos h2,if_pos (by omega)];rw[show k-o=(k-(o+1))+1 from by omega]
     simp
    ·rw[if_neg h2,if_neg (by omega),aLO (fun q=>hk q.symm)]
theorem wH(S:iZ E Lo w0 ι H w){b cb co off:Nat}{cs xs:List AV}{vs:List Value}(hb:H[b]?=some (.cells .live cs))(hi:ι b=some (cb,co))
  (hr:Rs ι w (Live Lo ι H) xs vs) (hle:off+xs.length<=cs.length) (so:xs.all df=true):
  (storeCells ⟨cb,co+off,none⟩ vs).run P w=.ok () (w.setCells cb (co+off) vs)/\
   iZ E Lo w0 ι (H.set b (.cells .live (cH cs off xs))) (w.setCells cb (co+off) vs)/\
   Ext w (Live Lo ι H) (w.setCells cb (co+off) vs) (Live Lo ι (H.set b (.cells .live (cH cs off xs)))):=by
 obtain⟨Re,co',o,g1,g2,g3,g4,_⟩:=S.obj b _ hb (by simp[cz.st]);rw[hi]at g1;cases g1
 simp only[jH]at g3;obtain⟨c,e,f,rfl,g5,g6⟩:=g3;have hlen:vs.length=xs.length:=hr.length;by_cases Lm:xs=[]
 ·subst Lm;simp at hlen;subst hlen;have e1:cH cs off []=cs:=by simp[cH]
  have e2:H.set b (.cells .live cs)=H:=by
   apply aMj;intro k;rw[aKQ]
   split
   ·rename_i hk;subst hk;rw[hb];split<;>rename_i iH
    ·rfl
    ·exact absurd (aKS.1 hb).1 iH
   ·rfl
  rw[e1,e2];exact⟨by simp[storeCells,World.setCells],S,Ext.refl _ _⟩
 have hxl:0<xs.length:=List.length_pos_iff.2 Lm;have sd:cs≠[]:=fun q=>by subst q;simp only[List.length_nil]at hle;omega
 have Eb:=g5.size sd;have n7:=run_storeCells_cells (P:=P) cb (co+off) vs 0 w (fun j hj=>by
   rw[uJ g2,aLU (show co+off+0+j<c.size by omega)];rfl) (fun j hj=>by
   have:=g6 trivial (co+off+0+j) (by omega)
   simp only[World.frozen?,g2];simpa using this) (fun v hv=>by
   obtain⟨i,AK⟩:=aMb hv;have hil:i<xs.length:=by have:=(aKS.1 AK).1;omega
   obtain⟨v',k1,k2⟩:=hr.get i _ (aL5 hil);rw[AK]at k1;cases k1
   exact Iu k2 (aLN.1 so _ (aMn hil)))
 obtain⟨c',q1,q2,q3⟩:=tw vs w cb (co+off) c e f g2 (by omega);refine⟨by simpa using n7,?_⟩;have tT:Live Lo ι H cb:=.inr ⟨b,_,co,hb,rfl,hi⟩;have hx:=q1.ext (L:=Live Lo ι H) (L':=Live Lo ι H) g2 (fun cs e f q=>by cases q;exact⟨c',_,rfl,q2⟩) tT (fun _ h=>h);refine S.update hb rfl rfl hi g2 (fun cs e f q=>by cases q;exact⟨c',_,rfl,q2⟩) q1 ?_;simp only[jH];refine⟨c',e,f,rfl,kN.jW fun i x Je=>?_,fun _=>by rw[q2];exact g6 trivial⟩;rw[q3];unfold cH at Je;rw[aK5,aK5]at Je;simp only[aMf,aMo]at Je;have RD:min off cs.length=off:=by omega
 rw[RD]at Je;by_cases h1:i<off
 ·rw[if_pos (by omega),if_pos h1,List.getElem?_take,if_pos h1]at Je;rw[if_neg (by omega)];obtain⟨v,k1,k2⟩:=g5.get i x Je;exact⟨v,k1,R.ext hx _ _ _ _ (eg.le_refl _) k2⟩
 ·by_cases h2:i<off+xs.length
  ·rw[if_pos h2,if_neg h1]at Je;rw[if_pos (by omega)];obtain⟨v,k1,k2⟩:=hr.get _ x Je;exact⟨v,by rw[<-k1];congr 1;omega,R.ext hx _ _ _ _ (eg.le_refl _) k2⟩
  ·rw[if_neg h2,List.getElem?_drop]at Je;rw[if_neg (by omega)];obtain⟨v,k1,k2⟩:=g5.get _ x Je;refine⟨v,?_,R.ext hx _ _ _ _ (eg.le_refl _) k2⟩;rw[<-k1];congr 1;omega
theorem mV{b:Nat}{eN:cz}{x:cz}(hb:H[b]?=some x):(cE.bU [(b,eN)]).app H=H.set b eN:=by
 have:=(aKS.1 hb).1
 simp[cE.app,eE,this]
theorem Qi(V:Valid E P)(S:iZ E Lo w0 ι H w){t:Nat}{p x:AV}{vp vx:Value}{st:List (Nat×cz)}(hp:R ι w (Live Lo ι H) p vp)(hx:R ι w (Live Lo ι H) x vx)
  (h:iO E H t p x=some st):∃w',(Instr.storeAt t vp vx).run P w=.ok () w'/\ju E Lo w0 ι H w aZ (.bU st) undef w':=by
 unfold iO at h;split at h
 case h_2=>cases h
 rename_i b off i hi;split at h
 case h_2=>cases h
 rename_i cs hb;split at h
 ·cases h
 rename_i uf;simp only[ne_eq,aLP,decide_eq_true_eq,not_or,Decidable.not_not,aL3,aLZ,aL0]at uf;obtain⟨⟨h1,h2⟩,h3⟩:=uf;cases h;simp only[R]at hp;obtain⟨cb,co,g1,rfl⟩:=hp;have T:=wH (P:=P) (xs:=x.cells) (off:=off) S hb g1 hx.cells (by omega) (by simpa using h3);refine⟨_,?_,ι,eg.le_refl _,by rw[mV hb];exact T.2.1,by rw[mV hb];exact T.2.2,by simp[aZ,undef,R,Rs]⟩;have Eb:vx.cells.size=i.size:=by have:=hx.cells.length;simpa[h1]using this
 simp only[Instr.storeAt,Instr.sureAddr,Sem.run_bind,Sem.run_pure,Result.andThen_ok,storeVar,cX V hi w,Eb,ne_eq,not_true_eq_false,if_false];exact T.1
end
section
variable{E:Env}{P:Program}{ι:eg}{w:World}{L:Nat->Prop}{ts:List AV}{a:Act}{Lo:Nat->Prop}{w0:World}{H:Hp}
theorem xZ(S:iZ E Lo w0 ι H w){x:AV}{vx:Value}(hx:R ι w (Live Lo ι H) x vx){esz n:Nat}{xs:List AV}(hl:qe x=some n)(h:sV H esz x=some xs):
  ∃news:Array Value,(Builtin.lenOf vx).run P w=.ok n w/\xs.length=n*esz/\Rs ι w (Live Lo ι H) xs news.toList/\
   (∀m,m<=n->(Builtin.firstCells esz m vx).run P w=.ok (news.extract 0 (m*esz)) w):=by
 unfold sV at h;split at h
 ·rename_i b;split at h
  case isFalse=>cases h
  rename_i En;cases h;subst En;simp only[qe,aKV.injEq]at hl;simp only[R]at hx;subst hx;subst hl;refine⟨(b.map fun c=>Value.int .u8 c.toNat).toArray,?_,by simp,?_,fun m hm=>?_⟩
  ·simp[Builtin.lenOf,ByteArray.size]
  ·refine Rs.jW (by simp) fun i y hy=>?_
   simp only[aLI,aKP]at hy;obtain⟨c,hc,rfl⟩:=hy;refine⟨.int .u8 c.toNat,by simp[hc],by simp[R]⟩
  ·simp only[Builtin.firstCells,Sem.run_pure];congr 1;apply aL4;rw[Array.toList_map,ByteArray.data_extract,aLK,aLK];simp[aKZ,List.map_take]
 ·unfold kJ at h;split at h
  ·cases h;simp only[qe,aKV.injEq]at hl;subst hl
   simp only[R]at hx;subst hx
   exact⟨#[],by simp[Builtin.lenOf],by simp,by simp[Rs],fun m hm=>by simp[Builtin.firstCells]⟩
  ·cases h;simp only[qe,aKV.injEq]at hl;subst hl
   simp only[R]at hx;obtain⟨ad,cap,rfl⟩:=hx
   refine⟨#[],by simp[Builtin.lenOf],by simp,by simp[Rs],fun m hm=>?_⟩
   have:m=0:=by omega
   subst this;simp[Builtin.firstCells,loadCells,loadCellsFrom]
  ·rename_i cs len _;split at h
   case isFalse=>cases h
   rename_i iD;cases h;simp only[qe,aKV.injEq]at hl;subst hl
   simp only[R]at hx;obtain⟨cb,o,cap,c,e,f,rfl,h2,h3,h4,h5⟩:=hx;have h5':=kN.ext (Ext.refl w (Live Lo ι H)) _ _ ι _ _ (tP ι) h5;refine⟨c.extract o (o+xs.length),by simp[Builtin.lenOf],iD,h5'.list,fun m hm=>?_⟩;have kM:m*esz<=xs.length:=by rw[iD];exact aLL _ hm
   obtain⟨vs,g1,g2,g3⟩:=I5 (P:=P) h3 (h5'.take (m*esz));have hlen:(xs.take (m*esz)).length=m*esz:=by simp;omega
   have g2':=run_loadCells_list (P:=P) w ⟨cb,o,none⟩ (c.extract o (o+m*esz)).toList (fun j v hj=>by
    rw[addr_add,uJ h3];rw[aKX,aK2]at hj;split at hj
    ·exact hj
    ·cases hj)
   have Tc:(c.extract o (o+m*esz)).toList.length=m*esz:=by
    have:=(h5'.take (m*esz)).list.length
    rw[hlen]at this;exact this
   rw[Tc]at g2';simp only[Builtin.firstCells,g2'];congr 1;apply aL4;simp only[aLK,aKZ,aL6,List.drop_zero,List.take_take];congr 1;omega
  ·rename_i b off len e kc _;split at h
   ·cases h
   rename_i En;simp only[ne_eq,Decidable.not_not]at En;subst En;split at h
   case h_2=>cases h
   rename_i st cs hb;split at h
   ·cases h
   rename_i fZ;simp only[not_or,aL3]at fZ;cases h;simp only[qe,aKV.injEq]at hl;subst hl
   simp only[R]at hx;obtain⟨cb,co,cap,c,e',f,h1,rfl,h3,h4,h5,h6⟩:=hx;obtain⟨Re,co',o,g1,g2,g3,_⟩:=S.obj b _ hb fZ.1;rw[h1]at g1;cases g1
   rw[h5]at g2;cases g2
   simp only[jH]at g3;obtain⟨c2,e2,f2,q1,q2,_⟩:=g3;cases q1;have hr:=(q2.drop off).take (len*e);have hlen:((cs.drop off).take (len*e)).length=len*e:=by simp;omega
   refine⟨c.extract (co+off) (co+off+len*e),by simp[Builtin.lenOf],hlen,by have:=hr.list;rwa[hlen]at this,fun m hm=>?_⟩;have kM:m*e<=len*e:=aLL _ hm;have g2':=run_loadCells_list (P:=P) w ⟨cb,co+off,none⟩ (c.extract (co+off) (co+off+m*e)).toList (fun j v hj=>by
    rw[addr_add,uJ h5];rw[aKX,aK2]at hj;split at hj
    ·exact hj
    ·cases hj)
   have Tc:(c.extract (co+off) (co+off+m*e)).toList.length=m*e:=by
    have:=(hr.take (m*e)).list.length
    have h8:(((cs.drop off).take (len*e)).take (m*e)).length=m*e:=by simp;omega
    rw[h8]at this;exact this
   rw[Tc]at g2';simp only[Builtin.firstCells,g2'];congr 1;apply aL4;simp only[aLK,aKZ,aL6,List.drop_zero,List.take_take];congr 1;omega
  ·cases h
section
variable{t u ty e:Nat}{eO:Array Nat}{args:Array Value}{vx:Value}{ui ei:Bn}{n:Nat}{news:Array Value}{b:Option Addr}{sl sc:Nat}
theorem FO(V:Valid E P)(uh:eO[0]?=some t)(Oy:eO[1]?=some u)(La:args[0]?=some (.slice b sl sc))(EB:args[1]?=some vx)
  (gd:(underlying t).run P w=.ok (.slice e) w) (mL:E.ty e=some ei) (Ot:(underlying u).run P w=.ok ui.cV w) (hq:∀k,ui.cV≠ .int k)
  (hlen:(Builtin.lenOf vx).run P w=.ok n w) (aez:(Builtin.firstCells ei.size n vx).run P w=.ok news w) (Hy:sl+n<=sc):
  (Builtin.append_ eO ty args).run P w=(match b with
   |some a=>(do storeCells (a.add (sl*ei.size)) news.toList;pure (.slice b (sl+n) sc):Sem Value).run P w
   |none=>.ok (.slice b (sl+n) sc) w):=by
 cases hd:ui.cV
 case int k=>exact absurd hd (hq k)
 all_goals
  rw[hd]at Ot;simp only[Builtin.append_,uh,Oy,La,EB,Sem.run_bind,gd,Result.andThen_ok,cX V mL w,Ot,Sem.run_pure,hlen,aez,Hy,if_true,Bool.not_false,aKT,if_false];cases b<;>simp
theorem Iw(V:Valid E P)(uh:eO[0]?=some t)(Oy:eO[1]?=some u)(La:args[0]?=some (.slice b sl sc))(EB:args[1]?=some vx)
  (gd:(underlying t).run P w=.ok (.slice e) w) (mL:E.ty e=some ei) (Ot:(underlying u).run P w=.ok ui.cV w) (hq:∀k,ui.cV≠ .int k)
  (hlen:(Builtin.lenOf vx).run P w=.ok n w) (Hy:¬sl+n<=sc) (hb:(sl+n)*ei.bytes<=140737488355328) (h63:sl+n<=4611686018427387904)
  {Ql z:Array Value} (hz:∀w:World,∃zv,(zeroValue e).run P w=.ok zv w/\zv.cells=z)
  (aez:(Builtin.firstCells ei.size n vx).run P w.drew=.ok news w.drew) (hold:(Builtin.firstCells ei.size sl (.slice b sl sc)).run P w.drew=.ok Ql w.drew):
  (Builtin.append_ eO ty args).run P w=.ok (.slice (some ⟨w.heap.size,0,none⟩) (sl+n) (grownCap w (sl+n) sc e))
   (w.drew.alloc (.cells (Ql++news++Builtin.zeroCells z (grownCap w (sl+n) sc e-(sl+n))) e)):=by
 obtain⟨ti,t1,t2,t3⟩:=V.LA mL;have alM:=growslice_fits (need:=sl+n) (old:=sc) (bytes:=ei.bytes) (by omega) hb;have hn1:¬(281474976710656<Builtin.nextslicecap (sl+n) sc*ei.bytes):=by omega
 have Tn:IntKind.i64.max=9223372036854775807:=by decide
 have hn2:¬(9223372036854775807<((sl+n:Nat):Int)):=by omega
 obtain⟨zv,hz1,hz2⟩:=hz w.drew;have aDd:Sem.run P (Builtin.firstCells ei.size n vx) {heap:=w.heap,tape:=w.tape,drawn:=w.drawn+1,os:=w.os,output:=w.output}=.ok news w.drew:=aez;have Xa:Sem.run P (Builtin.firstCells ei.size sl (.slice b sl sc)) {heap:=w.heap,tape:=w.tape,drawn:=w.drawn+1,os:=w.os,output:=w.output}=.ok Ql w.drew:=hold;have Tx:∀w:World,(typeInfo e).run P w=.ok ti w:=fun w=>by simp[typeInfo,t1]
 cases hd:ui.cV
 case int k=>exact absurd hd (hq k)
 all_goals
  rw[hd]at Ot;simp only[Builtin.append_,uh,Oy,La,EB,Sem.run_bind,gd,Result.andThen_ok,cX V mL w,Ot,Sem.run_pure,hlen,Hy,if_false,Bool.not_false,aKT,Tx,t3,Tn,gt_iff_lt,hn2,false_and,hn1,run_choose,Question.forced,run_askRoom,Xa,aez,hz1,hz2,newRow,run_newObj,Nat.reducePow,if_true];rfl
theorem GR(V:Valid E P){k k':IntKind}{m:Int}(uh:eO[0]?=some t)(Oy:eO[1]?=some u)(La:args[0]?=some (.slice b sl sc))(EB:args[1]?=some (.int k' m))
  (gd:(underlying t).run P w=.ok (.slice e) w) (mL:E.ty e=some ei) (Ot:(underlying u).run P w=.ok ui.cV w) (hq:ui.cV=.int k)
  (h0:0<=m) (aFf:m<=4611686018427387904) (hmb:m.toNat*ei.bytes<=140737488355328) (NH:m.toNat*ei.size≠0)
  (Hy:¬sl+m.toNat<=sc) (hb:(sl+m.toNat)*ei.bytes<=140737488355328) (h63:sl+m.toNat<=4611686018427387904) (hbz:ei.bytes≠0)
  {Ql z:Array Value} (hz:∀w:World,∃zv,(zeroValue e).run P w=.ok zv w/\zv.cells=z)
  (hold:(Builtin.firstCells ei.size sl (.slice b sl sc)).run P w.drew=.ok Ql w.drew):
  (Builtin.append_ eO ty args).run P w=.ok (.slice (some ⟨w.heap.size,0,none⟩) (sl+m.toNat) (grownCap w (sl+m.toNat) sc e))
   (w.drew.alloc (.cells (Ql++Builtin.zeroCells z m.toNat++Builtin.zeroCells z (grownCap w (sl+m.toNat) sc e-(sl+m.toNat))) e)):=by
 obtain⟨ti,t1,t2,t3⟩:=V.LA mL;have alM:=growslice_fits (need:=sl+m.toNat) (old:=sc) (bytes:=ei.bytes) (by omega) hb;have hn1:¬(281474976710656<Builtin.nextslicecap (sl+m.toNat) sc*ei.bytes):=by omega
 have Tn:IntKind.i64.max=9223372036854775807:=by decide
 have hn2:¬(9223372036854775807<((sl+m.toNat:Nat):Int)):=by omega
 obtain⟨zv,hz1,hz2⟩:=hz w.drew;have Xa:Sem.run P (Builtin.firstCells ei.size sl (.slice b sl sc)) {heap:=w.heap,tape:=w.tape,drawn:=w.drawn+1,os:=w.os,output:=w.output}=.ok Ql w.drew:=hold;have Tx:∀w:World,(typeInfo e).run P w=.ok ti w:=fun w=>by simp[typeInfo,t1]
 have hw:IntKind.i64.wrap m=m:=by rw[IntKind.wrap_i64];omega
 have n1:¬m<0:=by omega
 have n3:¬(281474976710656<m*(ei.bytes:Int)):=by
  have:=Int.ofNat_le.2 hmb
  have e1:((m.toNat:Nat):Int)=m:=by omega
  rw[Int.natCast_mul,e1]at this;omega
 rw[hq]at Ot;simp only[Builtin.append_,uh,Oy,La,EB,Sem.run_bind,gd,Result.andThen_ok,cX V mL w,Ot,Sem.run_pure,asInt,asIntOf,hw,n1,n3,NH,Hy,if_false,Bool.not_true,aKT,Tx,t3,Tn,gt_iff_lt,hn2,false_and,hn1,run_choose,Question.forced,run_askRoom,Xa,hz1,hz2,newRow,run_newObj,Nat.reducePow,Int.reducePow,if_true];rfl
end
theorem CF(S:iZ E Lo w0 ι H w){aL:Nat}(hf:pI ι H aL){cs:List AV}{n esz e cap:Nat}{vs rest:Array Value}(hr:Rs ι w (Live Lo ι H) cs vs.toList)
  (hn:cs.length=n*esz) (ahU:n<=cap) (jn:rest.size=(cap-n)*esz):
  ju E Lo w0 ι H w (.aI aL 0 n esz n) (.bU [(aL,.cells .live cs)]) (.slice (some ⟨w.heap.size,0,none⟩) n cap) (w.drew.alloc (.cells (vs++rest) e)):=by
 have hl:vs.size=cs.length:=by have:=hr.length;simpa using this
 have zr:kN ι w (Live Lo ι H) (vs++rest) 0 cs:=hr.at (fun i v hv=>by
  rw[aKX]at hv
  have:i<vs.size:=(Array.getElem?_eq_some_iff.1 hv).1
  rw[aLM,aLY this];exact hv)
 have N:=qO S hf (e:=e) (f:=(0,0)) (w1:=w.drew) rfl rfl rfl rfl zr (fun k _ hk=>absurd hk.2 (aL8 _));refine⟨_,N.1,N.2.1,N.2.2.1,?_⟩;simp only[R];refine⟨w.heap.size,0,cap,vs++rest,e,(0,0),N.2.2.2.2,rfl,aKR _,ahU,N.2.2.2.1,?_⟩;rw[Array.size_append,hl,hn,jn,<-aLS]
 have:n+(cap-n)=cap:=by omega
 rw[this];omega
end
section
variable{E:Env}{P:Program}{ι:eg}{w:World}{L:Nat->Prop}{ts:List AV}{a:Act}{Lo:Nat->Prop}{w0:World}{H:Hp}
theorem iZ.dr(S:iZ E Lo w0 ι H w):iZ E Lo w0 ι H w.drew:=(S.drew (w':=w.drew) rfl rfl rfl rfl).1
theorem MP{w':World}(h:w'.heap=w.heap):Ext w L w' L:=
 ⟨by rw[h];exact aKR _,fun _ _ hn=>⟨by rw[h],hn⟩,fun c cs e f hc=>⟨cs,f,by rw[h];exact hc,rfl⟩⟩
theorem R.dr{x:AV}{v:Value}(h:R ι w L x v):R ι w.drew L x v:=R.ext (w:=w) (w':=w.drew) (MP rfl) _ _ _ _ (eg.le_refl _) h
theorem Rs.awf{x:List AV}{v:List Value}(h:Rs ι w.drew L x v):Rs ι w L x v:=Rs.ext (w:=w.drew) (w':=w) (MP rfl) _ _ _ _ (eg.le_refl _) h
theorem rV(z:Array Value)(n:Nat):(Builtin.zeroCells z n).size=n*z.size:=size_zeroCells z n
theorem Nz(V:Valid E P){e:Nat}{ei:Bn}(mL:E.ty e=some ei){zc:List AV}(hz:ei.zero=some zc):
  ∃z:Array Value,z.size=ei.size/\∀w:World,∃zv,(zeroValue e).run P w=.ok zv w/\zv.cells=z:=by
 obtain⟨ti,h1,h2,h3,h4⟩:=(V.ty e ei mL).info;obtain⟨z,z1,z2,z3,z4,z5⟩:=h4 zc hz
 have:=(yd (ι:=cS) (w:=default) (L:=fun _=>False) 19 _ _ z2).length
 exact⟨z.cells,by simp at this;omega,fun w=>⟨z,by simp[zeroValue,typeInfo,h1,z1],rfl⟩⟩
theorem FD{cb o m esz len cap:Nat}{c:Array Value}{e:TypeId}{f:Nat×Nat}(hc:w.heap[cb]?=some (.cells c e f))(hle:o+m*esz<=c.size):
  (Builtin.firstCells esz m (.slice (some ⟨cb,o,none⟩) len cap)).run P w=.ok (c.extract o (o+m*esz)) w:=by
 have g:=run_loadCells_list (P:=P) w ⟨cb,o,none⟩ (c.extract o (o+m*esz)).toList (fun j v hj=>by
  rw[addr_add,uJ hc];rw[aKX,aK2]at hj;split at hj
  ·exact hj
  ·cases hj)
 have hl:(c.extract o (o+m*esz)).toList.length=m*esz:=by simp;omega
 rw[hl]at g;simp only[Builtin.firstCells,g]
theorem Qf(V:Valid E P)(S:iZ E Lo w0 ι H w){aL t u ty:Nat}(hf:pI ι H aL){eO:Array Nat}{args:Array Value}{vs vx:Value}{ui:Bn}
  (uh:eO[0]?=some t) (Oy:eO[1]?=some u) (La:args[0]?=some vs) (EB:args[1]?=some vx) (hu:E.ty u=some ui)
  (hq:∀k,ui.cV≠ .int k) {s x v:AV} {st:List (Nat×cz)}
  (hs:R ι w (Live Lo ι H) s vs) (hx:R ι w (Live Lo ι H) x vx) (h:fQ E H aL false t s x=some (v,st)):
  ∃cv w',(Builtin.append_ eO ty args).run P w=.ok cv w'/\ju E Lo w0 ι H w v (.bU st) cv w':=by
 unfold fQ at h;split at h
 case h_2=>cases h
 rename_i e _ _ _ _ _ hi;have gd:(underlying t).run P w=.ok (.slice e) w:=bg V hi w;have Ot:(underlying u).run P w=.ok ui.cV w:=bg V hu w;split at h
 case h_2=>cases h
 rename_i ei mL;split at h
 case h_2=>cases h
 rename_i n xs uO;simp only[vD,aKT,if_false]at uO;split at uO
 case h_2=>cases uO
 rename_i n' xs' hlx hsx;cases uO;obtain⟨news,x1,x2,x3,x4⟩:=xZ S hx hlx hsx;obtain⟨anj,d1,d2,d3,d4⟩:=xZ S.dr hx.dr hlx hsx;have hns:news.size=n*ei.size:=by have:=x3.length;rw[<-x2];simpa using this
 have hnd:anj.size=n*ei.size:=by have:=d3.length;rw[<-d2];simpa using this
 have xn:=x4 n (aKR _);rw[<-hns,aLX]at xn;have dn:=d4 n (aKR _);rw[<-hnd,aLX]at dn;split at h
 ·
  rename_i QH;subst QH;have QH:news=#[]:=by apply Array.eq_empty_of_size_eq_zero;rw[hns];simp
  have D6:∃b sl sc,vs=.slice b sl sc/\sl<=sc/\(b=none∨∃ad,b=some ad):=by
   cases s<;>first|(exfalso;revert h;simp;done)|simp only[R]at hs
   ·exact⟨none,0,0,hs,aKR _,.inl rfl⟩
   ·obtain⟨ad,cap,rfl⟩:=hs;exact⟨_,_,_,rfl,Nat.zero_le _,.inr ⟨ad,rfl⟩⟩
   ·obtain⟨cb,co,cap,c,e',f,h1,rfl,h3,h4,_⟩:=hs;exact⟨_,_,_,rfl,by omega,.inr ⟨_,rfl⟩⟩
   ·obtain⟨cb,o,cap,c,e',f,rfl,h3,_⟩:=hs;exact⟨_,_,_,rfl,by omega,.inr ⟨_,rfl⟩⟩
  obtain⟨b,sl,sc,rfl,hle,hb⟩:=D6;have n7:=FO (ty:=ty) V uh Oy La EB gd mL Ot hq x1 xn (by omega);refine⟨.slice b sl sc,w,?_,?_⟩
  ·rw[n7];subst QH;rcases hb with rfl|⟨ad,rfl⟩
   ·simp
   ·simp[storeCells]
  ·have:v=s/\st=[]:=by
    cases s<;>first|(exfalso;revert h;simp;done)|(simp only[if_true,aKV.injEq,Prod.mk.injEq]at h;exact⟨h.1.symm,h.2.symm⟩)
   rw[this.1,this.2];exact ju.pure S hs
 rename_i QH;split at h
 ·cases h
 rename_i HR;simp only[aLP,decide_eq_true_eq,not_or,aLZ,aL0]at HR;obtain⟨⟨aGX,so⟩,hzn⟩:=HR;obtain⟨zc,hzc⟩:∃zc,ei.zero=some zc:=by
  cases hh:ei.zero with
  |none=>rw[hh]at hzn;exact absurd rfl hzn
  |some zc=>exact⟨zc,rfl⟩
 obtain⟨z,hzs,hz⟩:=Nz V mL hzc;have d3':=d3.awf;split at h
 ·
  split at h
  case isFalse=>cases h
  rename_i hb;obtain⟨vO,Ao⟩:=hb;cases h;simp only[R]at hs;subst hs;have hold:(Builtin.firstCells ei.size 0 (.slice none 0 0)).run P w.drew=.ok #[] w.drew:=by simp[Builtin.firstCells]
  have n7:=Iw (ty:=ty) V uh Oy La EB gd mL Ot hq x1 (by omega) (by rw[aLM];exact vO) (by omega) hz dn hold;rw[aLM]at n7;have G:=CF S hf (e:=e) (rest:=Builtin.zeroCells z (grownCap w n 0 e-n)) d3' x2 (grownCap_ge w n 0 e) (by rw[rV,hzs]);exact⟨_,_,by rw[n7];simp,G⟩
 ·
  rename_i b off len esz kc _;split at h
  case h_2=>cases h
  rename_i cs hb;simp only[R]at hs;obtain⟨cb,co,cap,c,e',f,h1,rfl,h3,h4,h5,h6⟩:=hs;obtain⟨Re,co',o,g1,g2,g3,g4,_⟩:=S.obj b _ hb (by simp[cz.st]);rw[h1]at g1;cases g1
  rw[h5]at g2;cases g2
  simp only[jH]at g3;obtain⟨c2,e2,f2,q1,q2,q3⟩:=g3;cases q1;split at h
  ·
   rename_i hk;split at h
   case isFalse=>cases h
   rename_i hc;obtain⟨En,hle⟩:=hc;cases h;have n7:=FO (ty:=ty) V uh Oy La EB gd mL Ot hq x1 xn (by omega);have hm:off+len*esz+xs.length<=cs.length:=by rw[x2,<-En,aKU,<-aLS];exact hle
   have T:=wH (P:=P) (xs:=xs) (off:=off+len*esz) S hb h1 x3 hm (by simpa using so);refine⟨.slice (some ⟨cb,co+off,none⟩) (len+n) cap,_,?_,ι,eg.le_refl _,by rw[mV hb];exact T.2.1,by rw[mV hb];exact T.2.2,?_⟩
   ·rw[n7];simp only[addr_add,<-En,aKU,Sem.run_bind]
    have:=T.1
    rw[show co+(off+len*esz)=co+(off+len*esz)from rfl]at this;rw[this];rfl
   ·simp only[R];obtain⟨c',f',k1,k2⟩:=T.2.2.shape cb c e' f h5;exact⟨cb,co,cap,c',e',f',h1,rfl,hk,h4,k1,by omega⟩
  ·rename_i hk;split at h
   case isFalse=>cases h
   rename_i hc;obtain⟨En,hle,vO,Ao⟩:=hc;cases h;have E2:Rs ι w (Live Lo ι H) ((cs.drop off).take (len*esz)) (c.extract (co+off) (co+off+len*esz)).toList:=by
    have:=((q2.drop off).take (len*esz)).list
    have hlen:((cs.drop off).take (len*esz)).length=len*esz:=by simp;omega
    rwa[hlen]at this
   have hlen:((cs.drop off).take (len*esz)).length=len*esz:=by simp;omega
   by_cases Hy:len+n<=cap
   ·
    have n7:=FO (ty:=ty) V uh Oy La EB gd mL Ot hq x1 xn Hy;have qo:co+off+len*esz+n*esz<=c.size:=by
     have:(len+n)*esz<=cap*esz:=aLL _ Hy
     rw[aLS]at this;omega
    have hvl:news.toList.length=n*esz:=by rw[En];simpa using hns
    have aeR:=run_storeCells_cells (P:=P) cb (co+off+len*esz) news.toList 0 w (fun j hj=>by
      rw[uJ h5,aLU (show co+off+len*esz+0+j<c.size by omega)];rfl) (fun j hj=>by
      have:=q3 trivial (co+off+len*esz+0+j) (by omega)
      simp only[World.frozen?,h5];simpa using this) (fun v hv=>by
      obtain⟨i,AK⟩:=aMb hv;have hil:i<xs.length:=by have:=(aKS.1 AK).1;rw[x2,<-En];omega
      obtain⟨v',k1,k2⟩:=x3.get i _ (aL5 hil);rw[AK]at k1;cases k1
      exact Iu k2 (aLN.1 (by simpa using so) _ (aMn hil)))
    obtain⟨c',o1,o2,o3⟩:=tw news.toList w cb (co+off+len*esz) c e' f h5 (by omega);have F2:nG (.cells c e' f) (.cells c' e' f):=fun cs e f q=>by cases q;exact⟨c',_,rfl,o2⟩
    have tT:Live Lo ι H cb:=.inr ⟨b,_,co,hb,rfl,h1⟩;have Lm:=o1.ext (L:=Live Lo ι H) (L':=Live Lo ι H) h5 F2 tT (fun _ h=>h);have LM:=eg.C9 (p:=(cb,co+off)) hf.1;have G:=S.aiC (cs0:=[]) (co':=co+off) (blk':=.cells .live ((cs.drop off).take (len*esz)++xs)) hb rfl rfl hf h1 h5 F2 o1 (by
     simp only[jH];refine⟨c',e',f,rfl,kN.jW fun i y hy=>?_,fun _=>by rw[o2];exact q3 trivial⟩;rw[o3];rw[aK5]at hy;rw[hlen]at hy;by_cases h8:i<len*esz
     ·rw[if_pos h8]at hy;rw[if_neg (by omega)];obtain⟨v,k1,k2⟩:=((q2.drop off).take (len*esz)).get i y hy;exact⟨v,k1,R.ext Lm _ _ _ _ LM k2⟩
     ·rw[if_neg h8]at hy;have hil:=(aKS.1 hy).1;rw[if_pos (by rw[hvl];rw[x2,<-En]at hil;omega)];obtain⟨v,k1,k2⟩:=x3.get _ y hy;exact⟨v,by rw[<-k1];congr 1;omega,R.ext Lm _ _ _ _ LM k2⟩) (by simp)
    have iR:(cE.bU [(b,.cells .dead []),(aL,.cells .live ((cs.drop off).take (len*esz)++xs))]).app H=eE (H.set b (.cells .dead [])) aL (.cells .live ((cs.drop off).take (len*esz)++xs)):=by have iH:=(aKS.1 hb).1;simp[cE.app,eE,iH]
    refine⟨.slice (some ⟨cb,co+off,none⟩) (len+n) cap,_,?_,_,LM,by rw[iR];exact G.1,by rw[iR];exact G.2,?_⟩
    ·rw[n7];simp only[addr_add,<-En,Sem.run_bind,aKU]at aeR⊢
     have:=aeR
     rw[this];rfl
    ·simp only[R];exact⟨cb,co+off,cap,c',e',f,by simp[eg.put],by simp,aKR _,Hy,o1.here,by rw[o2];omega⟩
   ·
    have hold:(Builtin.firstCells ei.size len (.slice (some ⟨cb,co+off,none⟩) len cap)).run P w.drew=.ok (c.extract (co+off) (co+off+len*esz)) w.drew:=by
     rw[<-En];exact FD (w:=w.drew) h5 (by
      have:len*esz<=cap*esz:=aLL _ (by omega)
      omega)
    have n7:=Iw (ty:=ty) V uh Oy La EB gd mL Ot hq x1 Hy vO (by omega) hz dn hold;have K:=S.kill (b:=b) [] (by simp);have hf':pI ι (H.set b (.cells .dead [])) aL:=by
     refine⟨hf.1,?_⟩;rcases hf.2 with q|q
     ·exact .inl (by simpa using q)
     ·refine .inr ?_;have IL:b≠aL:=fun e=>by subst e;rw[hf.1]at h1;cases h1
      rw[aKQ,if_neg IL];exact q
    have wj:Rs ι w (Live Lo ι (H.set b (.cells .dead []))) ((cs.drop off).take (len*esz)++xs) (c.extract (co+off) (co+off+len*esz)++anj).toList:=by rw[Array.toList_append];exact(Rs.ext K.2 _ _ _ _ (eg.le_refl _) E2).append (Rs.ext K.2 _ _ _ _ (eg.le_refl _) d3')
    have G:=CF K.1 hf' (e:=e) (n:=len+n) (esz:=esz) (rest:=Builtin.zeroCells z (grownCap w (len+n) cap e-(len+n))) wj
     (by rw[aMf,hlen,x2,<-En,aLS]) (grownCap_ge w (len+n) cap e) (by rw[rV,hzs,En])
    obtain⟨ι',p1,p2,p3,p4⟩:=G;have iR:(cE.bU [(b,.cells .dead []),(aL,.cells .live ((cs.drop off).take (len*esz)++xs))]).app H=(cE.bU [(aL,.cells .live ((cs.drop off).take (len*esz)++xs))]).app (H.set b (.cells .dead [])):=by have iH:=(aKS.1 hb).1;simp[cE.app,eE,iH]
    refine⟨_,_,n7,ι',p1,by rw[iR];exact p2,by rw[iR];exact K.2.trans p3,by rw[iR];exact p4⟩
 ·cases h
end
section
variable{E:Env}{P:Program}{ι:eg}{w:World}{L:Nat->Prop}{ts:List AV}{a:Act}{Lo:Nat->Prop}{w0:World}{H:Hp}
theorem YL(V:Valid E P)(S:iZ E Lo w0 ι H w){t ty:Nat}{eO:Array Nat}{args:Array Value}{vd vx:Value}{d x v:AV}{st:List (Nat×cz)}
  (uh:eO[0]?=some t) (La:args[0]?=some vd) (EB:args[1]?=some vx) (hd:R ι w (Live Lo ι H) d vd) (hx:R ι w (Live Lo ι H) x vx) (h:AG E H t d x=some (v,st)):
  ∃cv w',(Builtin.copy_ eO ty args).run P w=.ok cv w'/\ju E Lo w0 ι H w v (.bU st) cv w':=by
 unfold AG at h;split at h
 case h_2=>cases h
 rename_i e _ _ _ _ _ hi;have gd:(underlying t).run P w=.ok (.slice e) w:=bg V hi w;split at h
 case h_2=>cases h
 rename_i ei mL;split at h
 case h_2=>cases h
 rename_i dn xn xs hld hlx hsx;obtain⟨news,x1,x2,x3,x4⟩:=xZ (P:=P) S hx hlx hsx;have hns:news.size=xn*ei.size:=by have:=x3.length;rw[<-x2];simpa using this
 have xm:=x4 (min xn dn) (Nat.min_le_left _ _);simp only at h;split at h
 ·rename_i RC;rw[RC]at xm;simp only[Nat.zero_mul]at xm;have D6:∃b sc,vd=.slice b dn sc:=by
   cases d<;>first|(exfalso;revert h;simp;done)|simp only[R]at hd
   ·simp only[qe,aKV.injEq]at hld;subst hld;exact⟨none,0,hd⟩
   ·simp only[qe,aKV.injEq]at hld;subst hld;obtain⟨ad,cap,rfl⟩:=hd;exact⟨_,_,rfl⟩
   ·simp only[qe,aKV.injEq]at hld;subst hld;obtain⟨cb,co,cap,c,e',f,h1,rfl,h3,h4,_⟩:=hd;exact⟨_,_,rfl⟩
  obtain⟨b,sc,rfl⟩:=D6;have hv:v=.int .i64 0/\st=[]:=by
   cases d<;>first|(exfalso;revert h;simp;done)|(simp only[aKV.injEq,Prod.mk.injEq]at h;exact⟨h.1.symm,h.2.symm⟩)
  obtain⟨rfl,rfl⟩:=hv;refine⟨.int .i64 0,w,?_,ju.pure S (by simp[R])⟩;have e1:news.extract 0 0=#[]:=by simp
  have RD:Nat.min xn dn=0:=RC;rw[e1]at xm;simp only[Builtin.copy_,uh,La,EB,Sem.run_bind,gd,Result.andThen_ok,x1,cX V mL w,RD,xm];cases b<;>simp[storeCells,goInt]
 ·rename_i RC;split at h
  case h_2=>cases h
  rename_i b off dl esz kc;split at h
  case h_2=>cases h
  rename_i cs hb;split at h
  case isFalse=>cases h
  rename_i hc;obtain⟨En,hle,so⟩:=hc;cases h;simp only[qe,aKV.injEq]at hld;subst hld;simp only[R]at hd;obtain⟨cb,co,cap,c,e',f,h1,rfl,h3,h4,h5,h6⟩:=hd;have iH:(xs.take (min xn dl*esz)).length=min xn dl*esz:=by rw[aMo,x2,<-En];exact Nat.min_eq_left (aLL _ (Nat.min_le_left _ _))
  have E2:Rs ι w (Live Lo ι H) (xs.take (min xn dl*esz)) (news.extract 0 (min xn dl*ei.size)).toList:=by
   have:=x3.take (min xn dl*esz)
   rw[aLK,aKZ];simpa[En]using this
  have T:=wH (P:=P) (xs:=xs.take (min xn dl*esz)) (off:=off) S hb h1 E2 (by rw[iH];exact hle) (by
   rw[aLN]at so⊢;exact fun y hy=>so y (List.mem_of_mem_take hy))
  refine⟨.int .i64 (min xn dl:Nat),_,?_,ι,eg.le_refl _,by rw[mV hb];exact T.2.1,by rw[mV hb];exact T.2.2,by simp[R]⟩;have RD:Nat.min xn dl=min xn dl:=rfl;simp only[Builtin.copy_,uh,La,EB,Sem.run_bind,gd,Result.andThen_ok,x1,cX V mL w,RD,xm,T.1,Sem.run_pure,goInt]
theorem H8:∀(n:Nat) (x y:AV),KE n x y=true->x=y
 |n,x,y,h=>by
  unfold KE at h;split at h
  ·simp at h;rw[h]
  ·simp at h;rw[h.1,h.2]
  ·simp at h;rw[h]
  ·rename_i n xs ys;simp only[aLR,beq_iff_eq]at h;obtain⟨h1,h2⟩:=h;congr 1;apply List.ext_getElem h1;intro i hi hj;rw[aLN]at h2
   have:=h2 (xs[i],ys[i]) (by
    rw[List.mem_iff_getElem];exact⟨i,by simp;omega,by simp⟩)
   exact H8 n _ _ this
  ·cases h
theorem nR(V:Valid E P)(em:Bool):∀(n m d t:Nat) (k:AV) (vk:Value),n<=d->plainKey E n t=true->R ι w L k vk->yJ E m t k k=some true->
  (Instr.checkKey em d t vk).run P w=.ok () w
 |0,_,_,_,_,_,_,h,_,_=>by simp[plainKey]at h
 |n+1,m,d,t,k,vk,hd,hp,hr,he=>by
  obtain⟨d,rfl⟩:∃q,d=q+1:=⟨d-1,by omega⟩;cases m with
  |zero=>simp[yJ]at he
  |succ m=>
  unfold plainKey at hp;cases hi:E.ty t with
  |none=>simp[hi]at hp
  |some i=>
   simp only[hi]at hp;have hu:=(V.ty t i hi).cV;unfold yJ at he;simp only[hi]at he;cases gd:i.cV<;>simp only[gd]at hp he hu<;>first|(exfalso;revert hp;simp;done)|skip
   case bool=>simp[Instr.checkKey,run_underlying hu]
   case int=>simp[Instr.checkKey,run_underlying hu]
   case string=>simp[Instr.checkKey,run_underlying hu]
   case array len elem=>
    cases k<;>first|(exfalso;revert he;simp;done)|skip
    rename_i xs;simp only[R]at hr;obtain⟨vs,rfl,hr⟩:=hr;cases mL:E.ty elem with
    |none=>simp[mL]at he
    |some ei=>
     simp only[mL]at he;simp only[Instr.checkKey,Sem.run_bind,run_underlying hu,Result.andThen_ok];simp only[Std.Legacy.Range.forIn_eq_forIn_range',Std.Legacy.Range.size,aL6,Nat.add_one_sub_one,Nat.div_one];have loop:∀(c i:Nat),jL E (yJ E m) elem ei.size xs xs c i=some true->
       (forIn (List.range' i c) PUnit.unit fun i r=>(do
        let a<-Go.sizeOf elem
        let b<-part elem vs (i*a)
        Instr.checkKey em d elem b
        pure (ForInStep.yield PUnit.unit):Sem (ForInStep PUnit))).run P w=.ok PUnit.unit w:=by
      intro c;induction c with
      |zero=>intro i _;simp
      |succ c ih=>
       intro i h;unfold jL at h;cases h1:jq E elem xs (i*ei.size)with
       |none=>simp[h1]at h
       |some a=>
        simp only[h1]at h;obtain⟨va,p1,r1⟩:=pB V hr h1;cases h3:yJ E m elem a a with
        |none=>simp[h3]at h
        |some r=>
         simp only[h3]at h;cases r with
         |false=>simp at h
         |true=>
          simp only at h
          have:=nR V em n m d elem a va (by omega) hp r1 h3
          rw[List.range'_succ];simp only[List.forIn_cons,Sem.run_bind,cX V mL w,Result.andThen_ok,p1,this,Sem.run_pure];exact ih (i+1) h
     have:=loop len 0 he
     simp at this⊢;simp[this]
   case struct fs=>
    cases k<;>first|(exfalso;revert he;simp;done)|skip
    rename_i xs;simp only[R]at hr;obtain⟨vs,rfl,hr⟩:=hr;simp only[aLR,aLN]at hp;simp only[hp.1,Bool.not_true,aKT,if_false]at he;simp only[Instr.checkKey,Sem.run_bind,run_underlying hu,Result.andThen_ok];rw[<-Array.forIn_toList];have loop:∀(l:List Field),(∀f∈l,plainKey E n f.type=true)->eqFields E (yJ E m) xs xs l=some true->
      (forIn l PUnit.unit fun f r=>(do
       if f.name≠ "_" then do
        let b<-part f.type vs f.offset
        Instr.checkKey em d f.type b
        pure (ForInStep.yield PUnit.unit)
       else pure (ForInStep.yield PUnit.unit):Sem (ForInStep PUnit))).run P w=.ok PUnit.unit w:=by
     intro l;induction l with
     |nil=>intro _ _;simp
     |cons f l ih=>
      intro tE h;unfold eqFields at h;split at h
      ·cases h
      rename_i W6;cases h1:jq E f.type xs f.offset with
      |none=>simp[h1]at h
      |some a=>
       simp only[h1]at h;obtain⟨va,p1,r1⟩:=pB V hr h1;cases h3:yJ E m f.type a a with
       |none=>simp[h3]at h
       |some r=>
        simp only[h3]at h;cases r with
        |false=>simp at h
        |true=>
         simp only at h
         have:=nR V em n m d f.type a va (by omega) (tE f (by simp)) r1 h3
         simp only[List.forIn_cons,Sem.run_bind,ne_eq,W6,not_false_eq_true,if_true,Result.andThen_ok,p1,this,Sem.run_pure];exact ih (fun g hg=>tE g (by simp[hg])) h
    have:=loop fs.toList (fun f hf=>hp.2 f hf) he
    simp at this⊢;simp[this]
theorem Du(V:Valid E P){kt:Nat}{i:Bn}(hi:E.ty kt=some i){k x:Value}{b:Bool}(h:Instr.sameNow i.cV k x=some b)(d:Nat):
  (Op.equalIn (d+1) kt k x).run P w=.ok b w:=by
 have hu:=(V.ty kt i hi).cV;unfold Instr.sameNow at h;split at h
 ·rename_i k1 k2 a k3 c gd;rw[gd]at hu;split at h
  ·rename_i hk;cases h;simp[Op.equalIn,run_underlying hu,hk]
  ·cases h
 ·rename_i a c gd;rw[gd]at hu;cases h;simp[Op.equalIn,run_underlying hu]
 ·rename_i a c gd;rw[gd]at hu;cases h;simp[Op.equalIn,run_underlying hu]
 ·cases h
theorem Dd(V:Valid E P){kt:Nat}{i:Bn}(hi:E.ty kt=some i){k:Value}:∀(es:List MapEntry) (j:Nat) (r:Option (Nat×Value)),Instr.findNow i.cV k es j=some r->
  (Instr.findAsking kt k es j).run P w=.ok r w
 |[],j,r,h=>by simp[Instr.findNow]at h;subst h;simp[Instr.findAsking]
 |e::es,j,r,h=>by
  unfold Instr.findNow at h;split at h
  ·rename_i hs;cases h
   have:=Du (w:=w) V hi hs 9999
   simp[Instr.findAsking,Op.equal,Op.maxDepth,this]
  ·rename_i hs
   have:=Du (w:=w) V hi hs 9999
   simp[Instr.findAsking,Op.equal,Op.maxDepth,this];exact Dd V hi es (j+1) r h
  ·cases h
def Wc(ι:eg)(w:World)(L:Nat->Prop)(j n:Nat):Option (Nat×AV)->Option (Nat×Value)->Prop
 |none,none=>True
 |some (i,v),some (i',v')=>i=i'/\R ι w L v v'/\j<=i/\i-j<n
 |_,_=>False
theorem II(V:Valid E P){kt:Nat}{k:AV}{vk:Value}(hk:R ι w L k vk):∀(ks vs:List AV) (es:List MapEntry) (j:Nat) (r:Option (Nat×AV)),
  Rs ι w L ks (es.map (·.key))->Rs ι w L vs (es.map (·.val))->vf (tn E kt) k ks vs j=some r->
  ∃r',(Instr.findAsking kt vk es j).run P w=.ok r' w/\Wc ι w L j es.length r r'
 |[],[],es,j,r,h1,h2,h=>by
  simp only[Rs,List.map_eq_nil_iff]at h1;subst h1;simp[vf]at h;subst h
  exact⟨none,by simp[Instr.findAsking],trivial⟩
 |[],_::_,es,j,r,h1,h2,h=>by simp[vf]at h
 |_::_,[],es,j,r,h1,h2,h=>by simp[vf]at h
 |x::ks,y::vs,[],j,r,h1,h2,h=>by simp[Rs]at h1
 |x::ks,y::vs,e::es,j,r,h1,h2,h=>by
  simp only[Rs,aLJ,List.cons.injEq]at h1 h2;obtain⟨kx,kxs,⟨e1,e2⟩,rx,rxs⟩:=h1;obtain⟨vy,vys,⟨e3,e4⟩,ry,rys⟩:=h2;subst e1;subst e3;subst e2;subst e4
  unfold vf at h;cases hq:tn E kt k x with
  |none=>simp[hq]at h
  |some b=>
   simp only[hq]at h;have he:=Be V 20 10000 kt k x vk e.key b (by omega) hk rx hq;cases b with
   |true=>
    simp only[aKV.injEq]at h;subst h
    exact⟨some (j,e.val),by simp[Instr.findAsking,Op.equal,Op.maxDepth,he],rfl,ry,aKR _,by simp⟩
   |false=>
    simp only at h;obtain⟨r',g1,g2⟩:=II V hk ks vs es (j+1) r rxs rys h;refine⟨r',by simp[Instr.findAsking,Op.equal,Op.maxDepth,he];exact g1,?_⟩;cases r with
    |none=>cases r' with
     |none=>trivial
     |some p=>exact g2.elim
    |some p=>cases r' with
     |none=>exact g2.elim
     |some p'=>obtain⟨q1,q2,q3,q4⟩:=g2;exact⟨q1,q2,by omega,by simp;omega⟩
theorem sP(V:Valid E P){kt:Nat}{i:Bn}(hi:E.ty kt=some i){k:AV}{vk:Value}(hk:R ι w L k vk){ks vs:List AV}{es:List MapEntry}{r:Option (Nat×AV)}
  (h1:Rs ι w L ks (es.map (·.key))) (h2:Rs ι w L vs (es.map (·.val))) (h:vf (tn E kt) k ks vs 0=some r):
  ∃r',(Instr.findKey kt vk es).run P w=.ok r' w/\Wc ι w L 0 es.length r r':=by
 obtain⟨r',g1,g2⟩:=II V hk ks vs es 0 r h1 h2 h;refine⟨r',?_,g2⟩;unfold Instr.findKey;simp only[Sem.run_bind,bg V hi w,Result.andThen_ok];cases hn:Instr.findNow i.cV vk es 0 with
 |none=>simpa using g1
 |some q=>
  have:=Dd (w:=w) V hi es 0 q hn
  rw[this]at g1;simp only[Sem.run_pure];exact g1
theorem Zz(S:iZ E Lo w0 ι H w){m:AV}{vm:Value}{ks vs:List AV}(hm:R ι w (Live Lo ι H) m vm)(h:FJ H m=some (ks,vs)):
  (vm=.map none/\ks=[]/\vs=[])∨∃cb es clock,vm=.map (some cb)/\w.heap[cb]?=some (.map es clock)/\
   Rs ι w (Live Lo ι H) ks (es.toList.map (·.key))/\Rs ι w (Live Lo ι H) vs (es.toList.map (·.val)):=by
 unfold FJ at h;split at h
 ·cases h;simp only[R]at hm;exact .inl ⟨hm,rfl,rfl⟩
 ·cases h;simp only[R]at hm;obtain⟨cb,es,clock,rfl,h2,h3,h4,h5⟩:=hm;exact .inr ⟨cb,es,clock,rfl,h2,Rs.ext (Ext.refl _ _) _ _ _ _ (tP _) h4,Rs.ext (Ext.refl _ _) _ _ _ _ (tP _) h5⟩
 ·rename_i b;split at h
  case h_2=>cases h
  rename_i st ks' Hh hb;split at h
  ·cases h
  rename_i fZ;cases h;simp only[R]at hm;obtain⟨cb,co,h1,rfl⟩:=hm;obtain⟨Re,co',o,g1,g2,g3,_⟩:=S.obj b _ hb fZ;rw[h1]at g1;cases g1
  simp only[jH]at g3;obtain⟨es,clock,rfl,g4,g5,_⟩:=g3;exact .inr ⟨cb,es,clock,rfl,g2,g4,g5⟩
 ·cases h
theorem sa{cb:Nat}{es:Array MapEntry}{clock:Nat}(h:w.heap[cb]?=some (.map es clock)):(getObj cb).run P w=.ok (.map es clock) w:=by simp[getObj,Sem.run,h]
theorem QG(V:Valid E P)(S:iZ E Lo w0 ι H w){t:Nat}{m k av:AV}{vm vk:Value}{ok:Bool}(hm:R ι w (Live Lo ι H) m vm)(hk:R ι w (Live Lo ι H) k vk)
  (h:gL E H t m k ok=some av):∃cv,(Instr.lookup t vm vk ok).run P w=.ok cv w/\R ι w (Live Lo ι H) av cv:=by
 unfold gL at h;split at h
 case h_2=>cases h
 rename_i kt et _ _ _ _ _ hi;have hu:=bg V hi w;split at h
 case h_2=>cases h
 rename_i ks vs hmp;split at h
 ·cases h
 rename_i hpk;simp only[aLP,aLZ,bne_iff_ne,ne_eq,not_or,aL0,Decidable.not_not]at hpk;obtain⟨hp1,hp2⟩:=hpk;have hkt:∃ki,E.ty kt=some ki:=by
  unfold plainKey at hp1;cases hh:E.ty kt with
  |none=>simp[hh]at hp1
  |some ki=>exact⟨ki,rfl⟩
 obtain⟨ki,YN⟩:=hkt;have qS:∀em,(Instr.checkKey em 10000 kt vk).run P w=.ok () w:=fun em=>nR V em 20 20 10000 kt k vk (by omega) hp1 hk hp2
 have iN:∃es:Array MapEntry,(vm=.map none/\es=#[]∨∃cb clock,vm=.map (some cb)/\w.heap[cb]?=some (.map es clock))/\
   Rs ι w (Live Lo ι H) ks (es.toList.map (·.key))/\Rs ι w (Live Lo ι H) vs (es.toList.map (·.val)):=by
  rcases Zz S hm hmp with⟨rfl,rfl,rfl⟩|⟨cb,es,clock,rfl,h2,h3,h4⟩
  ·exact⟨#[],.inl ⟨rfl,rfl⟩,by simp[Rs],by simp[Rs]⟩
  ·exact⟨es,.inr ⟨cb,clock,rfl,h2⟩,h3,h4⟩
 obtain⟨es,e1,e2,e3⟩:=iN;split at h
 ·rename_i j v hf;cases h;obtain⟨r',g1,g2⟩:=sP V YN hk e2 e3 hf;cases r' with
  |none=>exact g2.elim
  |some p=>
   obtain⟨_,q2,_⟩:=g2;refine⟨if ok then .tuple #[p.2,.bool true]else p.2,?_,?_⟩
   ·unfold Instr.lookup;rcases e1 with⟨rfl,rfl⟩|⟨cb,clock,rfl,q⟩
    ·simp only[Sem.run_bind,hu,Result.andThen_ok,Sem.run_pure,qS,g1]
    ·simp only[Sem.run_bind,hu,Result.andThen_ok,sa q,Sem.run_pure,qS,g1]
   ·cases ok
    ·simpa using q2
    ·simp only[if_true,R];exact⟨_,rfl,by simp[Rs,q2,R]⟩
 ·rename_i hf;rw[aKP]at h;obtain⟨z,hz,rfl⟩:=h;obtain⟨zv,z1,z2⟩:=It V hz ι w (Live Lo ι H);obtain⟨r',g1,g2⟩:=sP V YN hk e2 e3 hf;cases r' with
  |some p=>exact g2.elim
  |none=>
   refine⟨if ok then .tuple #[zv,.bool false]else zv,?_,?_⟩
   ·unfold Instr.lookup;rcases e1 with⟨rfl,rfl⟩|⟨cb,clock,rfl,q⟩
    ·simp only[Sem.run_bind,hu,Result.andThen_ok,Sem.run_pure,qS,g1,z1]
    ·simp only[Sem.run_bind,hu,Result.andThen_ok,sa q,Sem.run_pure,qS,g1,z1]
   ·cases ok
    ·simpa using z2
    ·simp only[if_true,R];exact⟨_,rfl,by simp[Rs,z2,R]⟩
 ·cases h
end
section
variable{E:Env}{P:Program}{ι:eg}{w:World}{L:Nat->Prop}{ts:List AV}{a:Act}{Lo:Nat->Prop}{w0:World}{H:Hp}
def sC(w:World)(r:Nat)(o:Obj):World:={w with heap:=w.heap.setIfInBounds r o}
theorem zP{r:Nat}{o:Obj}(h:∃ob,w.heap[r]?=some ob/\∀c e f,ob≠ .cells c e f):(setObj r o).run P w=.ok () (sC w r o):=by
 obtain⟨ob,h1,h2⟩:=h;cases ob<;>first|(exact absurd rfl (h2 _ _ _))|simp[setObj,Sem.run,h1,sC]
theorem oT{w1:World}{r:Nat}{o ob:Obj}(hh:w1.heap=w.heap)(hos:w1.os=w.os)(Hj:w1.tape=w.tape)(yp:w1.output=w.output)(h:w.heap[r]?=some ob):
  Ko w (sC w1 r o) r o:=by
 have iH:=ie h;refine⟨hos,Hj,yp,by simp[sC,hh],?_,fun c hc=>?_⟩
 ·simp[sC,hh,iH]
 ·simp only[sC,hh];rw[aLO (fun e=>hc e.symm)]
theorem B6(old new:Value)(w:World):∃Mt w1,(Instr.keyThatStays old new).run P w=.ok Mt w1/\(Mt=old∨Mt=new)/\w1.heap=w.heap/\w1.os=w.os/\w1.tape=w.tape/\w1.output=w.output:=by
 unfold Instr.keyThatStays
 split
 ·exact⟨new,w,rfl,.inr rfl,rfl,rfl,rfl,rfl⟩
 ·simp only[Sem.run_bind,run_choose]
  split
  ·exact⟨new,w,rfl,.inr rfl,rfl,rfl,rfl,rfl⟩
  ·simp only[Result.andThen_ok,Sem.run_pure];refine⟨_,_,rfl,?_,rfl,rfl,rfl,rfl⟩
   split
   ·exact .inr rfl
   ·exact .inl rfl
theorem WfM.modify{es:Array MapEntry}{clock:Nat}(h:WfM es clock)(j:Nat){key val:Value}:WfM (es.modify j fun e=>{e with key:=key,val:=val}) clock:=by
 have hb:(es.modify j fun e=>{e with key:=key,val:=val}).toList.map (·.born)=es.toList.map (·.born):=by
  refine aMj fun i=>?_
  rw[aLI,aLI,aKX,aKX,aLQ]
  split
  ·cases es[i]?<;>rfl
  ·rfl
 refine⟨fun x hx=>?_,by rw[hb];exact h.2⟩
 have:x.born∈(es.modify j fun e=>{e with key:=key,val:=val}).toList.map (·.born):=aMg.2 ⟨x,hx,rfl⟩
 rw[hb]at this;obtain⟨y,h1,h2⟩:=aMg.1 this;rw[<-h2];exact h.1 y h1
theorem WfM.push{es:Array MapEntry}{clock:Nat}(h:WfM es clock)(key val:Value):WfM (es.push {key:=key,val:=val,born:=clock}) (clock+1):=by
 refine⟨fun x hx=>?_,?_⟩
 ·simp only[aLW,aLV,aMh]at hx;rcases hx with hx|rfl
  ·have:=h.1 x hx;omega
  ·simp
 ·simp only[aLW,aL9,aLJ,aMi];refine List.nodup_append.2 ⟨h.2,by simp,fun a ha b hb=>?_⟩;simp only[aMh]at hb;subst hb;obtain⟨y,h1,rfl⟩:=aMg.1 ha
  have:=h.1 y h1;omega
theorem zw(V:Valid E P)(S:iZ E Lo w0 ι H w){t:Nat}{m k x:AV}{vm vk vx:Value}{st:List (Nat×cz)}(hm:R ι w (Live Lo ι H) m vm)(hk:R ι w (Live Lo ι H) k vk)
  (hx:R ι w (Live Lo ι H) x vx) (h:fP E H t m k x=some st):∃w',(Instr.mapUpdate t vm vk vx).run P w=.ok () w'/\ju E Lo w0 ι H w aZ (.bU st) undef w':=by
 unfold fP at h;split at h
 case h_2=>cases h
 rename_i kt et _ _ _ _ _ b hi;have hu:=bg V hi w;split at h
 case h_2=>cases h
 rename_i ks vs hb;split at h
 ·cases h
 rename_i hpk;have hp1:plainKey E 20 kt=true:=by simpa using hpk
 have hkt:∃ki,E.ty kt=some ki:=by
  have aqo:=hp1;unfold plainKey at aqo;cases hh:E.ty kt with
  |none=>simp[hh]at aqo
  |some ki=>exact⟨ki,rfl⟩
 obtain⟨ki,YN⟩:=hkt;simp only[R]at hm;obtain⟨cb,co,h1,rfl⟩:=hm;obtain⟨Re,co',o,g1,g2,g3,g4,_⟩:=S.obj b _ hb (by simp[cz.st]);rw[h1]at g1;cases g1
 simp only[jH]at g3;obtain⟨es,clock,rfl,g5,g6,g7⟩:=g3;have g7:WfM es clock:=by simpa using g7
 have tT:Live Lo ι H cb:=.inr ⟨b,_,co,hb,rfl,h1⟩;have hnc:∃ob,w.heap[cb]?=some ob/\∀c e f,ob≠ .cells c e f:=⟨_,g2,fun _ _ _ q=>by cases q⟩;split at h
 ·
  rename_i j y Xk hf;have qS:=nR (w:=w) V false 20 20 10000 kt k vk (by omega) hp1 hk Xk;split at h
  case h_2=>cases h
  rename_i k0 Zh;split at h
  case isFalse=>cases h
  rename_i alO;cases h;have hkk:=H8 20 k0 k alO;subst hkk;obtain⟨r',q1,q2⟩:=sP V YN hk g5 g6 hf;cases r' with
  |none=>exact q2.elim
  |some p=>
   obtain⟨i',v'⟩:=p;obtain⟨rfl,q3,q4,q5⟩:=q2;simp only[aL6,aMd]at q5;obtain⟨Mt,w1,s1,s2,s3,s4,s5,s6⟩:=B6 (P:=P) (((es[j]?).map (·.key)).getD vk) vk w;have hO:=oT (w:=w) (w1:=w1) (o:=.map (es.modify j fun e=>{e with key:=Mt,val:=vx}) clock) s3 s4 s5 s6 g2;have F2:nG (.map es clock) (.map (es.modify j fun e=>{e with key:=Mt,val:=vx}) clock):=fun _ _ _ q=>by cases q
   have Lm:=hO.ext (L:=Live Lo ι H) (L':=Live Lo ι H) g2 F2 tT (fun _ h=>h);have ap8:R ι w (Live Lo ι H) k0 Mt:=by
    rcases s2 with rfl|rfl
    ·obtain⟨kv,k1,k2⟩:=g5.get j k0 Zh;rw[aLI,aKP]at k1;obtain⟨en,k3,rfl⟩:=k1;rw[aKX]at k3;simp only[k3,aLT,aMp];exact k2
    ·exact hk
   have hlen:es.size=ks.length:=by have:=g5.length;simpa using this
   have anl:es.size=vs.length:=by have:=g6.length;simpa using this
   have U:=S.update (blk':=.map .live ks (vs.set j x)) hb rfl rfl h1 g2 F2 hO (by
    simp only[jH];refine⟨_,clock,rfl,?_,?_,fun _=>WfM.modify (g7) _⟩
    ·refine Rs.jW (by simp[hlen]) fun i z hz=>?_
     obtain⟨kv,k1,k2⟩:=g5.get i z hz;rw[aLI,aKP]at k1;obtain⟨en,k3,rfl⟩:=k1;rw[aKX]at k3;rw[aLI,aKX,aLQ];by_cases G8:j=i
     ·subst G8;rw[Zh]at hz;cases hz
      simp only[if_true,k3,aLT];exact⟨Mt,rfl,R.ext Lm _ _ _ _ (eg.le_refl _) ap8⟩
     ·rw[if_neg G8,k3];exact⟨en.key,rfl,R.ext Lm _ _ _ _ (eg.le_refl _) k2⟩
    ·refine Rs.jW (by simp[anl]) fun i z hz=>?_
     rw[aLI,aKX,aLQ];rw[aKQ]at hz;by_cases G8:j=i
     ·subst G8;rw[if_pos rfl,if_pos (by omega)]at hz;cases hz
      obtain⟨en,hen⟩:∃en,es[j]?=some en:=⟨es[j],aLU (by omega)⟩;simp only[if_true,hen,aLT];exact⟨vx,rfl,R.ext Lm _ _ _ _ (eg.le_refl _) hx⟩
     ·rw[if_neg G8]at hz;obtain⟨kv,k1,k2⟩:=g6.get i z hz;rw[aLI,aKP]at k1;obtain⟨en,k3,rfl⟩:=k1;rw[aKX]at k3;rw[if_neg G8,k3];exact⟨en.val,rfl,R.ext Lm _ _ _ _ (eg.le_refl _) k2⟩)
   refine⟨_,?_,ι,eg.le_refl _,by rw[mV hb];exact U.1,by rw[mV hb];exact U.2,by simp[aZ,undef,R,Rs]⟩;simp only[Instr.mapUpdate,Sem.run_bind,hu,Result.andThen_ok,sa g2,qS,q1,s1];exact zP ⟨_,by rw[s3];exact g2,fun _ _ _ q=>by cases q⟩
 ·
  rename_i Xk hf;have qS:=nR (w:=w) V false 20 20 10000 kt k vk (by omega) hp1 hk Xk;cases h;obtain⟨r',q1,q2⟩:=sP V YN hk g5 g6 hf;cases r' with
  |some p=>exact q2.elim
  |none=>
   have hO:=oT (w:=w) (w1:=w) (o:=.map (es.push {key:=vk,val:=vx,born:=clock}) (clock+1)) rfl rfl rfl rfl g2;have F2:nG (.map es clock) (.map (es.push {key:=vk,val:=vx,born:=clock}) (clock+1)):=fun _ _ _ q=>by cases q
   have Lm:=hO.ext (L:=Live Lo ι H) (L':=Live Lo ι H) g2 F2 tT (fun _ h=>h);have U:=S.update (blk':=.map .live (ks++[k]) (vs++[x])) hb rfl rfl h1 g2 F2 hO (by
    simp only[jH];refine⟨_,_,rfl,?_,?_,fun _=>WfM.push (g7) _ _⟩
    ·simp only[aLW,aL9,aLJ,aMi];exact(Rs.ext Lm _ _ _ _ (eg.le_refl _) g5).append (by simp only[Rs];exact⟨_,_,rfl,R.ext Lm _ _ _ _ (eg.le_refl _) hk,rfl⟩)
    ·simp only[aLW,aL9,aLJ,aMi];exact(Rs.ext Lm _ _ _ _ (eg.le_refl _) g6).append (by simp only[Rs];exact⟨_,_,rfl,R.ext Lm _ _ _ _ (eg.le_refl _) hx,rfl⟩))
   refine⟨_,?_,ι,eg.le_refl _,by rw[mV hb];exact U.1,by rw[mV hb];exact U.2,by simp[aZ,undef,R,Rs]⟩;simp only[Instr.mapUpdate,Sem.run_bind,hu,Result.andThen_ok,sa g2,qS,q1];exact zP hnc
 ·cases h
theorem Dp(V:Valid E P)(S:iZ E Lo w0 ι H w){t aL:Nat}(hf:pI ι H aL){kt et:Nat}{i:Bn}(hi:E.ty t=some i)(gd:i.cV=.map kt et)
  {r:Option Value} (hr:r=none∨∃k n,r=some (.int k n)):
  ∃cv w',(Instr.makeMap t r).run P w=.ok cv w'/\ju E Lo w0 ι H w (.jt aL) (.bU [(aL,.map .live [] [])]) cv w':=by
 have hu:=bg V hi w;rw[gd]at hu;have N:=Ih S hf (eN:=.map .live [] []) rfl (o:=.map #[] 0) (w1:=w) rfl rfl rfl rfl (fun ι w L=>by simp only[jH];exact⟨#[],0,rfl,by simp[Rs],by simp[Rs],fun _=>⟨by simp,by simp⟩⟩);refine⟨.map (some w.heap.size),w.alloc (.map #[] 0),?_,_,N.1,N.2.1,N.2.2.1,?_⟩
 ·rcases hr with rfl|⟨k,n,rfl⟩
  ·simp[Instr.makeMap]
  ·simp[Instr.makeMap,hu,asInt,asIntOf]
 ·simp only[R];exact⟨_,_,N.2.2.2,rfl⟩
theorem UF(V:Valid E P)(S:iZ E Lo w0 ι H w){t aL:Nat}(hf:pI ι H aL){i:Bn}(hi:E.ty t=some i)(gd:i.cV=.string){z:List UInt8}:
  ∃cv w',(Instr.range t (.string ⟨z.toArray⟩)).run P w=.ok cv w'/\ju E Lo w0 ι H w (.b9 aL 0) (.bU [(aL,.kT z 0)]) cv w':=by
 have hu:=bg V hi w;rw[gd]at hu;have N:=Ih S hf (eN:=.kT z 0) rfl (o:=.stringIter ⟨z.toArray⟩ 0) (w1:=w) rfl rfl rfl rfl (fun ι w L=>by simp[jH]);refine⟨.pointer (some ⟨w.heap.size,0,none⟩),w.alloc (.stringIter ⟨z.toArray⟩ 0),?_,_,N.1,N.2.1,N.2.2.1,?_⟩
 ·simp[Instr.range,hu]
 ·simp only[R];exact⟨_,_,N.2.2.2,rfl⟩
theorem Yd(S:iZ E Lo w0 ι H w){i pos:Nat}{z:List UInt8}{vp:Value}(hb:H[i]?=some (.kT z pos))(hp:R ι w (Live Lo ι H) (.b9 i 0) vp)(ty:Nat):
  (pos<z.length->∃w',(Instr.next vp true ty).run P w=.ok (.tuple #[.bool true,.int .i64 pos,.int .i32 (Utf8.decode ⟨z.toArray⟩ pos).1]) w'/\
   ju E Lo w0 ι H w (.tuple [.bool true,.int .i64 pos,.int .i32 (Utf8.decode ⟨z.toArray⟩ pos).1]) (.bU [(i,.kT z (pos+(Utf8.decode ⟨z.toArray⟩ pos).2))])
    (.tuple #[.bool true,.int .i64 pos,.int .i32 (Utf8.decode ⟨z.toArray⟩ pos).1]) w')/\
  (¬pos<z.length->(Instr.next vp true ty).run P w=.ok (.tuple #[.bool false]) w):=by
 simp only[R]at hp;obtain⟨cb,co,h1,rfl⟩:=hp;obtain⟨Re,co',o,g1,g2,g3,g4,_⟩:=S.obj i _ hb (by simp[cz.st]);rw[h1]at g1;cases g1
 simp only[jH]at g3;obtain⟨rfl,rfl⟩:=g3;have jw:(getObj cb).run P w=.ok (.stringIter ⟨z.toArray⟩ pos) w:=by simp[getObj,Sem.run,g2]
 have Eb:ByteArray.size ⟨z.toArray⟩=z.length:=by simp[ByteArray.size]
 refine⟨fun iH=>?_,fun iH=>?_⟩
 ·have hO:=oT (w:=w) (w1:=w) (o:=.stringIter ⟨z.toArray⟩ (pos+(Utf8.decode ⟨z.toArray⟩ pos).2)) rfl rfl rfl rfl g2;have F2:nG (.stringIter ⟨z.toArray⟩ pos) (.stringIter ⟨z.toArray⟩ (pos+(Utf8.decode ⟨z.toArray⟩ pos).2)):=fun _ _ _ q=>by cases q
  have U:=S.update (blk':=.kT z (pos+(Utf8.decode ⟨z.toArray⟩ pos).2)) hb rfl rfl h1 g2 F2 hO (by simp[jH]);refine⟨_,?_,ι,eg.le_refl _,by rw[mV hb];exact U.1,by rw[mV hb];exact U.2,by simp[R,Rs]⟩;have oc:=zP (P:=P) (w:=w) (r:=cb) (o:=.stringIter ⟨z.toArray⟩ (pos+(Utf8.decode ⟨z.toArray⟩ pos).2)) ⟨_,g2,fun _ _ _ q=>by cases q⟩;simp only[Instr.next,Nat.add_zero,Sem.run_bind,jw,Result.andThen_ok,Eb,iH,if_true,oc,Sem.run_pure,goInt]
 ·simp only[Instr.next,Nat.add_zero,Sem.run_bind,jw,Result.andThen_ok,Eb,iH,if_false,Sem.run_pure]
theorem E5(V:Valid E P)(S:iZ E Lo w0 ι H w){t e aL len:Nat}(hf:pI ι H aL){i ei:Bn}(hi:E.ty t=some i)(gd:i.cV=.slice e)(mL:E.ty e=some ei)
  {z cs:List AV} (hz:ei.zero=some z) {ps:List (Nat×AV)} {vps:Array (Nat×Value)} (hps:RsP ι w (Live Lo ι H) ps vps.toList) (Eb:z.length=ei.size) (NH:0<ei.size)
  (aId:len*ei.size<=16777216) (h:gV (fun i=>some (i*ei.size,ei.size)) (iE z len) ps=some cs):
  ∃cv w',(Instr.buildSlice t len vps).run P w=.ok cv w'/\ju E Lo w0 ι H w (.aI aL 0 len ei.size len) (.bU [(aL,.cells .live cs)]) cv w':=by
 have hu:=bg V hi w;rw[gd]at hu;obtain⟨zv,z1,z2,z3,_,_⟩:=AA V mL hz ι w (Live Lo ι H);have E2:Rs ι w (Live Lo ι H) (iE z len) ((aMl (len*ei.size)).map (fun i=>(if len*ei.size=0 then #[]else zv.cells)[i%(if len*ei.size=0 then(#[]:Array Value)else zv.cells).size]!)).toList:=by
  by_cases h0:len*ei.size=0
  ·have OA:len=0:=by
    rcases Nat.mul_eq_zero.1 h0 with q|q
    ·exact q
    ·omega
   subst OA;simp[iE,Rs]
  ·simp only[h0,if_false]
   have:=YF z2 (by omega) len
   rw[Eb]at this;exact this
 obtain⟨res,r1,r2⟩:=Bl hps E2 h;have hlen:∀(l:List (Nat×AV)) (cs out:List AV),gV (fun i=>some (i*ei.size,ei.size)) cs l=some out->out.length=cs.length:=by
  intro l;induction l with
  |nil=>intro cs out h;simp[gV]at h;rw[h]
  |cons p l ih=>
   intro cs out h;obtain⟨i,x⟩:=p;simp only[gV]at h;split at h
   ·cases h
   ·rename_i hc;simp only[ne_eq,aLP,decide_eq_true_eq,not_or,Decidable.not_not,aL3]at hc;rw[ih _ _ h]
    simp
    omega
 have iD:cs.length=len*ei.size:=by rw[hlen _ _ _ h,AO,Eb]
 have hrs:res.size=cs.length:=by have:=r2.length;simpa using this
 have zr:kN ι w (Live Lo ι H) res 0 cs:=r2.at (fun i v hv=>by rw[aKX]at hv;rw[aLM];exact hv);have N:=qO S hf (e:=e) (f:=(0,0)) (w1:=w) rfl rfl rfl rfl zr (fun k _ hk=>absurd hk.2 (aL8 _));refine⟨.slice (some ⟨w.heap.size,0,none⟩) len len,w.alloc (.cells res e (0,0)),?_,_,N.1,N.2.1,N.2.2.1,?_⟩
 ·have hl:¬(16777216<len*ei.size):=by omega
  have h24:(2:Nat)^24=16777216:=by decide
  by_cases h0:len*ei.size=0
  ·simp only[h0,if_true]at r1;have I9:aMl 0=#[]:=rfl;rw[I9]at r1;simp only[Array.map_empty]at r1;simp only[Instr.buildSlice,Sem.run_bind,hu,Result.andThen_ok,cX V mL w,h24,gt_iff_lt,h0,if_true,newRow];rw[if_neg (by omega)];simp[I9,r1]
  ·simp only[h0,if_false]at r1;simp only[Instr.buildSlice,Sem.run_bind,hu,Result.andThen_ok,cX V mL w,h24,gt_iff_lt,hl,if_false,h0,Sem.run_pure,z1,r1,newRow,run_newObj];rfl
 ·simp only[R];exact⟨w.heap.size,0,len,res,e,(0,0),N.2.2.2.2,rfl,aKR _,aKR _,N.2.2.2.1,by rw[hrs,iD];omega⟩
end
section
variable{E:Env}{P:Program}{ι:eg}{w:World}{L:Nat->Prop}{ts:List AV}{a:Act}{Lo:Nat->Prop}{w0:World}{H:Hp}
theorem Ul(V:Valid E P){s d:Nat}{x av:AV}{vx:Value}(hx:R ι w L x vx)(h:IV E s d x=some av):∃cv,(convert s d vx).run P w=.ok cv w/\R ι w L av cv:=by
 unfold IV at h;split at h
 ·rename_i si k _ _ _ _ _ k' n h1 h2;have u1:=bg V h1 w;have u2:=bg V h2 w;cases h;simp only[R]at hx;subst hx
  refine⟨.int k (k.wrap n),?_,by simp[R,aX]⟩;unfold convert;simp only[Sem.run_bind,u1,u2,Result.andThen_ok];cases si.cV<;>simp[Conv.intToInt]
 ·rename_i si _ _ _ _ _ z h1 h2;have u1:=bg V h1 w;have u2:=bg V h2 w;cases h;simp only[R]at hx;subst hx
  refine⟨.string ⟨z.toArray⟩,?_,by simp[R]⟩;unfold convert;simp only[Sem.run_bind,u1,u2,Result.andThen_ok];cases si.cV<;>simp
 ·cases h
theorem MK(V:Valid E P)(S:iZ E Lo w0 ι H w){s d e aL:Nat}{si di ei:Bn}(h1:E.ty s=some si)(h2:E.ty d=some di)(h3:E.ty e=some ei)(u1:si.cV=.string)
  (u2:di.cV=.slice e) (u3:ei.cV=.int .u8) (hf:pI ι H aL) {z:List UInt8}:
  ∃cv w',(convert s d (.string ⟨z.toArray⟩)).run P w=.ok cv w'/\
   ju E Lo w0 ι H w (.aI aL 0 z.length 1 z.length) (.bU [(aL,.cells .live (z.map fun c=>.int .u8 c.toNat))]) cv w':=by
 have run:=run_bytes_of_string (P:=P) w s d e ⟨z.toArray⟩ (u1▸(V.ty s si h1).cV) (u2▸(V.ty d di h2).cV) (u3▸(V.ty e ei h3).cV);have Eb:ByteArray.size ⟨z.toArray⟩=z.length:=by simp[ByteArray.size]
 have Hx:=grownCap_ge w z.length 0 e;rw[Eb]at run;have km:(bytesRow ⟨z.toArray⟩ (grownCap w z.length 0 e)).size=grownCap w z.length 0 e:=by simp[bytesRow,Eb];omega
 have zr:kN ι w (Live Lo ι H) (bytesRow ⟨z.toArray⟩ (grownCap w z.length 0 e)) 0 (z.map fun c=>AV.int .u8 c.toNat):=kN.jW fun i x hx=>by
  simp only[aLI,aKP]at hx;obtain⟨c,hc,rfl⟩:=hx;have iH:i<z.length:=(aKS.1 hc).1;refine⟨.int .u8 c.toNat,?_,by simp[R]⟩;rw[aLM];unfold bytesRow;rw[aLY (by simpa using iH)];simp[hc]
 have N:=qO S hf (e:=e) (f:=((bytesRow ⟨z.toArray⟩ (grownCap w z.length 0 e)).size,(bytesRow ⟨z.toArray⟩ (grownCap w z.length 0 e)).size+1)) (w1:=w.drew) rfl rfl rfl rfl zr (fun k hk q=>by omega);refine⟨_,_,run,_,N.1,N.2.1,N.2.2.1,?_⟩;simp only[R];exact⟨w.heap.size,0,grownCap w z.length 0 e,_,e,_,N.2.2.2.2,rfl,aKR _,Hx,N.2.2.2.1,by rw[km];omega⟩
theorem Dn:∀{cs:List AV} {b:List UInt8},Ct cs=some b->∃ns:List Int,cs=ns.map (AV.int .u8)/\b=ns.map (fun n=>UInt8.ofNat n.toNat)
 |[],b,h=>by simp[Ct]at h;subst h;exact⟨[],rfl,rfl⟩
 |c::cs,b,h=>by
  unfold Ct at h;split at h
  ·rename_i hc;cases hc
  ·rename_i n vK hc;cases hc;rw[aKP]at h;obtain⟨b',h1,rfl⟩:=h;obtain⟨ns,rfl,rfl⟩:=Dn h1;exact⟨n::ns,rfl,rfl⟩
  ·cases h
theorem foldl_push(ns:List Int):∀(r:ByteArray),ns.foldl (fun r n=>r.push (UInt8.ofNat n.toNat)) r=⟨r.data++(ns.map (fun n=>UInt8.ofNat n.toNat)).toArray⟩:=by
 induction ns with
 |nil=>intro r;simp
 |cons n ns ih=>
  intro r;rw[aMa,ih];congr 1;apply aL4;simp[ByteArray.push]
theorem Vt(V:Valid E P)(S:iZ E Lo w0 ι H w){s d e:Nat}{si di ei:Bn}(h1:E.ty s=some si)(h2:E.ty d=some di)(h3:E.ty e=some ei)(u1:si.cV=.slice e)
  (u2:di.cV=.string) (u3:ei.cV=.int .u8) {x:AV} {vx:Value} (hx:R ι w (Live Lo ι H) x vx) {cs:List AV} (hc:kJ H 1 x=some cs) {b:List UInt8} (hb:Ct cs=some b):
  ∃cv,(convert s d vx).run P w=.ok cv w/\R ι w (Live Lo ι H) (.str b) cv:=by
 obtain⟨ns,hns,rfl⟩:=Dn hb;have hl:∃n,qe x=some n:=by
  unfold kJ at hc;split at hc
  ·exact⟨_,rfl⟩
  ·exact⟨_,rfl⟩
  ·exact⟨_,rfl⟩
  ·exact⟨_,rfl⟩
  ·cases hc
 obtain⟨n,hl⟩:=hl;have uO:sV H 1 x=some cs:=by
  unfold sV;cases x<;>first|exact hc|(exfalso;revert hc;simp[kJ];done)
 obtain⟨news,x1,x2,x3,x4⟩:=xZ (P:=P) S hx hl uO;subst hns;have hn:news.toList=ns.map (Value.int .u8):=by
  clear x4 x1 x2 hc hb uO hl
  revert x3
  generalize news.toList=l;induction ns generalizing l with
  |nil=>intro h;simpa[Rs]using h
  |cons n ns ih=>
   intro h;simp only[aLJ,Rs]at h;obtain⟨y,ys,rfl,h2,h3⟩:=h;simp only[R]at h2;rw[h2,ih _ h3,aLJ]
 have Mf:news.size=n:=by
  have:=x3.length
  simp only[aMd]at this;rw[this,x2,Nat.mul_one]
 have hx4:=x4 n (aKR _);rw[Nat.mul_one,<-Mf,aLX]at hx4;have hna:news=(ns.map (Value.int .u8)).toArray:=by rw[<-hn]
 rw[hna]at hx4;have fin:∀a l c,vx=.slice (some a) l c->l=n->∃cv,(convert s d vx).run P w=.ok cv w/\R ι w (Live Lo ι H) (.str (ns.map (fun n=>UInt8.ofNat n.toNat))) cv:=by
  intro a l c hv n8;subst hv n8;have kO:(loadCells a l).run P w=.ok (ns.map (Value.int .u8)).toArray w:=by rw[<-hx4,<-hna,Mf];simp[Builtin.firstCells]
  refine⟨_,(run_convert_bytes_string w s d e _ _ _ (u1▸(V.ty s si h1).cV) (u3▸(V.ty e ei h3).cV) (u2▸(V.ty d di h2).cV)).trans (run_bytesToString w a l c ns kO),?_⟩;simp only[R];congr 1;rw[foldl_push]
  simp
 unfold kJ at hc;split at hc
 ·simp only[R]at hx;subst hx
  have:ns=[]:=by simpa using hc
  subst this;have qM:(Conv.bytesToString (.slice none 0 0)).run P w=.ok (.string ByteArray.empty) w:=rfl;exact⟨.string ByteArray.empty,(run_convert_bytes_string w s d e none 0 0 (u1▸(V.ty s si h1).cV) (u3▸(V.ty e ei h3).cV) (u2▸(V.ty d di h2).cV)).trans qM,by simp only[R];rfl⟩
 ·simp only[R]at hx;obtain⟨ad,cap,rfl⟩:=hx
  exact fin _ _ _ rfl (by simpa[qe]using hl)
 ·simp only[R]at hx;obtain⟨cb,o,cap,c,e,f,rfl,_⟩:=hx;exact fin _ _ _ rfl (by simpa[qe]using hl)
 ·simp only[R]at hx;obtain⟨cb,co,cap,c,e',f,g1,rfl,_⟩:=hx;exact fin _ _ _ rfl (by simpa[qe]using hl)
 ·cases hc
theorem Q7(V:Valid E P)(S:iZ E Lo w0 ι H w){t ty:Nat}{eO:Array Nat}{args:Array Value}(ha:eO[0]?=some t){x:AV}{vx:Value}(hg:args[0]?=some vx)
  (hx:R ι w (Live Lo ι H) x vx) {av:AV} (h:rS E H t x=some av):
  ∃cv,(Builtin.len_ eO ty args).run P w=.ok cv w/\R ι w (Live Lo ι H) av cv:=by
 unfold rS at h;unfold Builtin.len_;simp only[ha,hg];split at h
 ·rename_i s hi;have hu:=bg V hi w;cases h;simp only[R]at hx;subst hx
  exact⟨.int .i64 s.length,by simp only[Sem.run_bind,hu,Result.andThen_ok,Sem.run_pure];simp[goInt,ByteArray.size],by simp[R]⟩
 ·rename_i n el _ _ _ _ _ hi;have hu:=bg V hi w;cases h;refine⟨.int .i64 n,?_,by simp[R]⟩;simp only[Sem.run_bind,hu,Result.andThen_ok];cases vx<;>rfl
 ·rename_i hi;have hu:=bg V hi w;cases h;simp only[R]at hx;subst hx
  exact⟨.int .i64 0,by simp only[Sem.run_bind,hu,Result.andThen_ok,Sem.run_pure];rfl,by simp[R]⟩
 ·rename_i hi;have hu:=bg V hi w;cases h;simp only[R]at hx;obtain⟨ad,cap,rfl⟩:=hx
  exact⟨.int .i64 0,by simp only[Sem.run_bind,hu,Result.andThen_ok,Sem.run_pure];rfl,by simp[R]⟩
 ·rename_i hi;have hu:=bg V hi w;cases h;simp only[R]at hx
  obtain⟨cb,o,cap,c,e,f,rfl,_⟩:=hx;exact⟨.int .i64 _,by simp only[Sem.run_bind,hu,Result.andThen_ok,Sem.run_pure];rfl,by simp[R]⟩
 ·rename_i hi;have hu:=bg V hi w;cases h;simp only[R]at hx
  obtain⟨cb,co,cap,c,e,f,h1,rfl,_⟩:=hx;exact⟨.int .i64 _,by simp only[Sem.run_bind,hu,Result.andThen_ok,Sem.run_pure];rfl,by simp[R]⟩
 ·rename_i hi;have hu:=bg V hi w;rw[aKP]at h;obtain⟨⟨ks,vs⟩,h1,rfl⟩:=h;rcases Zz S hx h1 with⟨rfl,rfl,_⟩|⟨cb,es,clock,rfl,h2,h3,h4⟩
  ·exact⟨.int .i64 0,by simp only[Sem.run_bind,hu,Result.andThen_ok,Sem.run_pure];rfl,by simp[R]⟩
  ·refine⟨.int .i64 es.size,by simp only[Sem.run_bind,hu,Result.andThen_ok,sa h2,Sem.run_pure];rfl,?_⟩
   have:=h3.length
   simp at this;simp[R,this]
 ·cases h
theorem TN{x y z:AV}{vx vy:Value}(hx:R ι w L x vx)(hy:R ι w L y vy)(h:Fq x y=some z):
  ∃vz,(Builtin.max2 vx vy).run P w=.ok vz w/\R ι w L z vz:=by
 unfold Fq at h;split at h
 ·split at h
  ·rename_i hk;subst hk
   cases h;simp only[R]at hx hy;subst hx hy
   exact⟨_,rfl,by simp only[R]⟩
  ·cases h
 ·cases h
theorem TA{x y z:AV}{vx vy:Value}(hx:R ι w L x vx)(hy:R ι w L y vy)(h:SO x y=some z):
  ∃vz,(Builtin.min2 vx vy).run P w=.ok vz w/\R ι w L z vz:=by
 unfold SO at h;split at h
 ·split at h
  ·rename_i hk;subst hk
   cases h;simp only[R]at hx hy;subst hx hy
   exact⟨_,rfl,by simp only[R]⟩
  ·cases h
 ·cases h
theorem C7{f:AV->AV->Option AV}{g:Value->Value->Sem Value}
  (hf:∀{x y z:AV} {vx vy:Value},R ι w L x vx->R ι w L y vy->f x y=some z->∃vz,(g vx vy).run P w=.ok vz w/\R ι w L z vz):
  ∀{xs:List AV} {vs:List Value} {x z:AV} {vx:Value},R ι w L x vx->Rs ι w L xs vs->wX f x xs=some z->∃vz,(vs.foldlM g vx).run P w=.ok vz w/\R ι w L z vz
 |[],vs,x,z,vx,hx,XW,h=>by
  simp only[Rs]at XW;subst XW
  simp only[wX,aKV.injEq]at h;subst h
  exact⟨_,rfl,hx⟩
 |y::ys,vs,x,z,vx,hx,XW,h=>by
  simp only[Rs]at XW;obtain⟨v,Hh,rfl,h1,h2⟩:=XW;unfold wX at h;split at h
  ·rename_i u hu;obtain⟨vu,g1,g2⟩:=hf hx h1 hu;obtain⟨vz,g3,g4⟩:=C7 hf g2 h2 h;exact⟨vz,by simp only[List.foldlM_cons,Sem.run_bind,g1,Result.andThen_ok,g3],g4⟩
  ·cases h
theorem PA(V:Valid E P){t e ty:Nat}{eO:Array Nat}{args:Array Value}(ha:eO[0]?=some t){vx:Value}(hg:args[0]?=some vx)(hx:R ι w L .aH vx){i:Bn}
  (hi:E.ty t=some i) (gd:i.cV=.slice e):
  ∃cv,(Builtin.cap_ eO ty args).run P w=.ok cv w/\R ι w L (.int .i64 0) cv:=by
 have hu:=bg V hi w;rw[gd]at hu;simp only[R]at hx;subst hx
 unfold Builtin.cap_;simp only[ha,hg];exact⟨.int .i64 0,by simp only[Sem.run_bind,hu,Result.andThen_ok,Sem.run_pure];rfl,by simp[R]⟩
theorem TD(V:Valid E P){t:Nat}{pl:Nat->Option (Nat×Nat)}{z cs:List AV}{ps:List (Nat×AV)}{vps:Array (Nat×Value)}(h1:gX E t=some pl)
  (hz:(E.ty t).bind (·.zero)=some z) (hps:RsP ι w L ps vps.toList) (h:gV pl z ps=some cs):
  ∃cv,(Instr.build t vps).run P w=.ok cv w/\R ι w L (.agg cs) cv:=by
 rw[Option.bind_eq_some_iff]at hz;obtain⟨i,hi,hz⟩:=hz;obtain⟨zv,z1,z2,z3,_,_⟩:=AA V hi hz ι w L;have hu:=bg V hi w;unfold gX at h1;rw[hi]at h1;split at h1
 ·rename_i fields sz ag by_ ze _ hh;cases hh;split at h1
  case isFalse=>cases h1
  rename_i wj;simp only[aKV.injEq]at h1;have hm:∀(l:List Field),(l.all fun f=>(E.ty f.type).isSome)=true->
    (l.mapM (m:=Sem) fun f=>do pure (f.offset,<-sizeOf f.type)).run P w=.ok (l.map fun f=>(f.offset,((E.ty f.type).map (·.size)).getD 0)) w:=by
   intro l;induction l with
   |nil=>intro _;simp
   |cons f l ih=>
    intro hl;simp only[List.all_cons,aLR]at hl;obtain⟨fi,mI⟩:=aL7.1 hl.1;simp only[List.mapM_cons,Sem.run_bind,cX V mI w,Result.andThen_ok,Sem.run_pure,ih hl.2,aLJ,mI,aLT,aMp]
  have hma:(fields.mapM (m:=Sem) fun f=>do pure (f.offset,<-sizeOf f.type)).run P w=.ok (fields.map fun f=>(f.offset,((E.ty f.type).map (·.size)).getD 0)) w:=by
   rw[Array.mapM_eq_mapM_toList,map_eq_pure_bind];simp only[Sem.run_bind,hm fields.toList wj,Result.andThen_ok,Sem.run_pure];congr 1;apply aL4
   simp
  have tE:pl=(fun j=>(fields.map fun f=>(f.offset,((E.ty f.type).map (·.size)).getD 0))[j]?):=by
   subst h1;funext j;rw[aMe];cases hf:fields[j]? with
   |none=>rfl
   |some f=>
    have Pt:f∈fields.toList:=by
     have:=Array.mem_of_getElem? hf
     exact Array.mem_toList_iff.2 this
    have:=(aLN.1 wj) f Pt
    obtain⟨fi,mI⟩:=aL7.1 this;simp[mI]
  obtain⟨res,r1,r2⟩:=Bl hps z2 h;rw[tE]at r1;refine⟨.agg res,?_,by simp only[R];exact⟨_,rfl,r2⟩⟩;unfold Instr.build;simp only[Sem.run_bind,z1,Result.andThen_ok,hu,hma,r1,Sem.run_pure]
 ·rename_i n elem sz ag by_ ze _ hh;cases hh;rw[aKP]at h1;obtain⟨ei,mL,rfl⟩:=h1;obtain⟨res,r1,r2⟩:=Bl hps z2 h;refine⟨.agg res,?_,by simp only[R];exact⟨_,rfl,r2⟩⟩;unfold Instr.build;simp only[Sem.run_bind,z1,Result.andThen_ok,hu,cX V mL w,r1,Sem.run_pure]
 ·cases h1
end
section
variable{E:Env}{P:Program}{ι:eg}{w:World}{L:Nat->Prop}{ts:List AV}{a:Act}{Lo:Nat->Prop}{w0:World}{H:Hp}
theorem Gs(V:Valid E P)(S:iZ E Lo w0 ι H w){aL t u ty:Nat}(hf:pI ι H aL){eO:Array Nat}{args:Array Value}{vs vx:Value}{ui:Bn}{k:IntKind}
  (uh:eO[0]?=some t) (Oy:eO[1]?=some u) (La:args[0]?=some vs) (EB:args[1]?=some vx) (hu:E.ty u=some ui)
  (hq:ui.cV=.int k) {s x v:AV} {st:List (Nat×cz)}
  (hs:R ι w (Live Lo ι H) s vs) (hx:R ι w (Live Lo ι H) x vx) (h:nI E aL t s x=some (v,st)):
  ∃cv w',(Builtin.append_ eO ty args).run P w=.ok cv w'/\ju E Lo w0 ι H w v (.bU st) cv w':=by
 unfold nI at h;split at h
 case h_2=>cases h
 rename_i e _ _ _ _ _ k' n hi;have gd:(underlying t).run P w=.ok (.slice e) w:=bg V hi w;have Ot:(underlying u).run P w=.ok ui.cV w:=bg V hu w;split at h
 case h_2=>cases h
 rename_i ei mL;split at h
 case h_2=>cases h
 rename_i zc hzc;split at h
 case isFalse=>cases h
 rename_i hc;obtain⟨h0,h63,hb,hzl,Eb,hbz⟩:=hc;cases h;simp only[R]at hs hx;subst hs hx;obtain⟨z,hzs,hz⟩:=Nz V mL hzc;obtain⟨zv,z1,z2,z3,_,_⟩:=AA V mL hzc ι w (Live Lo ι H);have HK:zv.cells=z:=by obtain⟨zv',g1,g2⟩:=hz w;rw[z1]at g1;cases g1;exact g2
 have QH:0<n.toNat:=by omega
 have hold:(Builtin.firstCells ei.size 0 (.slice none 0 0)).run P w.drew=.ok #[] w.drew:=by simp[Builtin.firstCells]
 have n7:=GR (ty:=ty) V uh Oy La EB gd mL Ot hq (by omega) h63 hb (by have:=Nat.mul_pos QH Eb;omega) (by omega) (by rw[aLM];exact hb) (by omega) (by omega) hz hold;rw[aLM]at n7;have hr:Rs ι w (Live Lo ι H) (iE zc n.toNat) (Builtin.zeroCells z n.toNat).toList:=by
  rw[<-HK]
  have:=YF z2 (by omega) n.toNat
  unfold Builtin.zeroCells;have e1:zv.cells.size=zc.length:=by have:=z2.length;simpa using this
  rw[e1];rw[e1]at this;exact this
 have G:=CF S hf (e:=e) (rest:=Builtin.zeroCells z (grownCap w n.toNat 0 e-n.toNat)) hr (by rw[AO,hzl]) (grownCap_ge w n.toNat 0 e) (by rw[rV,hzs]);exact⟨_,_,by rw[n7];simp,G⟩
theorem ju.ZA(S:iZ E Lo w0 ι H w){v:AV}{r:Sem Value}(h:∃cv,r.run P w=.ok cv w/\R ι w (Live Lo ι H) v cv):
  ∃cv w',r.run P w=.ok cv w'/\ju E Lo w0 ι H w v (.bU []) cv w':=by
 obtain⟨cv,h1,h2⟩:=h;exact⟨cv,w,h1,ju.pure S h2⟩
theorem JG(V:Valid E P)(S:iZ E Lo w0 ι H w){aL ty:Nat}(hf:pI ι H aL){b:Builtin}{eO:Array Nat}{args:Array Value}{as:List AV}(ha:Rs ι w (Live Lo ι H) as args.toList)
  {cs:Array Bool} {v:AV} {st:List (Nat×cz)} (h:aV E H aL b eO.toList as=some (v,st)):
  ∃cv w',(builtin b eO ty cs args).run P w=.ok (.value cv) w'/\ju E Lo w0 ι H w v (.bU st) cv w':=by
 have lift:∀{r:Sem Value},(∃cv w',r.run P w=.ok cv w'/\ju E Lo w0 ι H w v (.bU st) cv w')->
   ∃cv w',((do pure (.value (<-r)):Sem Next)).run P w=.ok (.value cv) w'/\ju E Lo w0 ι H w v (.bU st) cv w':=by
  intro r ⟨cv,w',h1,h2⟩;exact⟨cv,w',by simp only[Sem.run_bind,h1,Result.andThen_ok,Sem.run_pure],h2⟩
 have jw:∀{l:List Nat} {i t:Nat},l[i]?=some t->eO.toList=l->eO[i]?=some t:=by intro l i t h1 h2;rw[<-aKX,h2,h1]
 have vo:∀{l:List Value} {i:Nat} {x:Value},l[i]?=some x->args.toList=l->args[i]?=some x:=by intro l i x h1 h2;rw[<-aKX,h2,h1]
 unfold aV at h;split at h
 ·rename_i t u tr s x xr vE;simp only[Rs]at ha;obtain⟨vs,ys,e1,hs,vx,zs,rfl,hx,_⟩:=ha;have a0:=jw (i:=0) rfl vE;have a1:=jw (i:=1) rfl vE;have g0:=vo (i:=0) rfl e1;have g1:=vo (i:=1) rfl e1;split at h
  ·rename_i k hu;exact lift (Gs V S hf a0 a1 g0 g1 hu rfl hs hx h)
  ·rename_i ui hq hu;refine lift (Qf V S hf a0 a1 g0 g1 hu ?_ hs hx h);intro k hk;obtain⟨cV,b1,b2,b3,b4,b5⟩:=ui;exact hq _ _ _ _ _ _ (by rw[<-hk])
  ·cases h
 ·rename_i t tr d x xr vE;simp only[Rs]at ha;obtain⟨vs,ys,e1,hs,vx,zs,rfl,hx,_⟩:=ha;exact lift (YL V S (jw (i:=0) rfl vE) (vo (i:=0) rfl e1) (vo (i:=1) rfl e1) hs hx h)
 ·rename_i t tr xr vE;simp only[Rs]at ha;obtain⟨vs,ys,e1,hs,_⟩:=ha;split at h
  ·rename_i e _ _ _ _ _ hi;cases h;exact lift (ju.ZA S (PA V (jw (i:=0) rfl vE) (vo (i:=0) rfl e1) hs hi rfl))
  ·cases h
 ·rename_i t tr x xr vE;simp only[Rs]at ha;obtain⟨vs,ys,e1,hs,_⟩:=ha;rw[aKP]at h;obtain⟨u,h1,h2⟩:=h;cases h2;exact lift (ju.ZA S (Q7 V S (jw (i:=0) rfl vE) (vo (i:=0) rfl e1) hs h1))
 ·rename_i x xs;simp only[Rs]at ha;obtain⟨vs,ys,e1,hs,hr⟩:=ha;rw[aKP]at h;obtain⟨u,h1,h2⟩:=h;cases h2;refine lift (ju.ZA S ?_);unfold Builtin.max_;rw[e1];exact C7 (fun a b c=>TN a b c) hs hr h1
 ·rename_i x xs;simp only[Rs]at ha;obtain⟨vs,ys,e1,hs,hr⟩:=ha;rw[aKP]at h;obtain⟨u,h1,h2⟩:=h;cases h2;refine lift (ju.ZA S ?_);unfold Builtin.min_;rw[e1];exact C7 (fun a b c=>TA a b c) hs hr h1
 ·cases h
end
def uU(o:Oper):Bool:=
 match o.op with
 |.call c=>(match c.callee with
  |.value _=>true
  |_=>false)
 |_=>false
section
variable{E:Env}{P:Program}{ι:eg}{w:World}{L:Nat->Prop}{ts:List AV}{a:Act}{Lo:Nat->Prop}{w0:World}{H:Hp}
theorem RZ:R ι w L aZ undef:=by simp only[aZ,undef,R];exact⟨#[],rfl,by simp[Rs]⟩
def ahr(nx:Next)(cv:Value):Prop:=nx=.value cv∨nx=.skip/\cv=undef
def fk(E:Env)(P:Program)(Lo:Nat->Prop)(w0:World)(ι:eg)(H:Hp)(w:World)(r:Sem Next)(v:AV)(e:cE):Prop:=
 ∃nx cv w',r.run P w=.ok nx w'/\ahr nx cv/\ju E Lo w0 ι H w v e cv w'
theorem fk.val{r:Sem Value}{v:AV}{e:cE}(h:∃cv w',r.run P w=.ok cv w'/\ju E Lo w0 ι H w v e cv w'):
  fk E P Lo w0 ι H w (do pure (.value (<-r))) v e:=by
 obtain⟨cv,w',h1,h2⟩:=h;exact⟨.value cv,cv,w',by simp only[Sem.run_bind,h1,Result.andThen_ok,Sem.run_pure],.inl rfl,h2⟩
theorem fk.unit{r:Sem Unit}{e:cE}(h:∃w',r.run P w=.ok () w'/\ju E Lo w0 ι H w aZ e undef w'):
  fk E P Lo w0 ι H w (do r;pure .skip) aZ e:=by
 obtain⟨w',h1,h2⟩:=h;exact⟨.skip,undef,w',by simp only[Sem.run_bind,h1,Result.andThen_ok,Sem.run_pure],.inr ⟨rfl,rfl⟩,h2⟩
theorem fk.now(S:iZ E Lo w0 ι H w){v:AV}{cv:Value}(h:R ι w (Live Lo ι H) v cv):fk E P Lo w0 ι H w (pure (.value cv)) v (.bU []):=
 ⟨_,cv,w,rfl,.inl rfl,ju.pure S h⟩
theorem fk.uK(S:iZ E Lo w0 ι H w){r:Sem Value}{v:AV}(h:∃cv,r.run P w=.ok cv w/\R ι w (Live Lo ι H) v cv):
  fk E P Lo w0 ι H w (do pure (.value (<-r))) v (.bU []):=fk.val (ju.ZA S h)
theorem acv(V:Valid E P)(S:iZ E Lo w0 ι H w){pc:Pc}{ic yc:Ic}{dr:Bool}{aL:Nat}(hf:pI ι H aL)(ht:Rs ι w (Live Lo ι H) ts a.tmps.toList){o:Oper}{v:AV}{e:cE}
  (hv:uU o=false) (h:eL E pc ic yc dr ts H aL o=some (v,e)):fk E P Lo w0 ι H w (execOp a.eval o) v e:=by
 unfold eL at h;unfold execOp;cases ho:o.op<;>simp only[ho]at h⊢
 case move x=>
  rw[aKP]at h;obtain⟨u,h1,h2⟩:=h;cases h2;exact fk.now S (fK ht h1)
 case assign x=>
  rw[aKP]at h;obtain⟨u,h1,h2⟩:=h;cases h2;exact fk.now S (fK ht h1)
 case pick c x y=>
  split at h
  ·rename_i t hc;rw[aKP]at h;obtain⟨u,h1,h2⟩:=h;cases h2;have Hk:=fK ht hc;simp only[R]at Hk;have hxy:=fK ht h1;refine⟨.value (if t then a.eval x else a.eval y),_,w,?_,.inl rfl,ju.pure S ?_⟩
   ·rw[Hk];simp[asBool]
   ·cases t<;>simpa using hxy
  ·cases h
 case alloc t=>
  rw[aKP]at h;obtain⟨⟨u,l⟩,h1,h2⟩:=h;rw[aKP]at h1;obtain⟨z,h1,h3⟩:=h1;cases h2;cases h3;exact fk.val (T3 V S hf h1)
 case box t x=>
  rw[aKP]at h;obtain⟨⟨u,l⟩,h1,h2⟩:=h;rw[aKP]at h1;obtain⟨z,h1,h3⟩:=h1;cases h2;cases h3;exact fk.val (ad9 S hf (fK ht h1))
 case build t ps=>
  split at h
  case h_2=>cases h
  rename_i pl z vs h1 h2 h3;rw[aKP]at h;obtain⟨u,h4,h5⟩:=h;rw[aKP]at h4;obtain⟨cs,h4,rfl⟩:=h4;cases h5;refine fk.uK S (TD V h1 h2 ?_ h4)
  have:=Xp ht h3
  simpa using this
 case buildSlice t len ps=>
  split at h
  case h_2=>cases h
  rename_i e' _ _ _ _ _ hi;split at h
  case h_2=>cases h
  rename_i ei mL;split at h
  case h_2=>cases h
  rename_i z vs hz hvs;split at h
  case isFalse=>cases h
  rename_i hc;rw[aKP]at h;obtain⟨⟨u,l⟩,h1,h2⟩:=h;rw[aKP]at h1;obtain⟨cs,h1,h3⟩:=h1;cases h2;cases h3;refine fk.val (E5 V S hf hi rfl mL hz ?_ hc.1 hc.2.1 hc.2.2 h1)
  have:=Xp ht hvs
  simpa using this
 case load t x=>
  split at h
  case h_2=>cases h
  rename_i p hp;rw[aKP]at h;obtain⟨u,h1,h2⟩:=h;cases h2;exact fk.uK S (Ux V S (fK ht hp) h1)
 case store t x y=>
  split at h
  case h_2=>cases h
  rename_i p z hp hz;rw[aKP]at h;obtain⟨u,h1,h2⟩:=h;cases h2;exact fk.unit (Qi V S (fK ht hp) (fK ht hz) h1)
 case nilCheck x=>
  split at h
  all_goals first|(cases h;done)|skip
  all_goals
   rename_i hx;cases h;have hr:=fK ht hx;have nw:=hr;simp only[R]at hr
  ·obtain⟨cb,co,_,h2⟩:=hr;rw[h2]at nw⊢;exact fk.now S nw
  ·obtain⟨cb,o,c,e,f,h2,_⟩:=hr;rw[h2]at nw⊢;exact fk.now S nw
  ·rw[hr]at nw⊢;exact fk.now S nw
  ·obtain⟨b1,c1,h2,_⟩:=hr;rw[h2]at nw⊢;exact fk.now S nw
  ·obtain⟨cb,co,_,h2⟩:=hr;rw[h2]at nw⊢;exact fk.now S nw
 case binOp op t x y k=>
  split at h
  case h_2=>cases h
  rename_i p z hp hz;rw[aKP]at h;obtain⟨u,h1,h2⟩:=h;cases h2;exact fk.uK S (Xe V (fK ht hp) (fK ht hz) h1)
 case unOp op t x=>
  split at h
  case h_2=>cases h
  rename_i p hp;rw[aKP]at h;obtain⟨u,h1,h2⟩:=h;cases h2;exact fk.uK S (acY (fK ht hp) h1)
 case convert s d x=>
  split at h
  ·rename_i z _ _ _ _ _ e' _ _ _ _ _ hx hs hd;split at h
   case h_2=>cases h
   rename_i _ _ _ _ mL;cases h;have hr:=fK ht hx;simp only[R]at hr;rw[hr];exact fk.val (MK V S hs hd mL rfl rfl rfl hf)
  ·rename_i hx hs hd;split at h
   case h_2=>cases h
   rename_i cs mL sd;rw[aKP]at h;obtain⟨u,h1,h2⟩:=h;rw[aKP]at h1;obtain⟨b',h1,rfl⟩:=h1;cases h2;exact fk.uK S (Vt V S hs hd mL rfl rfl rfl (fK ht hx) sd h1)
  ·rename_i x' hx _ _;rw[aKP]at h;obtain⟨u,h1,h2⟩:=h;cases h2;exact fk.uK S (Ul V (fK ht hx) h1)
  ·cases h
 case makeInterface t x=>
  split at h
  case h_2=>cases h
  rename_i i hi;split at h
  ·cases h
  ·rename_i hni;rw[aKP]at h;obtain⟨u,h1,h2⟩:=h;rw[aKP]at h1;obtain⟨z,h1,rfl⟩:=h1;cases h2;refine fk.uK S ⟨.iface t (a.eval x),?_,?_⟩
   ·unfold Instr.makeInterface;simp only[Sem.run_bind,bg V hi w,Result.andThen_ok];rfl
   ·simp only[R];exact⟨_,rfl,fK ht h1⟩
 case makeFunc f first cap=>
  cases f<;>try (cases h;done)
  rename_i f;simp only at h;split at h
  case h_2=>cases h
  rename_i a1 c1 h1 h2;cases h;refine fk.uK S ⟨.func (.func f) (first.map a.eval) (cap.map a.eval),rfl,?_⟩;simp only[R];refine⟨_,_,rfl,?_,?_⟩
  ·have:=LI ht h1
   simpa using this
  ·have:=LI ht h2
   simpa using this
 case makeMap t r=>
  split at h
  ·rename_i kt et _ _ _ _ _ hi hr;cases h
   have:=xY ht hr
   simp only[yu]at this;exact fk.val (Dp V S hf hi rfl (.inl this))
  ·rename_i kt et _ _ _ _ _ k n hi hr;cases h
   have:=xY ht hr
   simp only[yu]at this;obtain⟨y,h1,h2⟩:=this;simp only[R]at h2;exact fk.val (Dp V S hf hi rfl (.inr ⟨k,n,by rw[h1,h2]⟩))
  ·cases h
 case makeSlice t l c=>
  split at h
  case h_2=>cases h
  rename_i x y hx hy;rw[aKP]at h;obtain⟨⟨u,l⟩,h1,h2⟩:=h;cases h2;exact fk.val (HT V S hf (fK ht hx) (fK ht hy) h1)
 case slice t x lo hi mx=>
  split at h
  case h_2=>cases h
  rename_i xa la ha hx hl hh;split at h
  ·rw[aKP]at h;obtain⟨u,h1,h2⟩:=h;cases h2;exact fk.uK S (HL V S (fK ht hx) (xY ht hl) (xY ht hh) h1)
  ·rw[aKP]at h;obtain⟨u,h1,h2⟩:=h;cases h2;exact fk.uK S (QC V (fK ht hx) (xY ht hl) (xY ht hh) h1)
 case fieldAddr t x f=>
  split at h
  case h_2=>cases h
  rename_i p hp;rw[aKP]at h;obtain⟨u,h1,h2⟩:=h;cases h2;exact fk.uK S (F9 V (fK ht hp) h1)
 case field t x f=>
  split at h
  case h_2=>cases h
  rename_i p hp;rw[aKP]at h;obtain⟨u,h1,h2⟩:=h;cases h2;exact fk.uK S (Rz V (fK ht hp) h1)
 case indexAddr t x y=>
  split at h
  case h_2=>cases h
  rename_i p z hp hz;rw[aKP]at h;obtain⟨u,h1,h2⟩:=h;cases h2;exact fk.uK S (Gg V (fK ht hp) (fK ht hz) h1)
 case index t x y=>
  split at h
  case h_2=>cases h
  rename_i p z hp hz;rw[aKP]at h;obtain⟨u,h1,h2⟩:=h;cases h2;exact fk.uK S (Qu V (fK ht hp) (fK ht hz) h1)
 case lookup t x y ok=>
  split at h
  case h_2=>cases h
  rename_i p z hp hz;rw[aKP]at h;obtain⟨u,h1,h2⟩:=h;cases h2;exact fk.uK S (QG V S (fK ht hp) (fK ht hz) h1)
 case mapUpdate t m k x=>
  split at h
  case h_2=>cases h
  rename_i p z y hp hz hy;rw[aKP]at h;obtain⟨u,h1,h2⟩:=h;cases h2;exact fk.unit (zw V S (fK ht hp) (fK ht hz) (fK ht hy) h1)
 case insert t m k x=>
  split at h
  case h_2=>cases h
  rename_i p z y hp hz hy;rw[aKP]at h;obtain⟨u,h1,h2⟩:=h;cases h2;exact fk.unit (zw V S (fK ht hp) (fK ht hz) (fK ht hy) h1)
 case sliceToArrayPointer t x=>
  split at h
  ·rename_i n el _ _ _ _ _ b off len esz kc hi hx;split at h
   ·cases h
   rename_i iH;cases h;have hr:=fK ht hx;simp only[R]at hr;obtain⟨cb,co,cap,c,e',f,h1,h2,h3,h4,h5,h6⟩:=hr;refine fk.uK S ⟨.pointer (some ⟨cb,co+off,none⟩),?_,?_⟩
   ·rw[h2];simp only[Instr.arrayAt,Sem.run_bind,bg V hi w,Result.andThen_ok,iH,if_false,Sem.run_pure]
   ·simp only[R];exact⟨cb,co,h1,rfl⟩
  ·rename_i n el _ _ _ _ _ cs len hi hx;split at h
   ·cases h
   rename_i iH;cases h;have hr:=fK ht hx;simp only[R]at hr;obtain⟨cb,o',cap,c,e',f,h2,h3,h4,h5,h6⟩:=hr;refine fk.uK S ⟨.pointer (some ⟨cb,o',none⟩),?_,?_⟩
   ·rw[h2];simp only[Instr.arrayAt,Sem.run_bind,bg V hi w,Result.andThen_ok,iH,if_false,Sem.run_pure]
   ·simp only[R];exact⟨cb,o',c,e',f,by simp,h4,h5,h6⟩
  ·cases h
 case range t x=>
  split at h
  case h_2=>cases h
  rename_i z hi hx;cases h;have hr:=fK ht hx;simp only[R]at hr;rw[hr];exact fk.val (UF V S hf hi rfl)
 case next it isS=>
  cases isS<;>try (cases h;done)
  simp only at h;split at h
  case h_2=>cases h
  rename_i i hit;split at h
  case h_2=>cases h
  rename_i z pos hb;obtain⟨n1,n2⟩:=Yd (P:=P) S hb (fK ht hit) o.type;split at h
  ·rename_i iH;cases h;obtain⟨w',g1,g2⟩:=n1 iH;exact fk.val ⟨_,w',g1,g2⟩
  ·rename_i iH;cases h;exact fk.uK S ⟨_,n2 iH,by simp[R,Rs]⟩
 case extract t i=>
  split at h
  case h_2=>cases h
  rename_i vs hx;rw[aKP]at h;obtain⟨u,h1,h2⟩:=h;cases h2;have hr:=fK ht hx;simp only[R]at hr;obtain⟨as,h3,h4⟩:=hr;obtain⟨y,h5,h6⟩:=h4.get _ _ h1;refine fk.uK S ⟨y,?_,h6⟩;rw[h3];rw[aKX]at h5;simp only[Instr.extract,h5,Sem.run_pure]
 case call c=>
  split at h
  ·rename_i bi hc;split at h
   case h_2=>cases h
   rename_i as has;rw[aKP]at h;obtain⟨⟨u,l⟩,h1,h2⟩:=h;cases h2;have hr:Rs ι w (Live Lo ι H) as (c.args.map a.eval).toList:=by
    have:=LI ht has
    simpa using this
   obtain⟨cv,w',g1,g2⟩:=JG (ty:=o.type) (cs:=c.args.map fun|.const _=>true|_=>false) V S hf hr h1;refine⟨.value cv,cv,w',?_,.inl rfl,g2⟩;simp only[resolve,hc,Sem.run_bind,Sem.run_pure,Result.andThen_ok,invoke];exact g1
  ·rename_i f hc;simp[uU,ho,hc]at hv
  ·cases h
 all_goals (cases h)
end
section
variable{E:Env}{P:Program}{ι:eg}{w:World}{L L':Nat->Prop}{Lo:Nat->Prop}{w0:World}{H:Hp}
theorem xy(h:∀c,L' c->L c):Ext w L w L':=⟨aKR _,fun c _ hn=>⟨rfl,fun q=>hn (h c q)⟩,fun _ cs _ f hc=>⟨cs,f,hc,rfl⟩⟩
mutual
theorem OL(hL:∀c,L' c->L c):∀(av:AV) (v:Value),aU av=true->R ι w L av v->R cS w L' av v
 |.bool _,_,_,h=>by simpa[R]using h
 |.int _ _,_,_,h=>by simpa[R]using h
 |.str _,_,_,h=>by simpa[R]using h
 |.jF,_,_,h=>by simpa[R]using h
 |.b9 _ _,_,p,_=>by simp[aU]at p
 |.eX cs off,v,_,h=>R.ext (xy hL) _ cS _ _ (eg.le_refl _) (by simpa only[R]using h)
 |.sf _ _,_,_,h=>by simpa[R]using h
 |.aH,_,_,h=>by simpa[R]using h
 |.eW,_,_,h=>by simpa[R]using h
 |.aI _ _ _ _ _,_,p,_=>by simp[aU]at p
 |.aK cs n,_,_,h=>R.ext (xy hL) _ cS _ _ (eg.le_refl _) (by simpa only[R]using h)
 |.jV,_,_,h=>by simpa[R]using h
 |.jt _,_,p,_=>by simp[aU]at p
 |.tO ks vs,_,_,h=>R.ext (xy hL) _ cS _ _ (eg.le_refl _) (by simpa only[R]using h)
 |.jk,_,_,h=>by simpa[R]using h
 |.func f a b,_,p,h=>by
  simp only[aU,aLR]at p;simp only[R]at h⊢;obtain⟨x,y,h1,h2,h3⟩:=h;exact⟨x,y,h1,yi hL _ _ p.1 h2,yi hL _ _ p.2 h3⟩
 |.nilIface,_,_,h=>by simpa[R]using h
 |.iface _ x,_,p,h=>by
  simp only[aU]at p;simp only[R]at h⊢;obtain⟨y,h1,h2⟩:=h;exact⟨y,h1,OL hL _ _ p h2⟩
 |.agg cs,_,p,h=>by
  simp only[aU]at p;simp only[R]at h⊢;obtain⟨y,h1,h2⟩:=h;exact⟨y,h1,yi hL _ _ p h2⟩
 |.tuple cs,_,p,h=>by
  simp only[aU]at p;simp only[R]at h⊢;obtain⟨y,h1,h2⟩:=h;exact⟨y,h1,yi hL _ _ p h2⟩
 |.yield _,_,p,_=>by simp[aU]at p
theorem yi(hL:∀c,L' c->L c):∀(xs:List AV) (vs:List Value),bE xs=true->Rs ι w L xs vs->Rs cS w L' xs vs
 |[],_,_,h=>by simpa[Rs]using h
 |x::xs,_,p,h=>by
  simp only[bE,aLR]at p;simp only[Rs]at h⊢;obtain⟨y,ys,h1,h2,h3⟩:=h;exact⟨y,ys,h1,OL hL _ _ p.1 h2,yi hL _ _ p.2 h3⟩
end
theorem KG{f:AV->Option (AV×List Nat)}{J:Nat->Prop}(hf:∀(x:AV) (v:Value) (r:AV) (bs:List Nat),R ι w L x v->f x=some (r,bs)->(∀b,b∈bs->J b)->R cS w L' r v):
  ∀(xs:List AV) (vs:List Value) (rs:List (AV×List Nat)),Rs ι w L xs vs->dP f xs=some rs->(∀b,b∈rs.flatMap (·.2)->J b)->Rs cS w L' (rs.map (·.1)) vs
 |[],vs,rs,h,hm,_=>by
  simp only[dP,aKV.injEq]at hm;subst hm
  simpa[Rs]using h
 |x::xs,vs,rs,h,hm,hb=>by
  simp only[Rs]at h;obtain⟨y,ys,rfl,h2,h3⟩:=h;unfold dP at hm;split at hm
  ·cases hm
  rename_i r0 I9;split at hm
  ·cases hm
  rename_i rs0 ajA;cases hm;obtain⟨r,bs⟩:=r0;simp only[aLJ,Rs];simp only[aMk,aLV]at hb;exact⟨y,ys,rfl,hf _ _ _ _ h2 I9 (fun b q=>hb b (.inl q)),KG hf _ _ _ h3 ajA (fun b q=>hb b (.inr q))⟩
theorem Jc{c:Array Value}{o:Nat}:∀{xs ys:List AV},ys.length=xs.length->kN ι w L c o xs->Rs cS w L' ys (c.extract o (o+xs.length)).toList->kN cS w L' c o ys:=by
 intro xs ys hl h1 h2;refine kN.jW fun i x hx=>?_
 obtain⟨v,g1,g2⟩:=h2.get i x hx;refine⟨v,?_,g2⟩;rw[aKX,aK2]at g1;split at g1
 ·exact g1
 ·cases g1
theorem F8{α β:Type}{f:α->Option β}:∀{xs:List α} {rs:List β},dP f xs=some rs->rs.length=xs.length
 |[],rs,h=>by simp only[dP,aKV.injEq]at h;subst h;rfl
 |x::xs,rs,h=>by
  unfold dP at h;split at h
  ·cases h
  split at h
  ·cases h
  rename_i hr;cases h;simp[F8 hr]
theorem Ls(S:iZ E Lo w0 ι H w)(hL:∀c,L' c->Live Lo ι H c):∀(n:Nat) (av:AV) (v:Value) (r:AV) (bs:List Nat),R ι w (Live Lo ι H) av v->fz H n av=some (r,bs)->
  (∀b,b∈bs->∀cb co,ι b=some (cb,co)->¬L' cb)->R cS w L' r v
 |0,_,_,_,_,_,h,_=>by simp[fz]at h
 |n+1,av,v,r,bs,hr,h,hb=>by
  have ih:=Ls S hL n;have Oh:∀(cs:List AV) (vs:List Value) (rs:List (AV×List Nat)),Rs ι w (Live Lo ι H) cs vs->dP (fz H n) cs=some rs->(∀b,b∈rs.flatMap (·.2)->∀cb co,ι b=some (cb,co)->¬L' cb)->
    Rs cS w L' (rs.map (·.1)) vs:=fun cs vs rs h1 h2 h3=>KG (J:=fun b=>∀cb co,ι b=some (cb,co)->¬L' cb) (fun x v r bs a b c=>ih x v r bs a b c) cs vs rs h1 h2 h3
  have base:∀(_:aU av=true),R cS w L' av v:=fun p=>OL hL _ _ p hr
  cases av<;>simp only[fz]at h
  case b9 b off=>
   split at h
   case h_2=>cases h
   rename_i st cs Ho;split at h
   ·cases h
   rename_i fZ;rw[aKP]at h;obtain⟨⟨c',bs'⟩,h1,h2⟩:=h;rw[aKP]at h1;obtain⟨rs,h1,h3⟩:=h1;cases h3;cases h2
   obtain⟨cb,co,o,g1,g2,g3,_⟩:=S.obj b _ Ho fZ;simp only[jH]at g3;obtain⟨c,e,f,q1,q2,_⟩:=g3;simp only[R]at hr;obtain⟨Re,co',r1,r2⟩:=hr;rw[g1]at r1;cases r1
   simp only[R];refine⟨cb,co,c,e,f,r2,by rw[g2,q1],hb b (by simp) cb co g1,?_⟩;refine Jc (by simp[F8 h1]) q2 (Oh _ _ _ q2.list h1 fun b' q=>hb b' (by simp at q⊢;exact .inr q))
  case aI b off len esz kc=>
   split at h
   case h_2=>cases h
   rename_i st cs Ho;split at h
   ·cases h
   rename_i fZ;simp only[aLP,decide_eq_true_eq,not_or,aL3]at fZ;rw[aKP]at h;obtain⟨⟨c',bs'⟩,h1,h2⟩:=h;rw[aKP]at h1;obtain⟨rs,h1,h3⟩:=h1;cases h3;cases h2
   obtain⟨cb,co,o,g1,g2,g3,_⟩:=S.obj b _ Ho fZ.1;simp only[jH]at g3;obtain⟨c,e,f,q1,q2,_⟩:=g3;simp only[R]at hr;obtain⟨Re,co',cap,c2,e2,f2,r1,r2,r3,r4,r5,r6⟩:=hr;rw[g1]at r1;cases r1
   rw[g2,q1]at r5;cases r5
   simp only[R];refine⟨cb,co+off,cap,c,e,f,r2,by omega,by rw[g2,q1],hb b (by simp) cb co g1,?_⟩;have q3:=(q2.drop off).take (len*esz);exact Jc (by simp[F8 h1]) q3 (Oh _ _ _ q3.list h1 fun b' q=>hb b' (by simp at q⊢;exact .inr q))
  case jt b=>
   split at h
   case h_2=>cases h
   rename_i st ks vs Ho;split at h
   ·cases h
   rename_i fZ;split at h
   case h_2=>cases h
   rename_i k b1 v' b2 hk hv;cases h;rw[aKP]at hk hv;obtain⟨rk,hk,Lk⟩:=hk;obtain⟨rv,hv,VV⟩:=hv;cases Lk;cases VV
   obtain⟨cb,co,o,g1,g2,g3,_⟩:=S.obj b _ Ho fZ;simp only[jH]at g3;obtain⟨es,clock,q1,q2,q3,_⟩:=g3;simp only[R]at hr;obtain⟨Re,co',r1,r2⟩:=hr;rw[g1]at r1;cases r1
   simp only[R];refine⟨cb,es,clock,r2,by rw[g2,q1],hb b (by simp) cb co g1,Oh _ _ _ q2 hk fun b' q=>hb b' ?_,Oh _ _ _ q3 hv fun b' q=>hb b' ?_⟩
   ·simp at q⊢;exact .inr (.inl q)
   ·simp at q⊢;exact .inr (.inr q)
  case agg cs=>
   rw[aKP]at h;obtain⟨⟨c',bs'⟩,h1,h2⟩:=h;rw[aKP]at h1;obtain⟨rs,h1,h3⟩:=h1;cases h3;cases h2
   simp only[R]at hr⊢;obtain⟨vs,h4,h5⟩:=hr;exact⟨vs,h4,Oh _ _ _ h5 h1 hb⟩
  case tuple cs=>
   rw[aKP]at h;obtain⟨⟨c',bs'⟩,h1,h2⟩:=h;rw[aKP]at h1;obtain⟨rs,h1,h3⟩:=h1;cases h3;cases h2
   simp only[R]at hr⊢;obtain⟨vs,h4,h5⟩:=hr;exact⟨vs,h4,Oh _ _ _ h5 h1 hb⟩
  case iface t x=>
   rw[aKP]at h;obtain⟨⟨c',bs'⟩,h1,h2⟩:=h;cases h2;simp only[R]at hr⊢;obtain⟨y,h4,h5⟩:=hr;exact⟨y,h4,ih _ _ _ _ h5 h1 hb⟩
  case func f a c=>
   split at h
   case h_2=>cases h
   rename_i a' b1 c' b2 hk hv;cases h;rw[aKP]at hk hv;obtain⟨rk,hk,Lk⟩:=hk;obtain⟨rv,hv,VV⟩:=hv;cases Lk;cases VV
   simp only[R]at hr⊢;obtain⟨x,y,h1,h2,h3⟩:=hr;exact⟨x,y,h1,Oh _ _ _ h2 hk fun b' q=>hb b' (List.mem_append_left _ q),Oh _ _ _ h3 hv fun b' q=>hb b' (List.mem_append_right _ q)⟩
  case yield l=>cases h
  all_goals
   cases h;exact base rfl
theorem ik:∀(bs:List Nat) (H:Hp) (b:Nat),(mark H bs)[b]?=if b∈bs then(H[b]?).map cz.nL else H[b]?:=by
 intro bs;induction bs with
 |nil=>intro H b;simp[mark]
 |cons x bs ih=>
  intro H b;have idem:∀k:cz,k.nL.nL=k.nL:=by
   intro k;cases k
   case cells st cs=>cases st<;>rfl
   case map st ks vs=>cases st<;>rfl
   case kT=>rfl
   case loop=>rfl
  have:=ih (H.modify x cz.nL) b
  simp only[mark,aMa]at this⊢;rw[this,List.getElem?_modify];by_cases e:x=b
  ·subst e;by_cases hm:x∈bs
   ·simp[hm];cases H[x]?<;>simp[idem]
   ·simp[hm]
  ·have e':b≠x:=fun q=>e q.symm
   simp[e,e']
theorem lX(bs:List Nat):∀(H:Hp),(mark H bs).length=H.length:=by
 induction bs with
 |nil=>intro H;rfl
 |cons x bs ih=>intro H;simp only[mark,aMa]at ih⊢;rw[ih];simp
theorem Fj(k:cz):k.nL=k/\(k.st=.live->∃s p,k=.kT s p∨∃a b c d e f,k=.loop a b c d e f)∨
  k.st=.live/\k.nL.st=.ro/\∀ι w L co o,jH ι w L co k o->jH ι w L co k.nL o:=by
 cases k
 case cells st cs=>
  cases st
  ·exact .inr ⟨rfl,rfl,fun ι w L co o h=>by simp only[cz.nL,jH]at h⊢;obtain⟨c,e,f,h1,h2,_⟩:=h;exact⟨c,e,f,h1,h2,fun q=>by cases q⟩⟩
  ·exact .inl ⟨rfl,fun q=>by cases q⟩
  ·exact .inl ⟨rfl,fun q=>by cases q⟩
 case map st ks vs=>
  cases st
  ·exact .inr ⟨rfl,rfl,fun ι w L co o h=>by simp only[cz.nL,jH]at h⊢;obtain⟨es,c,h1,h2,h3,_⟩:=h;exact⟨es,c,h1,h2,h3,fun q=>by cases q⟩⟩
  ·exact .inl ⟨rfl,fun q=>by cases q⟩
  ·exact .inl ⟨rfl,fun q=>by cases q⟩
 case kT s p=>exact .inl ⟨rfl,fun _=>⟨s,p,.inl rfl⟩⟩
 case loop a b c d e f=>exact .inl ⟨rfl,fun _=>⟨[],0,.inr ⟨a,b,c,d,e,f,rfl⟩⟩⟩
theorem iZ.mark(S:iZ E Lo w0 ι H w)(bs:List Nat):iZ E Lo w0 ι (mark H bs) w/\Ext w (Live Lo ι H) w (Live Lo ι (mark H bs)):=
 S.weaken (lX bs H) (fun b hb=>by
  rw[ik]at hb;split at hb
  ·rw[aKP]at hb;obtain⟨k,h1,h2⟩:=hb;rw[h1];cases k<;>simp only[eP,cz.nL]at h2⊢
   case cells st cs=>cases st<;>simp[]at h2⊢;exact h2
   case map st a b=>cases st<;>simp[]at h2
   all_goals cases h2
  ·exact hb) fun b eN hb hd=>by
  rw[ik]at hb;split at hb
  ·rw[aKP]at hb;obtain⟨k,h1,rfl⟩:=hb;rcases Fj k with⟨h2,_⟩|⟨h2,h3,h4⟩
   ·rw[h2];exact .inl h1
   ·exact .inr ⟨k,h1,h2,h3,h4⟩
  ·exact .inl hb
theorem Oi{f:AV->Option (AV×List Nat)}{J:Nat->Prop}(hf:∀(x r:AV) (bs:List Nat),f x=some (r,bs)->∀b,b∈bs->J b):
  ∀(xs:List AV) (rs:List (AV×List Nat)),dP f xs=some rs->∀b,b∈rs.flatMap (·.2)->J b
 |[],rs,hm,b,hb=>by
  simp only[dP,aKV.injEq]at hm;subst hm
  simp at hb
 |x::xs,rs,hm,b,hb=>by
  unfold dP at hm;split at hm
  ·cases hm
  rename_i r0 I9;split at hm
  ·cases hm
  rename_i rs0 ajA;cases hm;simp only[aMk,aLV]at hb;rcases hb with hb|hb
  ·exact hf _ _ _ I9 b hb
  ·exact Oi hf _ _ ajA b hb
def Zf(H:Hp)(b:Nat):Prop:=∃eN,H[b]?=some eN/\eN.st≠ .dead/\eN.nL.st=.ro
theorem Gq(H:Hp):∀(n:Nat) (av r:AV) (bs:List Nat),fz H n av=some (r,bs)->∀b,b∈bs->Zf H b
 |0,_,_,_,h,_,_=>by simp[fz]at h
 |n+1,av,r,bs,h,b0,qM=>by
  have Oh:∀(cs:List AV) (rs:List (AV×List Nat)),dP (fz H n) cs=some rs->∀b,b∈rs.flatMap (·.2)->Zf H b:=
   fun cs rs=>Oi (fun x r bs h b hb=>Gq H n x r bs h b hb) cs rs
  have here:∀(st:gu) (cs:List AV) (b:Nat),H[b]?=some (.cells st cs)->st≠ .dead->Zf H b:=fun st cs b h1 h2=>
   ⟨_,h1,h2,by cases st<;>first|rfl|exact absurd rfl h2⟩
  cases av<;>simp only[fz]at h
  case b9 b off=>
   split at h
   case h_2=>cases h
   rename_i st cs Ho;split at h
   ·cases h
   rename_i fZ;rw[aKP]at h;obtain⟨⟨c',bs'⟩,h1,h2⟩:=h;rw[aKP]at h1;obtain⟨rs,h1,h3⟩:=h1;cases h3;cases h2
   rcases aMc.1 qM with rfl|hb
   ·exact here _ _ _ Ho fZ
   ·exact Oh _ _ h1 _ hb
  case aI b off len esz kc=>
   split at h
   case h_2=>cases h
   rename_i st cs Ho;split at h
   ·cases h
   rename_i fZ;simp only[aLP,decide_eq_true_eq,not_or,aL3]at fZ;rw[aKP]at h;obtain⟨⟨c',bs'⟩,h1,h2⟩:=h;rw[aKP]at h1;obtain⟨rs,h1,h3⟩:=h1;cases h3;cases h2
   rcases aMc.1 qM with rfl|hb
   ·exact here _ _ _ Ho fZ.1
   ·exact Oh _ _ h1 _ hb
  case jt b=>
   split at h
   case h_2=>cases h
   rename_i st ks vs Ho;split at h
   ·cases h
   rename_i fZ;split at h
   case h_2=>cases h
   rename_i k b1 v' b2 hk hv;cases h;rw[aKP]at hk hv;obtain⟨rk,hk,Lk⟩:=hk;obtain⟨rv,hv,VV⟩:=hv;cases Lk;cases VV
   rcases aMc.1 qM with rfl|hb
   ·exact⟨_,Ho,fZ,by cases st<;>first|rfl|exact absurd rfl fZ⟩
   ·rcases aLV.1 hb with hb|hb
    ·exact Oh _ _ hk _ hb
    ·exact Oh _ _ hv _ hb
  case agg cs=>
   rw[aKP]at h;obtain⟨⟨c',bs'⟩,h1,h2⟩:=h;rw[aKP]at h1;obtain⟨rs,h1,h3⟩:=h1;cases h3;cases h2
   exact Oh _ _ h1 _ qM
  case tuple cs=>
   rw[aKP]at h;obtain⟨⟨c',bs'⟩,h1,h2⟩:=h;rw[aKP]at h1;obtain⟨rs,h1,h3⟩:=h1;cases h3;cases h2
   exact Oh _ _ h1 _ qM
  case iface t x=>
   rw[aKP]at h;obtain⟨⟨c',bs'⟩,h1,h2⟩:=h;cases h2;exact Gq H n _ _ _ h1 _ qM
  case func f a c=>
   split at h
   case h_2=>cases h
   rename_i a' b1 c' b2 hk hv;cases h;rw[aKP]at hk hv;obtain⟨rk,hk,Lk⟩:=hk;obtain⟨rv,hv,VV⟩:=hv;cases Lk;cases VV
   rcases aLV.1 qM with hb|hb
   ·exact Oh _ _ hk _ hb
   ·exact Oh _ _ hv _ hb
  case yield l=>cases h
  all_goals
   cases h;simp at qM
theorem th(S:iZ E Lo w0 ι H w){vs as:List AV}{Ss:List Value}{bs:List Nat}(hr:Rs ι w (Live Lo ι H) vs Ss)(h:bW H vs=some (as,bs)):
  Rs cS w (Live Lo ι (mark H bs)) as Ss:=by
 have M:=S.mark bs;have hL:∀c,Live Lo ι (mark H bs) c->Live Lo ι H c:=by
  rintro c (hc|⟨b,bk,co,h1,h2,h3⟩)
  ·exact .inl hc
  ·rw[ik]at h1;split at h1
   ·rw[aKP]at h1;obtain⟨k,h4,rfl⟩:=h1;rcases Fj k with⟨h5,_⟩|⟨_,h5,_⟩
    ·rw[h5]at h2;exact .inr ⟨b,k,co,h4,h2,h3⟩
    ·rw[h2]at h5;cases h5
   ·exact .inr ⟨b,bk,co,h1,h2,h3⟩
 unfold bW at h;split at h
 ·rename_i hp;cases h;exact yi hL _ _ hp hr
 split at h
 ·cases h
 rename_i r hm;cases h;refine KG (J:=fun b=>b∈r.flatMap (·.2)) (f:=fz H 40) (fun x v rr bs h1 h2 h3=>Ls S hL 40 x v rr bs h1 h2 fun b hb cb co hi=>?_) vs Ss r hr hm (fun b hb=>hb);obtain⟨eN,g1,g2,g3⟩:=Gq H 40 x rr bs h2 b hb;have g4:(mark H (r.flatMap (·.2)))[b]?=some eN.nL:=by rw[ik,if_pos (h3 b hb),g1];rfl
 obtain⟨Re,co',o,k1,k2,k3,k4,k5⟩:=M.1.obj b _ g4 (by rw[g3];simp);rw[hi]at k1;cases k1
 exact k5 g3
end
structure NG(w:World)(L:Nat->Prop)(w':World)(L':Nat->Prop):Prop where
 WC:∀{c:Nat} {cs:Array Value} {e:TypeId} {f:Nat×Nat},w.heap[c]?=some (.cells cs e f)->¬L c->w'.heap[c]?=some (.cells cs e f)/\¬L' c
 apQ:∀{c:Nat} {es:Array MapEntry} {k:Nat},w.heap[c]?=some (.map es k)->¬L c->w'.heap[c]?=some (.map es k)/\¬L' c
 shape:∀(c:Nat) (cs:Array Value) (e:TypeId) (f:Nat×Nat),w.heap[c]?=some (Obj.cells cs e f)->∃(vK:Array Value) (f':Nat×Nat),w'.heap[c]?=some (Obj.cells vK e f')/\vK.size=cs.size
theorem Ext.k{w w':World}{L L':Nat->Prop}(h:Ext w L w' L'):NG w L w' L':=⟨fun h1 h2=>h.keep h1 h2,fun h1 h2=>h.keep h1 h2,h.shape⟩
mutual
theorem R.rz{w w':World}{L L':Nat->Prop}(he:NG w L w' L'):∀(av:AV) (ι ι':eg) (v:Value),ι.le ι'->R ι w L av v->R ι' w' L' av v
 |.bool _,_,_,_,_,h=>by simpa[R]using h
 |.int _ _,_,_,_,_,h=>by simpa[R]using h
 |.str _,_,_,_,_,h=>by simpa[R]using h
 |.jF,_,_,_,_,h=>by simpa[R]using h
 |.b9 _ _,_,_,_,hi,h=>by
  simp only[R]at h⊢;obtain⟨cb,co,h1,h2⟩:=h;exact⟨cb,co,hi _ _ h1,h2⟩
 |.eX cs _,_,_,_,_,h=>by
  simp only[R]at h⊢;obtain⟨cb,o,c,e,f,h1,h2,h3,h4⟩:=h
  have:=he.WC h2 h3
  exact⟨cb,o,c,e,f,h1,this.1,this.2,kN.rz he cs cS cS c o (eg.le_refl _) h4⟩
 |.sf _ _,_,_,_,_,h=>by simpa[R]using h
 |.aH,_,_,_,_,h=>by simpa[R]using h
 |.eW,_,_,_,_,h=>by simpa[R]using h
 |.aI _ _ _ _ _,_,_,_,hi,h=>by
  simp only[R]at h⊢;obtain⟨cb,co,cap,c,e,f,h1,h2,h3,h4,h5,h6⟩:=h;obtain⟨c',f',g1,g2⟩:=he.shape cb c e f h5;exact⟨cb,co,cap,c',e,f',hi _ _ h1,h2,h3,h4,g1,by omega⟩
 |.aK cs _,_,_,_,_,h=>by
  simp only[R]at h⊢;obtain⟨cb,o,cap,c,e,f,h1,h2,h3,h4,h5⟩:=h
  have:=he.WC h3 h4
  exact⟨cb,o,cap,c,e,f,h1,h2,this.1,this.2,kN.rz he cs cS cS c o (eg.le_refl _) h5⟩
 |.jV,_,_,_,_,h=>by simpa[R]using h
 |.jt _,_,_,_,hi,h=>by
  simp only[R]at h⊢;obtain⟨cb,co,h1,h2⟩:=h;exact⟨cb,co,hi _ _ h1,h2⟩
 |.tO ks vs,_,_,_,_,h=>by
  simp only[R]at h⊢;obtain⟨cb,es,clock,h1,h2,h3,h4,h5⟩:=h
  have:=he.apQ h2 h3
  exact⟨cb,es,clock,h1,this.1,this.2,Rs.rz he ks cS cS _ (eg.le_refl _) h4,Rs.rz he vs cS cS _ (eg.le_refl _) h5⟩
 |.jk,_,_,_,_,h=>by simpa[R]using h
 |.func _ a b,ι,ι',_,hi,h=>by
  simp only[R]at h⊢;obtain⟨x,y,h1,h2,h3⟩:=h;exact⟨x,y,h1,Rs.rz he a ι ι' _ hi h2,Rs.rz he b ι ι' _ hi h3⟩
 |.nilIface,_,_,_,_,h=>by simpa[R]using h
 |.iface _ x,ι,ι',_,hi,h=>by
  simp only[R]at h⊢;obtain⟨y,h1,h2⟩:=h;exact⟨y,h1,R.rz he x ι ι' y hi h2⟩
 |.agg cs,ι,ι',_,hi,h=>by
  simp only[R]at h⊢;obtain⟨y,h1,h2⟩:=h;exact⟨y,h1,Rs.rz he cs ι ι' _ hi h2⟩
 |.tuple cs,ι,ι',_,hi,h=>by
  simp only[R]at h⊢;obtain⟨y,h1,h2⟩:=h;exact⟨y,h1,Rs.rz he cs ι ι' _ hi h2⟩
 |.yield _,_,_,_,hi,h=>by
  simp only[R]at h⊢;obtain⟨cb,co,h1,h2⟩:=h;exact⟨cb,co,hi _ _ h1,h2⟩
theorem Rs.rz{w w':World}{L L':Nat->Prop}(he:NG w L w' L'):∀(xs:List AV) (ι ι':eg) (vs:List Value),ι.le ι'->Rs ι w L xs vs->Rs ι' w' L' xs vs
 |[],_,_,_,_,h=>by simpa[Rs]using h
 |x::xs,ι,ι',_,hi,h=>by
  simp only[Rs]at h⊢;obtain⟨y,ys,h1,h2,h3⟩:=h;exact⟨y,ys,h1,R.rz he x ι ι' y hi h2,Rs.rz he xs ι ι' ys hi h3⟩
theorem kN.rz{w w':World}{L L':Nat->Prop}(he:NG w L w' L'):∀(xs:List AV) (ι ι':eg) (c:Array Value) (o:Nat),ι.le ι'->kN ι w L c o xs->kN ι' w' L' c o xs
 |[],_,_,_,_,_,_=>by simp[kN]
 |x::xs,ι,ι',c,o,hi,h=>by
  simp only[kN]at h⊢;obtain⟨⟨y,h1,h2⟩,h3⟩:=h;exact⟨⟨y,h1,R.rz he x ι ι' y hi h2⟩,kN.rz he xs ι ι' c (o+1) hi h3⟩
end
section
variable{E:Env}{P:Program}{ι:eg}{w:World}{L L':Nat->Prop}{Lo:Nat->Prop}{w0:World}{H:Hp}
theorem QQ{k:Nat}{o o':Obj}(h:w.heap[k]?=some o)(h1:∀cs e f,o≠ .cells cs e f)(h2:∀es c,o≠ .map es c):NG w L (sC w k o') L:=by
 have key:∀(c:Nat) (ob:Obj),w.heap[c]?=some ob->c≠k->(sC w k o').heap[c]?=some ob:=fun c ob hc hn=>by
  simp only[sC];rw[aLO (fun e=>hn e.symm)];exact hc
 refine⟨fun{c cs e f} hc hl=>⟨key c _ hc fun q=>?_,hl⟩,fun{c es n} hc hl=>⟨key c _ hc fun q=>?_,hl⟩,fun c cs e f hc=>⟨cs,f,key c _ hc fun q=>?_,rfl⟩⟩
 ·subst q;rw[h]at hc;cases hc;exact h1 _ _ _ rfl
 ·subst q;rw[h]at hc;cases hc;exact h2 _ _ rfl
 ·subst q;rw[h]at hc;cases hc;exact h1 _ _ _ rfl
theorem jH.rz{w':World}(he:NG w L w' L'){ι':eg}(hi:ι.le ι'){co:Nat}{eN:cz}{o:Obj}(h:jH ι w L co eN o):jH ι' w' L' co eN o:=by
 cases eN<;>simp only[jH]at h⊢
 case cells=>obtain⟨c,e,f,h1,h2,h3⟩:=h;exact⟨c,e,f,h1,kN.rz he _ _ _ _ _ hi h2,h3⟩
 case map=>obtain⟨es,k,h1,h2,h3,h4⟩:=h;exact⟨es,k,h1,Rs.rz he _ _ _ _ hi h2,Rs.rz he _ _ _ _ hi h3,h4⟩
 case kT=>exact h
 case loop=>obtain⟨l,h1,h2,h3,h4,h5⟩:=h;exact⟨l,h1,h2,h3,Rs.rz he _ _ _ _ hi h4,h5⟩
theorem iZ.other(S:iZ E Lo w0 ι H w){k:Nat}{ds:Option (List Deferred)}{o':Obj}(h:w.heap[k]?=some (.deferred ds))(hk:w0.heap.size<=k):
  iZ E Lo w0 ι H (sC w k o')/\NG w (Live Lo ι H) (sC w k o') (Live Lo ι H):=by
 have X:NG w (Live Lo ι H) (sC w k o') (Live Lo ι H):=QQ h (by simp) (by simp);have O:=oT (o:=o') (w1:=w) rfl rfl rfl rfl h;have ne:∀(c:Nat) (ob:Obj),w.heap[c]?=some ob->(∀ds,ob≠ .deferred ds)->(sC w k o').heap[c]?=some ob:=fun c ob hc hd=>by
  rw[O.there c (fun q=>by subst q;rw[h]at hc;cases hc;exact hd _ rfl)];exact hc
 refine⟨⟨S.below.trans (O.below hk),S.lo,?_,?_,S.inj,?_,S.uc,S.res⟩,X⟩
 ·intro b p hp
  have:=S.Pr b p hp
  exact⟨this.1,by rw[O.size];exact this.2⟩
 ·intro b eN hb hd;obtain⟨cb,co,ob,g1,g2,g3,g4,g5⟩:=S.obj b eN hb hd;refine⟨cb,co,ob,g1,ne cb ob g2 ?_,g3.rz X (eg.le_refl _),g4,g5⟩;intro ds' q;subst q;cases eN<;>simp only[jH]at g3
  case cells=>obtain⟨_,_,_,q,_⟩:=g3;cases q
  case map=>obtain⟨_,_,q,_⟩:=g3;cases q
  case kT=>cases g3.2
  case loop=>obtain⟨_,q,_⟩:=g3;cases q
 ·intro g cs hg;obtain⟨c,e,f,h1,h2,h3,hz⟩:=S.glob g cs hg;exact⟨c,e,f,(X.WC h1 h2).1,h2,kN.rz X _ _ _ _ _ (eg.le_refl _) h3,hz⟩
end
end Dv
