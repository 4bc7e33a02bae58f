/- A part of the proof that PairRefuses returns true for every input; no condition of its own. -/
import Derived.Test.YtblnjkjjedanaaaGreatDoorTac
set_option linter.all false
set_option maxHeartbeats 100000000
set_option maxRecDepth 100000
open Option renaming map_eq_some_iff->aLp,map_some->aNj,some->aLv,isSome_iff_exists->aNk,getD_some->aNt
open Array renaming getElem?_toList->aLC,toList_push->aNh,getElem?_modify->aNi,length_toList->aNo
open List renaming getElem?_map->aNe,map_cons->aNf,mem_append->aNg,map_append->aNl,foldl_cons->aNm,mem_cons->aNn,mem_map->aNp,mem_singleton->aNq,map_nil->aNr,flatMap_cons->aNs
open Nat renaming le_refl->aLr,zero_add->aMg,not_lt->aNv
open Bool renaming and_eq_true->aMq,or_eq_true->aMi
namespace Dv
open Go Go.RowKit
section
variable{E:Env}{P:Program}{ι:dZ}{w:World}{L:Nat->Prop}{ts:List AV}{a:Act}{Lo:Nat->Prop}{w0:World}{H:Hp}
def sV(w:World)(r:Nat)(o:Obj):World:={w with heap:=w.heap.setIfInBounds r o}
theorem yO{r:Nat}{o:Obj}(h:∃ob,w.heap[r]?=some ob/\∀c e f,ob≠ .cells c e f):(setObj r o).run P w=.ok () (sV w r o):=by
 obtain⟨ob,h1,h2⟩:=h;cases ob<;>first|(exact absurd rfl (h2 _ _ _))|simp[setObj,Sem.run,h1,sV]
theorem o4{w1:World}{r:Nat}{o ob:Obj}(hh:w1.heap=w.heap)(Oo:w1.os=w.os)(F6:w1.tape=w.tape)(tX:w1.output=w.output)(h:w.heap[r]?=some ob):
  Is w (sV w1 r o) r o:=by
 have gO:=eh h;refine⟨Oo,F6,tX,by simp[sV,hh],?_,fun c hc=>?_⟩
 ·simp[sV,hh,gO]
 ·simp only[sV,hh];rw[Array.getElem?_setIfInBounds_ne (fun e=>hc e.symm)]
theorem Be(old new:Value)(w:World):∃Lh w1,(Instr.keyThatStays old new).run P w=.ok Lh w1/\(Lh=old∨Lh=new)/\w1.heap=w.heap/\w1.os=w.os/\w1.tape=w.tape/\w1.output=w.output:=by
 unfold Instr.keyThatStays
 split
 ·exact⟨new,w,rfl,.inr rfl,rfl,rfl,rfl,rfl⟩
 ·simp only[Sem.run_bind,run_choose]
  split
  ·exact⟨new,w,rfl,.inr rfl,rfl,rfl,rfl,rfl⟩
  ·simp only[Result.andThen_ok,Sem.run_pure];refine⟨_,_,rfl,?_,rfl,rfl,rfl,rfl⟩
   split
   ·exact .inr rfl
   ·exact .inl rfl
theorem Ze.modify{es:Array MapEntry}{clock:Nat}(h:Ze es clock)(j:Nat){key val:Value}:Ze (es.modify j fun e=>{e with key:=key,val:=val}) clock:=by
 have hb:(es.modify j fun e=>{e with key:=key,val:=val}).toList.map (·.born)=es.toList.map (·.born):=by
  refine List.ext_getElem? fun i=>?_
  rw[aNe,aNe,aLC,aLC,aNi]
  split
  ·cases es[i]?<;>rfl
  ·rfl
 refine⟨fun x hx=>?_,by rw[hb];exact h.2⟩
 have:x.born∈(es.modify j fun e=>{e with key:=key,val:=val}).toList.map (·.born):=aNp.2 ⟨x,hx,rfl⟩
 rw[hb]at this;obtain⟨y,h1,h2⟩:=aNp.1 this;rw[<-h2];exact h.1 y h1
theorem Ze.push{es:Array MapEntry}{clock:Nat}(h:Ze es clock)(key val:Value):Ze (es.push {key:=key,val:=val,born:=clock}) (clock+1):=by
 refine⟨fun x hx=>?_,?_⟩
 ·simp only[aNh,aNg,aNq]at hx;rcases hx with hx|rfl
  ·have:=h.1 x hx;omega
  ·simp
 ·simp only[aNh,aNl,aNf,aNr];refine List.nodup_append.2 ⟨h.2,by simp,fun a ha b hb=>?_⟩;simp only[aNq]at hb;subst hb;obtain⟨y,h1,rfl⟩:=aNp.1 ha
  have:=h.1 y h1;omega
theorem yt(V:Valid E P)(S:iW E Lo w0 ι H w){t:Nat}{m k x:AV}{vm vk vx:Value}{st:List (Nat×cG)}(hm:R ι w (Live Lo ι H) m vm)(hk:R ι w (Live Lo ι H) k vk)
  (hx:R ι w (Live Lo ι H) x vx) (h:ek E H t m k x=some st):∃w',(Instr.mapUpdate t vm vk vx).run P w=.ok () w'/\iS E Lo w0 ι H w aX (.bM st) undef w':=by
 unfold ek at h;split at h
 case h_2=>cases h
 rename_i kt et _ _ _ _ _ b hi;have hu:=bg V hi w;split at h
 case h_2=>cases h
 rename_i ks vs hb;split at h
 ·cases h
 rename_i hpk;have Sd:plainKey E 20 kt=true:=by simpa using hpk
 have hkt:∃ki,E.ty kt=some ki:=by
  have ao2:=Sd;unfold plainKey at ao2;cases hh:E.ty kt with
  |none=>simp[hh]at ao2
  |some ki=>exact⟨ki,rfl⟩
 obtain⟨ki,Wh⟩:=hkt;simp only[R]at hm;obtain⟨cb,co,h1,rfl⟩:=hm;obtain⟨NK,co',o,g1,g2,g3,g4,_⟩:=S.obj b _ hb (by simp[cG.st]);rw[h1]at g1;cases g1
 simp only[jF]at g3;obtain⟨es,clock,rfl,g5,g6,g7⟩:=g3;have g7:Ze es clock:=by simpa using g7
 have tW:Live Lo ι H cb:=.inr ⟨b,_,co,hb,rfl,h1⟩;have hnc:∃ob,w.heap[cb]?=some ob/\∀c e f,ob≠ .cells c e f:=⟨_,g2,fun _ _ _ q=>by cases q⟩;split at h
 ·
  rename_i j y WA hf;have Z0:=n8 (w:=w) V false 20 20 10000 kt k vk (by omega) Sd hk WA;split at h
  case h_2=>cases h
  rename_i k0 hk0;split at h
  case isFalse=>cases h
  rename_i apm;cases h;have T5:=HI 20 k0 k apm;subst T5;obtain⟨r',q1,q2⟩:=sO V Wh hk g5 g6 hf;cases r' with
  |none=>exact q2.elim
  |some p=>
   obtain⟨i',v'⟩:=p;obtain⟨rfl,q3,q4,q5⟩:=q2;simp only[Nat.sub_zero,aNo]at q5;obtain⟨Lh,w1,s1,s2,s3,s4,s5,s6⟩:=Be (P:=P) (((es[j]?).map (·.key)).getD vk) vk w;have hO:=o4 (w:=w) (w1:=w1) (o:=.map (es.modify j fun e=>{e with key:=Lh,val:=vx}) clock) s3 s4 s5 s6 g2;have Ey:nw (.map es clock) (.map (es.modify j fun e=>{e with key:=Lh,val:=vx}) clock):=fun _ _ _ q=>by cases q
   have J6:=hO.ext (L:=Live Lo ι H) (L':=Live Lo ι H) g2 Ey tW (fun _ h=>h);have aox:R ι w (Live Lo ι H) k0 Lh:=by
    rcases s2 with rfl|rfl
    ·obtain⟨kv,k1,k2⟩:=g5.get j k0 hk0;rw[aNe,aLp]at k1;obtain⟨en,k3,rfl⟩:=k1;rw[aLC]at k3;simp only[k3,aNj,aNt];exact k2
    ·exact hk
   have hlen:es.size=ks.length:=by have:=g5.length;simpa using this
   have aoF:es.size=vs.length:=by have:=g6.length;simpa using this
   have U:=S.update (blk':=.map .live ks (vs.set j x)) hb rfl rfl h1 g2 Ey hO (by
    simp only[jF];refine⟨_,clock,rfl,?_,?_,fun _=>Ze.modify (g7) _⟩
    ·refine Rs.jI (by simp[hlen]) fun i z hz=>?_
     obtain⟨kv,k1,k2⟩:=g5.get i z hz;rw[aNe,aLp]at k1;obtain⟨en,k3,rfl⟩:=k1;rw[aLC]at k3;rw[aNe,aLC,aNi];by_cases FE:j=i
     ·subst FE;rw[hk0]at hz;cases hz
      simp only[if_true,k3,aNj];exact⟨Lh,rfl,R.ext J6 _ _ _ _ (dZ.le_refl _) aox⟩
     ·rw[if_neg FE,k3];exact⟨en.key,rfl,R.ext J6 _ _ _ _ (dZ.le_refl _) k2⟩
    ·refine Rs.jI (by simp[aoF]) fun i z hz=>?_
     rw[aNe,aLC,aNi];rw[List.getElem?_set]at hz;by_cases FE:j=i
     ·subst FE;rw[if_pos rfl,if_pos (by omega)]at hz;cases hz
      obtain⟨en,hen⟩:∃en,es[j]?=some en:=⟨es[j],Array.getElem?_eq_getElem (by omega)⟩;simp only[if_true,hen,aNj];exact⟨vx,rfl,R.ext J6 _ _ _ _ (dZ.le_refl _) hx⟩
     ·rw[if_neg FE]at hz;obtain⟨kv,k1,k2⟩:=g6.get i z hz;rw[aNe,aLp]at k1;obtain⟨en,k3,rfl⟩:=k1;rw[aLC]at k3;rw[if_neg FE,k3];exact⟨en.val,rfl,R.ext J6 _ _ _ _ (dZ.le_refl _) k2⟩)
   refine⟨_,?_,ι,dZ.le_refl _,by rw[mN hb];exact U.1,by rw[mN hb];exact U.2,by simp[aX,undef,R,Rs]⟩;simp only[Instr.mapUpdate,Sem.run_bind,hu,Result.andThen_ok,sk g2,Z0,q1,s1];exact yO ⟨_,by rw[s3];exact g2,fun _ _ _ q=>by cases q⟩
 ·
  rename_i WA hf;have Z0:=n8 (w:=w) V false 20 20 10000 kt k vk (by omega) Sd hk WA;cases h;obtain⟨r',q1,q2⟩:=sO V Wh hk g5 g6 hf;cases r' with
  |some p=>exact q2.elim
  |none=>
   have hO:=o4 (w:=w) (w1:=w) (o:=.map (es.push {key:=vk,val:=vx,born:=clock}) (clock+1)) rfl rfl rfl rfl g2;have Ey:nw (.map es clock) (.map (es.push {key:=vk,val:=vx,born:=clock}) (clock+1)):=fun _ _ _ q=>by cases q
   have J6:=hO.ext (L:=Live Lo ι H) (L':=Live Lo ι H) g2 Ey tW (fun _ h=>h);have U:=S.update (blk':=.map .live (ks++[k]) (vs++[x])) hb rfl rfl h1 g2 Ey hO (by
    simp only[jF];refine⟨_,_,rfl,?_,?_,fun _=>Ze.push (g7) _ _⟩
    ·simp only[aNh,aNl,aNf,aNr];exact(Rs.ext J6 _ _ _ _ (dZ.le_refl _) g5).append (by simp only[Rs];exact⟨_,_,rfl,R.ext J6 _ _ _ _ (dZ.le_refl _) hk,rfl⟩)
    ·simp only[aNh,aNl,aNf,aNr];exact(Rs.ext J6 _ _ _ _ (dZ.le_refl _) g6).append (by simp only[Rs];exact⟨_,_,rfl,R.ext J6 _ _ _ _ (dZ.le_refl _) hx,rfl⟩))
   refine⟨_,?_,ι,dZ.le_refl _,by rw[mN hb];exact U.1,by rw[mN hb];exact U.2,by simp[aX,undef,R,Rs]⟩;simp only[Instr.mapUpdate,Sem.run_bind,hu,Result.andThen_ok,sk g2,Z0,q1];exact yO hnc
 ·cases h
theorem Ch(V:Valid E P)(S:iW E Lo w0 ι H w){t aM:Nat}(hf:pI ι H aM){kt et:Nat}{i:yT}(hi:E.ty t=some i)(fX:i.cS=.map kt et)
  {r:Option Value} (hr:r=none∨∃k n,r=some (.int k n)):
  ∃cv w',(Instr.makeMap t r).run P w=.ok cv w'/\iS E Lo w0 ι H w (.iL aM) (.bM [(aM,.map .live [] [])]) cv w':=by
 have hu:=bg V hi w;rw[fX]at hu;have N:=Hl S hf (eP:=.map .live [] []) rfl (o:=.map #[] 0) (w1:=w) rfl rfl rfl rfl (fun ι w L=>by simp only[jF];exact⟨#[],0,rfl,by simp[Rs],by simp[Rs],fun _=>⟨by simp,by simp⟩⟩);refine⟨.map (some w.heap.size),w.alloc (.map #[] 0),?_,_,N.1,N.2.1,N.2.2.1,?_⟩
 ·rcases hr with rfl|⟨k,n,rfl⟩
  ·simp[Instr.makeMap]
  ·simp[Instr.makeMap,hu,asInt,asIntOf]
 ·simp only[R];exact⟨_,_,N.2.2.2,rfl⟩
theorem S9(V:Valid E P)(S:iW E Lo w0 ι H w){t aM:Nat}(hf:pI ι H aM){i:yT}(hi:E.ty t=some i)(fX:i.cS=.string){z:List UInt8}:
  ∃cv w',(Instr.range t (.string ⟨z.toArray⟩)).run P w=.ok cv w'/\iS E Lo w0 ι H w (.b6 aM 0) (.bM [(aM,.kF z 0)]) cv w':=by
 have hu:=bg V hi w;rw[fX]at hu;have N:=Hl S hf (eP:=.kF z 0) rfl (o:=.stringIter ⟨z.toArray⟩ 0) (w1:=w) rfl rfl rfl rfl (fun ι w L=>by simp[jF]);refine⟨.pointer (some ⟨w.heap.size,0,none⟩),w.alloc (.stringIter ⟨z.toArray⟩ 0),?_,_,N.1,N.2.1,N.2.2.1,?_⟩
 ·simp[Instr.range,hu]
 ·simp only[R];exact⟨_,_,N.2.2.2,rfl⟩
theorem Xb(S:iW E Lo w0 ι H w){i pos:Nat}{z:List UInt8}{vp:Value}(hb:H[i]?=some (.kF z pos))(hp:R ι w (Live Lo ι H) (.b6 i 0) vp)(ty:Nat):
  (pos<z.length->∃w',(Instr.next vp true ty).run P w=.ok (.tuple #[.bool true,.int .i64 pos,.int .i32 (Utf8.decode ⟨z.toArray⟩ pos).1]) w'/\
   iS E Lo w0 ι H w (.tuple [.bool true,.int .i64 pos,.int .i32 (Utf8.decode ⟨z.toArray⟩ pos).1]) (.bM [(i,.kF z (pos+(Utf8.decode ⟨z.toArray⟩ pos).2))])
    (.tuple #[.bool true,.int .i64 pos,.int .i32 (Utf8.decode ⟨z.toArray⟩ pos).1]) w')/\
  (¬pos<z.length->(Instr.next vp true ty).run P w=.ok (.tuple #[.bool false]) w):=by
 simp only[R]at hp;obtain⟨cb,co,h1,rfl⟩:=hp;obtain⟨NK,co',o,g1,g2,g3,g4,_⟩:=S.obj i _ hb (by simp[cG.st]);rw[h1]at g1;cases g1
 simp only[jF]at g3;obtain⟨rfl,rfl⟩:=g3;have uL:(getObj cb).run P w=.ok (.stringIter ⟨z.toArray⟩ pos) w:=by simp[getObj,Sem.run,g2]
 have yf:ByteArray.size ⟨z.toArray⟩=z.length:=by simp[ByteArray.size]
 refine⟨fun gO=>?_,fun gO=>?_⟩
 ·have hO:=o4 (w:=w) (w1:=w) (o:=.stringIter ⟨z.toArray⟩ (pos+(Utf8.decode ⟨z.toArray⟩ pos).2)) rfl rfl rfl rfl g2;have Ey:nw (.stringIter ⟨z.toArray⟩ pos) (.stringIter ⟨z.toArray⟩ (pos+(Utf8.decode ⟨z.toArray⟩ pos).2)):=fun _ _ _ q=>by cases q
  have U:=S.update (blk':=.kF z (pos+(Utf8.decode ⟨z.toArray⟩ pos).2)) hb rfl rfl h1 g2 Ey hO (by simp[jF]);refine⟨_,?_,ι,dZ.le_refl _,by rw[mN hb];exact U.1,by rw[mN hb];exact U.2,by simp[R,Rs]⟩;have oK:=yO (P:=P) (w:=w) (r:=cb) (o:=.stringIter ⟨z.toArray⟩ (pos+(Utf8.decode ⟨z.toArray⟩ pos).2)) ⟨_,g2,fun _ _ _ q=>by cases q⟩;simp only[Instr.next,Nat.add_zero,Sem.run_bind,uL,Result.andThen_ok,yf,gO,if_true,oK,Sem.run_pure,goInt]
 ·simp only[Instr.next,Nat.add_zero,Sem.run_bind,uL,Result.andThen_ok,yf,gO,if_false,Sem.run_pure]
theorem DI(V:Valid E P)(S:iW E Lo w0 ι H w){t e aM len:Nat}(hf:pI ι H aM){i ei:yT}(hi:E.ty t=some i)(fX:i.cS=.slice e)(l9:E.ty e=some ei)
  {z cs:List AV} (hz:ei.zero=some z) {ps:List (Nat×AV)} {vps:Array (Nat×Value)} (hps:ZH ι w (Live Lo ι H) ps vps.toList) (yf:z.length=ei.size) (K4:0<ei.size)
  (aGt:len*ei.size<=16777216) (h:hZ (fun i=>some (i*ei.size,ei.size)) (iG z len) ps=some cs):
  ∃cv w',(Instr.buildSlice t len vps).run P w=.ok cv w'/\iS E Lo w0 ι H w (.aI aM 0 len ei.size len) (.bM [(aM,.cells .live cs)]) cv w':=by
 have hu:=bg V hi w;rw[fX]at hu;obtain⟨zv,z1,z2,z3,_,_⟩:=Ay V l9 hz ι w (Live Lo ι H);have wG:Rs ι w (Live Lo ι H) (iG z len) ((Array.range (len*ei.size)).map (fun i=>(if len*ei.size=0 then #[]else zv.cells)[i%(if len*ei.size=0 then(#[]:Array Value)else zv.cells).size]!)).toList:=by
  by_cases h0:len*ei.size=0
  ·have M0:len=0:=by
    rcases Nat.mul_eq_zero.1 h0 with q|q
    ·exact q
    ·omega
   subst M0;simp[iG,Rs]
  ·simp only[h0,if_false]
   have:=XF z2 (by omega) len
   rw[yf]at this;exact this
 obtain⟨res,r1,r2⟩:=zF hps wG h;have hlen:∀(l:List (Nat×AV)) (cs out:List AV),hZ (fun i=>some (i*ei.size,ei.size)) cs l=some out->out.length=cs.length:=by
  intro l;induction l with
  |nil=>intro cs out h;simp[hZ]at h;rw[h]
  |cons p l ih=>
   intro cs out h;obtain⟨i,x⟩:=p;simp only[hZ]at h;split at h
   ·cases h
   ·rename_i hc;simp only[ne_eq,aMi,decide_eq_true_eq,not_or,Decidable.not_not,aNv]at hc;rw[ih _ _ h]
    simp
    omega
 have iE:cs.length=len*ei.size:=by rw[hlen _ _ _ h,Aj,yf]
 have hrs:res.size=cs.length:=by have:=r2.length;simpa using this
 have tT:j6 ι w (Live Lo ι H) res 0 cs:=r2.at (fun i v hv=>by rw[aLC]at hv;rw[aMg];exact hv);have N:=rh S hf (e:=e) (f:=(0,0)) (w1:=w) rfl rfl rfl rfl tT (fun k _ hk=>absurd hk.2 (Nat.not_lt_zero _));refine⟨.slice (some ⟨w.heap.size,0,none⟩) len len,w.alloc (.cells res e (0,0)),?_,_,N.1,N.2.1,N.2.2.1,?_⟩
 ·have hl:¬(16777216<len*ei.size):=by omega
  have h24:(2:Nat)^24=16777216:=by decide
  by_cases h0:len*ei.size=0
  ·simp only[h0,if_true]at r1;have Ba:Array.range 0=#[]:=rfl;rw[Ba]at r1;simp only[Array.map_empty]at r1;simp only[Instr.buildSlice,Sem.run_bind,hu,Result.andThen_ok,cU V l9 w,h24,gt_iff_lt,h0,if_true,newRow];rw[if_neg (by omega)];simp[Ba,r1]
  ·simp only[h0,if_false]at r1;simp only[Instr.buildSlice,Sem.run_bind,hu,Result.andThen_ok,cU V l9 w,h24,gt_iff_lt,hl,if_false,h0,Sem.run_pure,z1,r1,newRow,run_newObj];rfl
 ·simp only[R];exact⟨w.heap.size,0,len,res,e,(0,0),N.2.2.2.2,rfl,aLr _,aLr _,N.2.2.2.1,by rw[hrs,iE];omega⟩
end
section
variable{E:Env}{P:Program}{ι:dZ}{w:World}{L:Nat->Prop}{ts:List AV}{a:Act}{Lo:Nat->Prop}{w0:World}{H:Hp}
theorem RO(V:Valid E P){s d:Nat}{x av:AV}{vx:Value}(hx:R ι w L x vx)(h:GH E s d x=some av):∃cv,(convert s d vx).run P w=.ok cv w/\R ι w L av cv:=by
 unfold GH at h;split at h
 ·rename_i si k _ _ _ _ _ k' n h1 h2;have u1:=bg V h1 w;have u2:=bg V h2 w;cases h;simp only[R]at hx;subst hx
  refine⟨.int k (k.wrap n),?_,by simp[R,aV]⟩;unfold convert;simp only[Sem.run_bind,u1,u2,Result.andThen_ok];cases si.cS<;>simp[Conv.intToInt]
 ·rename_i si _ _ _ _ _ z h1 h2;have u1:=bg V h1 w;have u2:=bg V h2 w;cases h;simp only[R]at hx;subst hx
  refine⟨.string ⟨z.toArray⟩,?_,by simp[R]⟩;unfold convert;simp only[Sem.run_bind,u1,u2,Result.andThen_ok];cases si.cS<;>simp
 ·cases h
theorem MC(V:Valid E P)(S:iW E Lo w0 ι H w){s d e aM:Nat}{si di ei:yT}(h1:E.ty s=some si)(h2:E.ty d=some di)(h3:E.ty e=some ei)(u1:si.cS=.string)
  (u2:di.cS=.slice e) (u3:ei.cS=.int .u8) (hf:pI ι H aM) {z:List UInt8}:
  ∃cv w',(convert s d (.string ⟨z.toArray⟩)).run P w=.ok cv w'/\
   iS E Lo w0 ι H w (.aI aM 0 z.length 1 z.length) (.bM [(aM,.cells .live (z.map fun c=>.int .u8 c.toNat))]) cv w':=by
 have run:=run_bytes_of_string (P:=P) w s d e ⟨z.toArray⟩ (u1▸(V.ty s si h1).cS) (u2▸(V.ty d di h2).cS) (u3▸(V.ty e ei h3).cS);have yf:ByteArray.size ⟨z.toArray⟩=z.length:=by simp[ByteArray.size]
 have F5:=grownCap_ge w z.length 0 e;rw[yf]at run;have pS:(bytesRow ⟨z.toArray⟩ (grownCap w z.length 0 e)).size=grownCap w z.length 0 e:=by simp[bytesRow,yf];omega
 have tT:j6 ι w (Live Lo ι H) (bytesRow ⟨z.toArray⟩ (grownCap w z.length 0 e)) 0 (z.map fun c=>AV.int .u8 c.toNat):=j6.jI fun i x hx=>by
  simp only[aNe,aLp]at hx;obtain⟨c,hc,rfl⟩:=hx;have gO:i<z.length:=(List.getElem?_eq_some_iff.1 hc).1;refine⟨.int .u8 c.toNat,?_,by simp[R]⟩;rw[aMg];unfold bytesRow;rw[Array.getElem?_append_left (by simpa using gO)];simp[hc]
 have N:=rh S hf (e:=e) (f:=((bytesRow ⟨z.toArray⟩ (grownCap w z.length 0 e)).size,(bytesRow ⟨z.toArray⟩ (grownCap w z.length 0 e)).size+1)) (w1:=w.drew) rfl rfl rfl rfl tT (fun k hk q=>by omega);refine⟨_,_,run,_,N.1,N.2.1,N.2.2.1,?_⟩;simp only[R];exact⟨w.heap.size,0,grownCap w z.length 0 e,_,e,_,N.2.2.2.2,rfl,aLr _,F5,N.2.2.2.1,by rw[pS];omega⟩
theorem BN:∀{cs:List AV} {b:List UInt8},AQ cs=some b->∃ns:List Int,cs=ns.map (AV.int .u8)/\b=ns.map (fun n=>UInt8.ofNat n.toNat)
 |[],b,h=>by simp[AQ]at h;subst h;exact⟨[],rfl,rfl⟩
 |c::cs,b,h=>by
  unfold AQ at h;split at h
  ·rename_i hc;cases hc
  ·rename_i n tL hc;cases hc;rw[aLp]at h;obtain⟨b',h1,rfl⟩:=h;obtain⟨ns,rfl,rfl⟩:=BN h1;exact⟨n::ns,rfl,rfl⟩
  ·cases h
theorem foldl_push(ns:List Int):∀(r:ByteArray),ns.foldl (fun r n=>r.push (UInt8.ofNat n.toNat)) r=⟨r.data++(ns.map (fun n=>UInt8.ofNat n.toNat)).toArray⟩:=by
 induction ns with
 |nil=>intro r;simp
 |cons n ns ih=>
  intro r;rw[aNm,ih];congr 1;apply Array.ext';simp[ByteArray.push]
theorem Tz(V:Valid E P)(S:iW E Lo w0 ι H w){s d e:Nat}{si di ei:yT}(h1:E.ty s=some si)(h2:E.ty d=some di)(h3:E.ty e=some ei)(u1:si.cS=.slice e)
  (u2:di.cS=.string) (u3:ei.cS=.int .u8) {x:AV} {vx:Value} (hx:R ι w (Live Lo ι H) x vx) {cs:List AV} (hc:kf H 1 x=some cs) {b:List UInt8} (hb:AQ cs=some b):
  ∃cv,(convert s d vx).run P w=.ok cv w/\R ι w (Live Lo ι H) (.str b) cv:=by
 obtain⟨ns,hns,rfl⟩:=BN hb;have hl:∃n,pV x=some n:=by
  unfold kf at hc;split at hc
  ·exact⟨_,rfl⟩
  ·exact⟨_,rfl⟩
  ·exact⟨_,rfl⟩
  ·exact⟨_,rfl⟩
  ·cases hc
 obtain⟨n,hl⟩:=hl;have tY:sJ H 1 x=some cs:=by
  unfold sJ;cases x<;>first|exact hc|(exfalso;revert hc;simp[kf];done)
 obtain⟨news,x1,x2,x3,x4⟩:=xY (P:=P) S hx hl tY;subst hns;have hn:news.toList=ns.map (Value.int .u8):=by
  clear x4 x1 x2 hc hb tY hl
  revert x3
  generalize news.toList=l;induction ns generalizing l with
  |nil=>intro h;simpa[Rs]using h
  |cons n ns ih=>
   intro h;simp only[aNf,Rs]at h;obtain⟨y,ys,rfl,h2,h3⟩:=h;simp only[R]at h2;rw[h2,ih _ h3,aNf]
 have J3:news.size=n:=by
  have:=x3.length
  simp only[aNo]at this;rw[this,x2,Nat.mul_one]
 have hx4:=x4 n (aLr _);rw[Nat.mul_one,<-J3,Array.extract_size]at hx4;have hna:news=(ns.map (Value.int .u8)).toArray:=by rw[<-hn]
 rw[hna]at hx4;have fin:∀a l c,vx=.slice (some a) l c->l=n->∃cv,(convert s d vx).run P w=.ok cv w/\R ι w (Live Lo ι H) (.str (ns.map (fun n=>UInt8.ofNat n.toNat))) cv:=by
  intro a l c hv AA;subst hv AA;have jN:(loadCells a l).run P w=.ok (ns.map (Value.int .u8)).toArray w:=by rw[<-hx4,<-hna,J3];simp[Builtin.firstCells]
  refine⟨_,(run_convert_bytes_string w s d e _ _ _ (u1▸(V.ty s si h1).cS) (u3▸(V.ty e ei h3).cS) (u2▸(V.ty d di h2).cS)).trans (run_bytesToString w a l c ns jN),?_⟩;simp only[R];congr 1;rw[foldl_push]
  simp
 unfold kf at hc;split at hc
 ·simp only[R]at hx;subst hx
  have:ns=[]:=by simpa using hc
  subst this;have C6:(Conv.bytesToString (.slice none 0 0)).run P w=.ok (.string ByteArray.empty) w:=rfl;exact⟨.string ByteArray.empty,(run_convert_bytes_string w s d e none 0 0 (u1▸(V.ty s si h1).cS) (u3▸(V.ty e ei h3).cS) (u2▸(V.ty d di h2).cS)).trans C6,by simp only[R];rfl⟩
 ·simp only[R]at hx;obtain⟨ad,cap,rfl⟩:=hx
  exact fin _ _ _ rfl (by simpa[pV]using hl)
 ·simp only[R]at hx;obtain⟨cb,o,cap,c,e,f,rfl,_⟩:=hx;exact fin _ _ _ rfl (by simpa[pV]using hl)
 ·simp only[R]at hx;obtain⟨cb,co,cap,c,e',f,g1,rfl,_⟩:=hx;exact fin _ _ _ rfl (by simpa[pV]using hl)
 ·cases hc
theorem OR(V:Valid E P)(S:iW E Lo w0 ι H w){t ty:Nat}{eg:Array Nat}{args:Array Value}(ha:eg[0]?=some t){x:AV}{vx:Value}(hg:args[0]?=some vx)
  (hx:R ι w (Live Lo ι H) x vx) {av:AV} (h:sf E H t x=some av):
  ∃cv,(Builtin.len_ eg ty args).run P w=.ok cv w/\R ι w (Live Lo ι H) av cv:=by
 unfold sf at h;unfold Builtin.len_;simp only[ha,hg];split at h
 ·rename_i s hi;have hu:=bg V hi w;cases h;simp only[R]at hx;subst hx
  exact⟨.int .i64 s.length,by simp only[Sem.run_bind,hu,Result.andThen_ok,Sem.run_pure];simp[goInt,ByteArray.size],by simp[R]⟩
 ·rename_i n el _ _ _ _ _ hi;have hu:=bg V hi w;cases h;refine⟨.int .i64 n,?_,by simp[R]⟩;simp only[Sem.run_bind,hu,Result.andThen_ok];cases vx<;>rfl
 ·rename_i hi;have hu:=bg V hi w;cases h;simp only[R]at hx;subst hx
  exact⟨.int .i64 0,by simp only[Sem.run_bind,hu,Result.andThen_ok,Sem.run_pure];rfl,by simp[R]⟩
 ·rename_i hi;have hu:=bg V hi w;cases h;simp only[R]at hx;obtain⟨ad,cap,rfl⟩:=hx
  exact⟨.int .i64 0,by simp only[Sem.run_bind,hu,Result.andThen_ok,Sem.run_pure];rfl,by simp[R]⟩
 ·rename_i hi;have hu:=bg V hi w;cases h;simp only[R]at hx
  obtain⟨cb,o,cap,c,e,f,rfl,_⟩:=hx;exact⟨.int .i64 _,by simp only[Sem.run_bind,hu,Result.andThen_ok,Sem.run_pure];rfl,by simp[R]⟩
 ·rename_i hi;have hu:=bg V hi w;cases h;simp only[R]at hx
  obtain⟨cb,co,cap,c,e,f,h1,rfl,_⟩:=hx;exact⟨.int .i64 _,by simp only[Sem.run_bind,hu,Result.andThen_ok,Sem.run_pure];rfl,by simp[R]⟩
 ·rename_i hi;have hu:=bg V hi w;rw[aLp]at h;obtain⟨⟨ks,vs⟩,h1,rfl⟩:=h;rcases W0 S hx h1 with⟨rfl,rfl,_⟩|⟨cb,es,clock,rfl,h2,h3,h4⟩
  ·exact⟨.int .i64 0,by simp only[Sem.run_bind,hu,Result.andThen_ok,Sem.run_pure];rfl,by simp[R]⟩
  ·refine⟨.int .i64 es.size,by simp only[Sem.run_bind,hu,Result.andThen_ok,sk h2,Sem.run_pure];rfl,?_⟩
   have:=h3.length
   simp at this;simp[R,this]
 ·cases h
theorem SE{x y z:AV}{vx vy:Value}(hx:R ι w L x vx)(hy:R ι w L y vy)(h:QU x y=some z):
  ∃vz,(Builtin.max2 vx vy).run P w=.ok vz w/\R ι w L z vz:=by
 unfold QU at h;split at h
 ·split at h
  ·rename_i hk;subst hk
   cases h;simp only[R]at hx hy;subst hx hy
   exact⟨_,rfl,by simp only[R]⟩
  ·cases h
 ·cases h
theorem SG{x y z:AV}{vx vy:Value}(hx:R ι w L x vx)(hy:R ι w L y vy)(h:QV x y=some z):
  ∃vz,(Builtin.min2 vx vy).run P w=.ok vz w/\R ι w L z vz:=by
 unfold QV at h;split at h
 ·split at h
  ·rename_i hk;subst hk
   cases h;simp only[R]at hx hy;subst hx hy
   exact⟨_,rfl,by simp only[R]⟩
  ·cases h
 ·cases h
theorem A0{f:AV->AV->Option AV}{g:Value->Value->Sem Value}
  (hf:∀{x y z:AV} {vx vy:Value},R ι w L x vx->R ι w L y vy->f x y=some z->∃vz,(g vx vy).run P w=.ok vz w/\R ι w L z vz):
  ∀{xs:List AV} {vs:List Value} {x z:AV} {vx:Value},R ι w L x vx->Rs ι w L xs vs->B0 f x xs=some z->∃vz,(vs.foldlM g vx).run P w=.ok vz w/\R ι w L z vz
 |[],vs,x,z,vx,hx,WI,h=>by
  simp only[Rs]at WI;subst WI
  simp only[B0,aLv.injEq]at h;subst h
  exact⟨_,rfl,hx⟩
 |y::ys,vs,x,z,vx,hx,WI,h=>by
  simp only[Rs]at WI;obtain⟨v,FL,rfl,h1,h2⟩:=WI;unfold B0 at h;split at h
  ·rename_i u hu;obtain⟨vu,g1,g2⟩:=hf hx h1 hu;obtain⟨vz,g3,g4⟩:=A0 hf g2 h2 h;exact⟨vz,by simp only[List.foldlM_cons,Sem.run_bind,g1,Result.andThen_ok,g3],g4⟩
  ·cases h
theorem NJ(V:Valid E P){t e ty:Nat}{eg:Array Nat}{args:Array Value}(ha:eg[0]?=some t){vx:Value}(hg:args[0]?=some vx)(hx:R ι w L .aH vx){i:yT}
  (hi:E.ty t=some i) (fX:i.cS=.slice e):
  ∃cv,(Builtin.cap_ eg ty args).run P w=.ok cv w/\R ι w L (.int .i64 0) cv:=by
 have hu:=bg V hi w;rw[fX]at hu;simp only[R]at hx;subst hx
 unfold Builtin.cap_;simp only[ha,hg];exact⟨.int .i64 0,by simp only[Sem.run_bind,hu,Result.andThen_ok,Sem.run_pure];rfl,by simp[R]⟩
theorem RI(V:Valid E P){t:Nat}{pl:Nat->Option (Nat×Nat)}{z cs:List AV}{ps:List (Nat×AV)}{vps:Array (Nat×Value)}(h1:gQ E t=some pl)
  (hz:(E.ty t).bind (·.zero)=some z) (hps:ZH ι w L ps vps.toList) (h:hZ pl z ps=some cs):
  ∃cv,(Instr.build t vps).run P w=.ok cv w/\R ι w L (.agg cs) cv:=by
 rw[Option.bind_eq_some_iff]at hz;obtain⟨i,hi,hz⟩:=hz;obtain⟨zv,z1,z2,z3,_,_⟩:=Ay V hi hz ι w L;have hu:=bg V hi w;unfold gQ at h1;rw[hi]at h1;split at h1
 ·rename_i fields sz ag by_ ze _ hh;cases hh;split at h1
  case isFalse=>cases h1
  rename_i tf;simp only[aLv.injEq]at h1;have hm:∀(l:List Field),(l.all fun f=>(E.ty f.type).isSome)=true->
    (l.mapM (m:=Sem) fun f=>do pure (f.offset,<-sizeOf f.type)).run P w=.ok (l.map fun f=>(f.offset,((E.ty f.type).map (·.size)).getD 0)) w:=by
   intro l;induction l with
   |nil=>intro _;simp
   |cons f l ih=>
    intro hl;simp only[List.all_cons,aMq]at hl;obtain⟨fi,oJ⟩:=aNk.1 hl.1;simp only[List.mapM_cons,Sem.run_bind,cU V oJ w,Result.andThen_ok,Sem.run_pure,ih hl.2,aNf,oJ,aNj,aNt]
  have hma:(fields.mapM (m:=Sem) fun f=>do pure (f.offset,<-sizeOf f.type)).run P w=.ok (fields.map fun f=>(f.offset,((E.ty f.type).map (·.size)).getD 0)) w:=by
   rw[Array.mapM_eq_mapM_toList,map_eq_pure_bind];simp only[Sem.run_bind,hm fields.toList tf,Result.andThen_ok,Sem.run_pure];congr 1;apply Array.ext'
   simp
  have uy:pl=(fun j=>(fields.map fun f=>(f.offset,((E.ty f.type).map (·.size)).getD 0))[j]?):=by
   subst h1;funext j;rw[Array.getElem?_map];cases hf:fields[j]? with
   |none=>rfl
   |some f=>
    have I3:f∈fields.toList:=by
     have:=Array.mem_of_getElem? hf
     exact Array.mem_toList_iff.2 this
    have:=(List.all_eq_true.1 tf) f I3
    obtain⟨fi,oJ⟩:=aNk.1 this;simp[oJ]
  obtain⟨res,r1,r2⟩:=zF hps z2 h;rw[uy]at r1;refine⟨.agg res,?_,by simp only[R];exact⟨_,rfl,r2⟩⟩;unfold Instr.build;simp only[Sem.run_bind,z1,Result.andThen_ok,hu,hma,r1,Sem.run_pure]
 ·rename_i n elem sz ag by_ ze _ hh;cases hh;rw[aLp]at h1;obtain⟨ei,l9,rfl⟩:=h1;obtain⟨res,r1,r2⟩:=zF hps z2 h;refine⟨.agg res,?_,by simp only[R];exact⟨_,rfl,r2⟩⟩;unfold Instr.build;simp only[Sem.run_bind,z1,Result.andThen_ok,hu,cU V l9 w,r1,Sem.run_pure]
 ·cases h1
end
section
variable{E:Env}{P:Program}{ι:dZ}{w:World}{L:Nat->Prop}{ts:List AV}{a:Act}{Lo:Nat->Prop}{w0:World}{H:Hp}
theorem DF(V:Valid E P)(S:iW E Lo w0 ι H w){aM t u ty:Nat}(hf:pI ι H aM){eg:Array Nat}{args:Array Value}{vs vx:Value}{ui:yT}{k:IntKind}
  (MX:eg[0]?=some t) (Oe:eg[1]?=some u) (J0:args[0]?=some vs) (C9:args[1]?=some vx) (hu:E.ty u=some ui)
  (hq:ui.cS=.int k) {s x v:AV} {st:List (Nat×cG)}
  (hs:R ι w (Live Lo ι H) s vs) (hx:R ι w (Live Lo ι H) x vx) (h:nz E aM t s x=some (v,st)):
  ∃cv w',(Builtin.append_ eg ty args).run P w=.ok cv w'/\iS E Lo w0 ι H w v (.bM st) cv w':=by
 unfold nz at h;split at h
 case h_2=>cases h
 rename_i e _ _ _ _ _ k' n hi;have fX:(underlying t).run P w=.ok (.slice e) w:=bg V hi w;have M7:(underlying u).run P w=.ok ui.cS w:=bg V hu w;split at h
 case h_2=>cases h
 rename_i ei l9;split at h
 case h_2=>cases h
 rename_i zc hzc;split at h
 case isFalse=>cases h
 rename_i hc;obtain⟨h0,h63,hb,hzl,yf,hbz⟩:=hc;cases h;simp only[R]at hs hx;subst hs hx;obtain⟨z,hzs,hz⟩:=MS V l9 hzc;obtain⟨zv,z1,z2,z3,_,_⟩:=Ay V l9 hzc ι w (Live Lo ι H);have hzz:zv.cells=z:=by obtain⟨zv',g1,g2⟩:=hz w;rw[z1]at g1;cases g1;exact g2
 have Ew:0<n.toNat:=by omega
 have hold:(Builtin.firstCells ei.size 0 (.slice none 0 0)).run P w.drew=.ok #[] w.drew:=by simp[Builtin.firstCells]
 have oc:=DE (ty:=ty) V MX Oe J0 C9 fX l9 M7 hq (by omega) h63 hb (by have:=Nat.mul_pos Ew yf;omega) (by omega) (by rw[aMg];exact hb) (by omega) (by omega) hz hold;rw[aMg]at oc;have hr:Rs ι w (Live Lo ι H) (iG zc n.toNat) (Builtin.zeroCells z n.toNat).toList:=by
  rw[<-hzz]
  have:=XF z2 (by omega) n.toNat
  unfold Builtin.zeroCells;have e1:zv.cells.size=zc.length:=by have:=z2.length;simpa using this
  rw[e1];rw[e1]at this;exact this
 have G:=A5 S hf (e:=e) (rest:=Builtin.zeroCells z (grownCap w n.toNat 0 e-n.toNat)) hr (by rw[Aj,hzl]) (grownCap_ge w n.toNat 0 e) (by rw[sB,hzs]);exact⟨_,_,by rw[oc];simp,G⟩
theorem iS.Xh(S:iW E Lo w0 ι H w){v:AV}{r:Sem Value}(h:∃cv,r.run P w=.ok cv w/\R ι w (Live Lo ι H) v cv):
  ∃cv w',r.run P w=.ok cv w'/\iS E Lo w0 ι H w v (.bM []) cv w':=by
 obtain⟨cv,h1,h2⟩:=h;exact⟨cv,w,h1,iS.pure S h2⟩
theorem ID(V:Valid E P)(S:iW E Lo w0 ι H w){aM ty:Nat}(hf:pI ι H aM){b:Builtin}{eg:Array Nat}{args:Array Value}{a_:List AV}(ha:Rs ι w (Live Lo ι H) a_ args.toList)
  {cs:Array Bool} {v:AV} {st:List (Nat×cG)} (h:aZ E H aM b eg.toList a_=some (v,st)):
  ∃cv w',(builtin b eg ty cs args).run P w=.ok (.value cv) w'/\iS E Lo w0 ι H w v (.bM st) cv w':=by
 have lift:∀{r:Sem Value},(∃cv w',r.run P w=.ok cv w'/\iS E Lo w0 ι H w v (.bM st) cv w')->
   ∃cv w',((do pure (.value (<-r)):Sem Next)).run P w=.ok (.value cv) w'/\iS E Lo w0 ι H w v (.bM st) cv w':=by
  intro r ⟨cv,w',h1,h2⟩;exact⟨cv,w',by simp only[Sem.run_bind,h1,Result.andThen_ok,Sem.run_pure],h2⟩
 have uL:∀{l:List Nat} {i t:Nat},l[i]?=some t->eg.toList=l->eg[i]?=some t:=by intro l i t h1 h2;rw[<-aLC,h2,h1]
 have wF:∀{l:List Value} {i:Nat} {x:Value},l[i]?=some x->args.toList=l->args[i]?=some x:=by intro l i x h1 h2;rw[<-aLC,h2,h1]
 unfold aZ at h;split at h
 ·rename_i t u tr s x xr vH;simp only[Rs]at ha;obtain⟨vs,ys,e1,hs,vx,zs,rfl,hx,_⟩:=ha;have a0:=uL (i:=0) rfl vH;have a1:=uL (i:=1) rfl vH;have g0:=wF (i:=0) rfl e1;have g1:=wF (i:=1) rfl e1;split at h
  ·rename_i k hu;exact lift (DF V S hf a0 a1 g0 g1 hu rfl hs hx h)
  ·rename_i ui hq hu;refine lift (Ny V S hf a0 a1 g0 g1 hu ?_ hs hx h);intro k hk;obtain⟨cS,b1,b2,b3,b4,b5⟩:=ui;exact hq _ _ _ _ _ _ (by rw[<-hk])
  ·cases h
 ·rename_i t tr d x xr vH;simp only[Rs]at ha;obtain⟨vs,ys,e1,hs,vx,zs,rfl,hx,_⟩:=ha;exact lift (U6 V S (uL (i:=0) rfl vH) (wF (i:=0) rfl e1) (wF (i:=1) rfl e1) hs hx h)
 ·rename_i t tr xr vH;simp only[Rs]at ha;obtain⟨vs,ys,e1,hs,_⟩:=ha;split at h
  ·rename_i e _ _ _ _ _ hi;cases h;exact lift (iS.Xh S (NJ V (uL (i:=0) rfl vH) (wF (i:=0) rfl e1) hs hi rfl))
  ·cases h
 ·rename_i t tr x xr vH;simp only[Rs]at ha;obtain⟨vs,ys,e1,hs,_⟩:=ha;rw[aLp]at h;obtain⟨u,h1,h2⟩:=h;cases h2;exact lift (iS.Xh S (OR V S (uL (i:=0) rfl vH) (wF (i:=0) rfl e1) hs h1))
 ·rename_i x xs;simp only[Rs]at ha;obtain⟨vs,ys,e1,hs,hr⟩:=ha;rw[aLp]at h;obtain⟨u,h1,h2⟩:=h;cases h2;refine lift (iS.Xh S ?_);unfold Builtin.max_;rw[e1];exact A0 (fun a b c=>SE a b c) hs hr h1
 ·rename_i x xs;simp only[Rs]at ha;obtain⟨vs,ys,e1,hs,hr⟩:=ha;rw[aLp]at h;obtain⟨u,h1,h2⟩:=h;cases h2;refine lift (iS.Xh S ?_);unfold Builtin.min_;rw[e1];exact A0 (fun a b c=>SG a b c) hs hr h1
 ·cases h
end
def uE(o:Oper):Bool:=
 match o.op with
 |.call c=>(match c.callee with
  |.value _=>true
  |_=>false)
 |_=>false
section
variable{E:Env}{P:Program}{ι:dZ}{w:World}{L:Nat->Prop}{ts:List AV}{a:Act}{Lo:Nat->Prop}{w0:World}{H:Hp}
theorem Qb:R ι w L aX undef:=by simp only[aX,undef,R];exact⟨#[],rfl,by simp[Rs]⟩
def aga(nx:Next)(cv:Value):Prop:=nx=.value cv∨nx=.skip/\cv=undef
def fe(E:Env)(P:Program)(Lo:Nat->Prop)(w0:World)(ι:dZ)(H:Hp)(w:World)(r:Sem Next)(v:AV)(e:cJ):Prop:=
 ∃nx cv w',r.run P w=.ok nx w'/\aga nx cv/\iS E Lo w0 ι H w v e cv w'
theorem fe.val{r:Sem Value}{v:AV}{e:cJ}(h:∃cv w',r.run P w=.ok cv w'/\iS E Lo w0 ι H w v e cv w'):
  fe E P Lo w0 ι H w (do pure (.value (<-r))) v e:=by
 obtain⟨cv,w',h1,h2⟩:=h;exact⟨.value cv,cv,w',by simp only[Sem.run_bind,h1,Result.andThen_ok,Sem.run_pure],.inl rfl,h2⟩
theorem fe.unit{r:Sem Unit}{e:cJ}(h:∃w',r.run P w=.ok () w'/\iS E Lo w0 ι H w aX e undef w'):
  fe E P Lo w0 ι H w (do r;pure .skip) aX e:=by
 obtain⟨w',h1,h2⟩:=h;exact⟨.skip,undef,w',by simp only[Sem.run_bind,h1,Result.andThen_ok,Sem.run_pure],.inr ⟨rfl,rfl⟩,h2⟩
theorem fe.now(S:iW E Lo w0 ι H w){v:AV}{cv:Value}(h:R ι w (Live Lo ι H) v cv):fe E P Lo w0 ι H w (pure (.value cv)) v (.bM []):=
 ⟨_,cv,w,rfl,.inl rfl,iS.pure S h⟩
theorem fe.uY(S:iW E Lo w0 ι H w){r:Sem Value}{v:AV}(h:∃cv,r.run P w=.ok cv w/\R ι w (Live Lo ι H) v cv):
  fe E P Lo w0 ι H w (do pure (.value (<-r))) v (.bM []):=fe.val (iS.Xh S h)
theorem ab5(V:Valid E P)(S:iW E Lo w0 ι H w){pc:Pc}{ic yc:Ic}{dr:Bool}{aM:Nat}(hf:pI ι H aM)(ht:Rs ι w (Live Lo ι H) ts a.tmps.toList){o:Oper}{v:AV}{e:cJ}
  (hv:uE o=false) (h:eN E pc ic yc dr ts H aM o=some (v,e)):fe E P Lo w0 ι H w (execOp a.eval o) v e:=by
 unfold eN at h;unfold execOp;cases ho:o.op<;>simp only[ho]at h⊢
 case move x=>
  rw[aLp]at h;obtain⟨u,h1,h2⟩:=h;cases h2;exact fe.now S (fH ht h1)
 case assign x=>
  rw[aLp]at h;obtain⟨u,h1,h2⟩:=h;cases h2;exact fe.now S (fH ht h1)
 case pick c x y=>
  split at h
  ·rename_i t hc;rw[aLp]at h;obtain⟨u,h1,h2⟩:=h;cases h2;have KV:=fH ht hc;simp only[R]at KV;have hxy:=fH ht h1;refine⟨.value (if t then a.eval x else a.eval y),_,w,?_,.inl rfl,iS.pure S ?_⟩
   ·rw[KV];simp[asBool]
   ·cases t<;>simpa using hxy
  ·cases h
 case alloc t=>
  rw[aLp]at h;obtain⟨⟨u,l⟩,h1,h2⟩:=h;rw[aLp]at h1;obtain⟨z,h1,h3⟩:=h1;cases h2;cases h3;exact fe.val (Ry V S hf h1)
 case box t x=>
  rw[aLp]at h;obtain⟨⟨u,l⟩,h1,h2⟩:=h;rw[aLp]at h1;obtain⟨z,h1,h3⟩:=h1;cases h2;cases h3;exact fe.val (ZQ S hf (fH ht h1))
 case build t ps=>
  split at h
  case h_2=>cases h
  rename_i pl z vs h1 h2 h3;rw[aLp]at h;obtain⟨u,h4,h5⟩:=h;rw[aLp]at h4;obtain⟨cs,h4,rfl⟩:=h4;cases h5;refine fe.uY S (RI V h1 h2 ?_ h4)
  have:=Vt ht h3
  simpa using this
 case buildSlice t len ps=>
  split at h
  case h_2=>cases h
  rename_i e' _ _ _ _ _ hi;split at h
  case h_2=>cases h
  rename_i ei l9;split at h
  case h_2=>cases h
  rename_i z vs hz hvs;split at h
  case isFalse=>cases h
  rename_i hc;rw[aLp]at h;obtain⟨⟨u,l⟩,h1,h2⟩:=h;rw[aLp]at h1;obtain⟨cs,h1,h3⟩:=h1;cases h2;cases h3;refine fe.val (DI V S hf hi rfl l9 hz ?_ hc.1 hc.2.1 hc.2.2 h1)
  have:=Vt ht hvs
  simpa using this
 case load t x=>
  split at h
  case h_2=>cases h
  rename_i p hp;rw[aLp]at h;obtain⟨u,h1,h2⟩:=h;cases h2;exact fe.uY S (Sz V S (fH ht hp) h1)
 case store t x y=>
  split at h
  case h_2=>cases h
  rename_i p z hp hz;rw[aLp]at h;obtain⟨u,h1,h2⟩:=h;cases h2;exact fe.unit (PM V S (fH ht hp) (fH ht hz) h1)
 case nilCheck x=>
  split at h
  all_goals first|(cases h;done)|skip
  all_goals
   rename_i hx;cases h;have hr:=fH ht hx;have lW:=hr;simp only[R]at hr
  ·obtain⟨cb,co,_,h2⟩:=hr;rw[h2]at lW⊢;exact fe.now S lW
  ·obtain⟨cb,o,c,e,f,h2,_⟩:=hr;rw[h2]at lW⊢;exact fe.now S lW
  ·rw[hr]at lW⊢;exact fe.now S lW
  ·obtain⟨b1,c1,h2,_⟩:=hr;rw[h2]at lW⊢;exact fe.now S lW
  ·obtain⟨cb,co,_,h2⟩:=hr;rw[h2]at lW⊢;exact fe.now S lW
 case binOp op t x y k=>
  split at h
  case h_2=>cases h
  rename_i p z hp hz;rw[aLp]at h;obtain⟨u,h1,h2⟩:=h;cases h2;exact fe.uY S (UF V (fH ht hp) (fH ht hz) h1)
 case unOp op t x=>
  split at h
  case h_2=>cases h
  rename_i p hp;rw[aLp]at h;obtain⟨u,h1,h2⟩:=h;cases h2;exact fe.uY S (ado (fH ht hp) h1)
 case convert s d x=>
  split at h
  ·rename_i z _ _ _ _ _ e' _ _ _ _ _ hx hs hd;split at h
   case h_2=>cases h
   rename_i _ _ _ _ l9;cases h;have hr:=fH ht hx;simp only[R]at hr;rw[hr];exact fe.val (MC V S hs hd l9 rfl rfl rfl hf)
  ·rename_i hx hs hd;split at h
   case h_2=>cases h
   rename_i cs l9 tg;rw[aLp]at h;obtain⟨u,h1,h2⟩:=h;rw[aLp]at h1;obtain⟨b',h1,rfl⟩:=h1;cases h2;exact fe.uY S (Tz V S hs hd l9 rfl rfl rfl (fH ht hx) tg h1)
  ·rename_i x' hx _ _;rw[aLp]at h;obtain⟨u,h1,h2⟩:=h;cases h2;exact fe.uY S (RO V (fH ht hx) h1)
  ·cases h
 case makeInterface t x=>
  split at h
  case h_2=>cases h
  rename_i i hi;split at h
  ·cases h
  ·rename_i hni;rw[aLp]at h;obtain⟨u,h1,h2⟩:=h;rw[aLp]at h1;obtain⟨z,h1,rfl⟩:=h1;cases h2;refine fe.uY S ⟨.iface t (a.eval x),?_,?_⟩
   ·unfold Instr.makeInterface;simp only[Sem.run_bind,bg V hi w,Result.andThen_ok];rfl
   ·simp only[R];exact⟨_,rfl,fH ht h1⟩
 case makeFunc f first cap=>
  cases f<;>try (cases h;done)
  rename_i f;simp only at h;split at h
  case h_2=>cases h
  rename_i a1 c1 h1 h2;cases h;refine fe.uY S ⟨.func (.func f) (first.map a.eval) (cap.map a.eval),rfl,?_⟩;simp only[R];refine⟨_,_,rfl,?_,?_⟩
  ·have:=KH ht h1
   simpa using this
  ·have:=KH ht h2
   simpa using this
 case makeMap t r=>
  split at h
  ·rename_i kt et _ _ _ _ _ hi hr;cases h
   have:=xG ht hr
   simp only[yb]at this;exact fe.val (Ch V S hf hi rfl (.inl this))
  ·rename_i kt et _ _ _ _ _ k n hi hr;cases h
   have:=xG ht hr
   simp only[yb]at this;obtain⟨y,h1,h2⟩:=this;simp only[R]at h2;exact fe.val (Ch V S hf hi rfl (.inr ⟨k,n,by rw[h1,h2]⟩))
  ·cases h
 case makeSlice t l c=>
  split at h
  case h_2=>cases h
  rename_i x y hx hy;rw[aLp]at h;obtain⟨⟨u,l⟩,h1,h2⟩:=h;cases h2;exact fe.val (Ga V S hf (fH ht hx) (fH ht hy) h1)
 case slice t x lo hi mx=>
  split at h
  case h_2=>cases h
  rename_i xa la ha hx hl hh;split at h
  ·rw[aLp]at h;obtain⟨u,h1,h2⟩:=h;cases h2;exact fe.uY S (Gm V S (fH ht hx) (xG ht hl) (xG ht hh) h1)
  ·rw[aLp]at h;obtain⟨u,h1,h2⟩:=h;cases h2;exact fe.uY S (Pz V (fH ht hx) (xG ht hl) (xG ht hh) h1)
 case fieldAddr t x f=>
  split at h
  case h_2=>cases h
  rename_i p hp;rw[aLp]at h;obtain⟨u,h1,h2⟩:=h;cases h2;exact fe.uY S (Ea V (fH ht hp) h1)
 case field t x f=>
  split at h
  case h_2=>cases h
  rename_i p hp;rw[aLp]at h;obtain⟨u,h1,h2⟩:=h;cases h2;exact fe.uY S (N2 V (fH ht hp) h1)
 case indexAddr t x y=>
  split at h
  case h_2=>cases h
  rename_i p z hp hz;rw[aLp]at h;obtain⟨u,h1,h2⟩:=h;cases h2;exact fe.uY S (EB V (fH ht hp) (fH ht hz) h1)
 case index t x y=>
  split at h
  case h_2=>cases h
  rename_i p z hp hz;rw[aLp]at h;obtain⟨u,h1,h2⟩:=h;cases h2;exact fe.uY S (OE V (fH ht hp) (fH ht hz) h1)
 case lookup t x y ok=>
  split at h
  case h_2=>cases h
  rename_i p z hp hz;rw[aLp]at h;obtain⟨u,h1,h2⟩:=h;cases h2;exact fe.uY S (OU V S (fH ht hp) (fH ht hz) h1)
 case mapUpdate t m k x=>
  split at h
  case h_2=>cases h
  rename_i p z y hp hz hy;rw[aLp]at h;obtain⟨u,h1,h2⟩:=h;cases h2;exact fe.unit (yt V S (fH ht hp) (fH ht hz) (fH ht hy) h1)
 case insert t m k x=>
  split at h
  case h_2=>cases h
  rename_i p z y hp hz hy;rw[aLp]at h;obtain⟨u,h1,h2⟩:=h;cases h2;exact fe.unit (yt V S (fH ht hp) (fH ht hz) (fH ht hy) h1)
 case sliceToArrayPointer t x=>
  split at h
  ·rename_i n el _ _ _ _ _ b off len esz kc hi hx;split at h
   ·cases h
   rename_i gO;cases h;have hr:=fH ht hx;simp only[R]at hr;obtain⟨cb,co,cap,c,e',f,h1,h2,h3,h4,h5,h6⟩:=hr;refine fe.uY S ⟨.pointer (some ⟨cb,co+off,none⟩),?_,?_⟩
   ·rw[h2];simp only[Instr.arrayAt,Sem.run_bind,bg V hi w,Result.andThen_ok,gO,if_false,Sem.run_pure]
   ·simp only[R];exact⟨cb,co,h1,rfl⟩
  ·rename_i n el _ _ _ _ _ cs len hi hx;split at h
   ·cases h
   rename_i gO;cases h;have hr:=fH ht hx;simp only[R]at hr;obtain⟨cb,o',cap,c,e',f,h2,h3,h4,h5,h6⟩:=hr;refine fe.uY S ⟨.pointer (some ⟨cb,o',none⟩),?_,?_⟩
   ·rw[h2];simp only[Instr.arrayAt,Sem.run_bind,bg V hi w,Result.andThen_ok,gO,if_false,Sem.run_pure]
   ·simp only[R];exact⟨cb,o',c,e',f,by simp,h4,h5,h6⟩
  ·cases h
 case range t x=>
  split at h
  case h_2=>cases h
  rename_i z hi hx;cases h;have hr:=fH ht hx;simp only[R]at hr;rw[hr];exact fe.val (S9 V S hf hi rfl)
 case next it isS=>
  cases isS<;>try (cases h;done)
  simp only at h;split at h
  case h_2=>cases h
  rename_i i hit;split at h
  case h_2=>cases h
  rename_i z pos hb;obtain⟨n1,n2⟩:=Xb (P:=P) S hb (fH ht hit) o.type;split at h
  ·rename_i gO;cases h;obtain⟨w',g1,g2⟩:=n1 gO;exact fe.val ⟨_,w',g1,g2⟩
  ·rename_i gO;cases h;exact fe.uY S ⟨_,n2 gO,by simp[R,Rs]⟩
 case extract t i=>
  split at h
  case h_2=>cases h
  rename_i vs hx;rw[aLp]at h;obtain⟨u,h1,h2⟩:=h;cases h2;have hr:=fH ht hx;simp only[R]at hr;obtain⟨a_,h3,h4⟩:=hr;obtain⟨y,h5,h6⟩:=h4.get _ _ h1;refine fe.uY S ⟨y,?_,h6⟩;rw[h3];rw[aLC]at h5;simp only[Instr.extract,h5,Sem.run_pure]
 case call c=>
  split at h
  ·rename_i bi hc;split at h
   case h_2=>cases h
   rename_i a_ has;rw[aLp]at h;obtain⟨⟨u,l⟩,h1,h2⟩:=h;cases h2;have hr:Rs ι w (Live Lo ι H) a_ (c.args.map a.eval).toList:=by
    have:=KH ht has
    simpa using this
   obtain⟨cv,w',g1,g2⟩:=ID (ty:=o.type) (cs:=c.args.map fun|.const _=>true|_=>false) V S hf hr h1;refine⟨.value cv,cv,w',?_,.inl rfl,g2⟩;simp only[resolve,hc,Sem.run_bind,Sem.run_pure,Result.andThen_ok,invoke];exact g1
  ·rename_i f hc;simp[uE,ho,hc]at hv
  ·cases h
 all_goals (cases h)
end
section
variable{E:Env}{P:Program}{ι:dZ}{w:World}{L L':Nat->Prop}{Lo:Nat->Prop}{w0:World}{H:Hp}
theorem wh(h:∀c,L' c->L c):Ext w L w L':=⟨aLr _,fun c _ hn=>⟨rfl,fun q=>hn (h c q)⟩,fun _ cs _ f hc=>⟨cs,f,hc,rfl⟩⟩
mutual
theorem Nh(hL:∀c,L' c->L c):∀(av:AV) (v:Value),aN av=true->R ι w L av v->R cE w L' av v
 |.bool _,_,_,h=>by simpa[R]using h
 |.int _ _,_,_,h=>by simpa[R]using h
 |.str _,_,_,h=>by simpa[R]using h
 |.jH,_,_,h=>by simpa[R]using h
 |.b6 _ _,_,p,_=>by simp[aN]at p
 |.eU cs off,v,_,h=>R.ext (wh hL) _ cE _ _ (dZ.le_refl _) (by simpa only[R]using h)
 |.rX _ _,_,_,h=>by simpa[R]using h
 |.aH,_,_,h=>by simpa[R]using h
 |.ef,_,_,h=>by simpa[R]using h
 |.aI _ _ _ _ _,_,p,_=>by simp[aN]at p
 |.aJ cs n,_,_,h=>R.ext (wh hL) _ cE _ _ (dZ.le_refl _) (by simpa only[R]using h)
 |.jW,_,_,h=>by simpa[R]using h
 |.iL _,_,p,_=>by simp[aN]at p
 |.xk ks vs,_,_,h=>R.ext (wh hL) _ cE _ _ (dZ.le_refl _) (by simpa only[R]using h)
 |.jl,_,_,h=>by simpa[R]using h
 |.func f a b,_,p,h=>by
  simp only[aN,aMq]at p;simp only[R]at h⊢;obtain⟨x,y,h1,h2,h3⟩:=h;exact⟨x,y,h1,xp hL _ _ p.1 h2,xp hL _ _ p.2 h3⟩
 |.nilIface,_,_,h=>by simpa[R]using h
 |.iface _ x,_,p,h=>by
  simp only[aN]at p;simp only[R]at h⊢;obtain⟨y,h1,h2⟩:=h;exact⟨y,h1,Nh hL _ _ p h2⟩
 |.agg cs,_,p,h=>by
  simp only[aN]at p;simp only[R]at h⊢;obtain⟨y,h1,h2⟩:=h;exact⟨y,h1,xp hL _ _ p h2⟩
 |.tuple cs,_,p,h=>by
  simp only[aN]at p;simp only[R]at h⊢;obtain⟨y,h1,h2⟩:=h;exact⟨y,h1,xp hL _ _ p h2⟩
 |.yield _,_,p,_=>by simp[aN]at p
theorem xp(hL:∀c,L' c->L c):∀(xs:List AV) (vs:List Value),bE xs=true->Rs ι w L xs vs->Rs cE w L' xs vs
 |[],_,_,h=>by simpa[Rs]using h
 |x::xs,_,p,h=>by
  simp only[bE,aMq]at p;simp only[Rs]at h⊢;obtain⟨y,ys,h1,h2,h3⟩:=h;exact⟨y,ys,h1,Nh hL _ _ p.1 h2,xp hL _ _ p.2 h3⟩
end
theorem Jk{f:AV->Option (AV×List Nat)}{J:Nat->Prop}(hf:∀(x:AV) (v:Value) (r:AV) (bs:List Nat),R ι w L x v->f x=some (r,bs)->(∀b,b∈bs->J b)->R cE w L' r v):
  ∀(xs:List AV) (vs:List Value) (rs:List (AV×List Nat)),Rs ι w L xs vs->dh f xs=some rs->(∀b,b∈rs.flatMap (·.2)->J b)->Rs cE w L' (rs.map (·.1)) vs
 |[],vs,rs,h,hm,_=>by
  simp only[dh,aLv.injEq]at hm;subst hm
  simpa[Rs]using h
 |x::xs,vs,rs,h,hm,hb=>by
  simp only[Rs]at h;obtain⟨y,ys,rfl,h2,h3⟩:=h;unfold dh at hm;split at hm
  ·cases hm
  rename_i r0 Ba;split at hm
  ·cases hm
  rename_i rs0 aib;cases hm;obtain⟨r,bs⟩:=r0;simp only[aNf,Rs];simp only[aNs,aNg]at hb;exact⟨y,ys,rfl,hf _ _ _ _ h2 Ba (fun b q=>hb b (.inl q)),Jk hf _ _ _ h3 aib (fun b q=>hb b (.inr q))⟩
theorem Gs{c:Array Value}{o:Nat}:∀{xs ys:List AV},ys.length=xs.length->j6 ι w L c o xs->Rs cE w L' ys (c.extract o (o+xs.length)).toList->j6 cE w L' c o ys:=by
 intro xs ys hl h1 h2;refine j6.jI fun i x hx=>?_
 obtain⟨v,g1,g2⟩:=h2.get i x hx;refine⟨v,?_,g2⟩;rw[aLC,Array.getElem?_extract]at g1;split at g1
 ·exact g1
 ·cases g1
theorem EP{α β:Type}{f:α->Option β}:∀{xs:List α} {rs:List β},dh f xs=some rs->rs.length=xs.length
 |[],rs,h=>by simp only[dh,aLv.injEq]at h;subst h;rfl
 |x::xs,rs,h=>by
  unfold dh at h;split at h
  ·cases h
  split at h
  ·cases h
  rename_i hr;cases h;simp[EP hr]
theorem KO(S:iW E Lo w0 ι H w)(hL:∀c,L' c->Live Lo ι H c):∀(n:Nat) (av:AV) (v:Value) (r:AV) (bs:List Nat),R ι w (Live Lo ι H) av v->fz H n av=some (r,bs)->
  (∀b,b∈bs->∀cb co,ι b=some (cb,co)->¬L' cb)->R cE w L' r v
 |0,_,_,_,_,_,h,_=>by simp[fz]at h
 |n+1,av,v,r,bs,hr,h,hb=>by
  have ih:=KO S hL n;have LF:∀(cs:List AV) (vs:List Value) (rs:List (AV×List Nat)),Rs ι w (Live Lo ι H) cs vs->dh (fz H n) cs=some rs->(∀b,b∈rs.flatMap (·.2)->∀cb co,ι b=some (cb,co)->¬L' cb)->
    Rs cE w L' (rs.map (·.1)) vs:=fun cs vs rs h1 h2 h3=>Jk (J:=fun b=>∀cb co,ι b=some (cb,co)->¬L' cb) (fun x v r bs a b c=>ih x v r bs a b c) cs vs rs h1 h2 h3
  have base:∀(_:aN av=true),R cE w L' av v:=fun p=>Nh hL _ _ p hr
  cases av<;>simp only[fz]at h
  case b6 b off=>
   split at h
   case h_2=>cases h
   rename_i st cs I1;split at h
   ·cases h
   rename_i fK;rw[aLp]at h;obtain⟨⟨c',RG⟩,h1,h2⟩:=h;rw[aLp]at h1;obtain⟨rs,h1,h3⟩:=h1;cases h3;cases h2
   obtain⟨cb,co,o,g1,g2,g3,_⟩:=S.obj b _ I1 fK;simp only[jF]at g3;obtain⟨c,e,f,q1,q2,_⟩:=g3;simp only[R]at hr;obtain⟨NK,co',r1,r2⟩:=hr;rw[g1]at r1;cases r1
   simp only[R];refine⟨cb,co,c,e,f,r2,by rw[g2,q1],hb b (by simp) cb co g1,?_⟩;refine Gs (by simp[EP h1]) q2 (LF _ _ _ q2.list h1 fun b' q=>hb b' (by simp at q⊢;exact .inr q))
  case aI b off len esz kc=>
   split at h
   case h_2=>cases h
   rename_i st cs I1;split at h
   ·cases h
   rename_i fK;simp only[aMi,decide_eq_true_eq,not_or,aNv]at fK;rw[aLp]at h;obtain⟨⟨c',RG⟩,h1,h2⟩:=h;rw[aLp]at h1;obtain⟨rs,h1,h3⟩:=h1;cases h3;cases h2
   obtain⟨cb,co,o,g1,g2,g3,_⟩:=S.obj b _ I1 fK.1;simp only[jF]at g3;obtain⟨c,e,f,q1,q2,_⟩:=g3;simp only[R]at hr;obtain⟨NK,co',cap,c2,e2,f2,r1,r2,r3,r4,r5,r6⟩:=hr;rw[g1]at r1;cases r1
   rw[g2,q1]at r5;cases r5
   simp only[R];refine⟨cb,co+off,cap,c,e,f,r2,by omega,by rw[g2,q1],hb b (by simp) cb co g1,?_⟩;have q3:=(q2.drop off).take (len*esz);exact Gs (by simp[EP h1]) q3 (LF _ _ _ q3.list h1 fun b' q=>hb b' (by simp at q⊢;exact .inr q))
  case iL b=>
   split at h
   case h_2=>cases h
   rename_i st ks vs I1;split at h
   ·cases h
   rename_i fK;split at h
   case h_2=>cases h
   rename_i k b1 v' b2 hk hv;cases h;rw[aLp]at hk hv;obtain⟨rk,hk,qY⟩:=hk;obtain⟨rv,hv,Ud⟩:=hv;cases qY;cases Ud
   obtain⟨cb,co,o,g1,g2,g3,_⟩:=S.obj b _ I1 fK;simp only[jF]at g3;obtain⟨es,clock,q1,q2,q3,_⟩:=g3;simp only[R]at hr;obtain⟨NK,co',r1,r2⟩:=hr;rw[g1]at r1;cases r1
   simp only[R];refine⟨cb,es,clock,r2,by rw[g2,q1],hb b (by simp) cb co g1,LF _ _ _ q2 hk fun b' q=>hb b' ?_,LF _ _ _ q3 hv fun b' q=>hb b' ?_⟩
   ·simp at q⊢;exact .inr (.inl q)
   ·simp at q⊢;exact .inr (.inr q)
  case agg cs=>
   rw[aLp]at h;obtain⟨⟨c',RG⟩,h1,h2⟩:=h;rw[aLp]at h1;obtain⟨rs,h1,h3⟩:=h1;cases h3;cases h2
   simp only[R]at hr⊢;obtain⟨vs,h4,h5⟩:=hr;exact⟨vs,h4,LF _ _ _ h5 h1 hb⟩
  case tuple cs=>
   rw[aLp]at h;obtain⟨⟨c',RG⟩,h1,h2⟩:=h;rw[aLp]at h1;obtain⟨rs,h1,h3⟩:=h1;cases h3;cases h2
   simp only[R]at hr⊢;obtain⟨vs,h4,h5⟩:=hr;exact⟨vs,h4,LF _ _ _ h5 h1 hb⟩
  case iface t x=>
   rw[aLp]at h;obtain⟨⟨c',RG⟩,h1,h2⟩:=h;cases h2;simp only[R]at hr⊢;obtain⟨y,h4,h5⟩:=hr;exact⟨y,h4,ih _ _ _ _ h5 h1 hb⟩
  case func f a c=>
   split at h
   case h_2=>cases h
   rename_i a' b1 c' b2 hk hv;cases h;rw[aLp]at hk hv;obtain⟨rk,hk,qY⟩:=hk;obtain⟨rv,hv,Ud⟩:=hv;cases qY;cases Ud
   simp only[R]at hr⊢;obtain⟨x,y,h1,h2,h3⟩:=hr;exact⟨x,y,h1,LF _ _ _ h2 hk fun b' q=>hb b' (List.mem_append_left _ q),LF _ _ _ h3 hv fun b' q=>hb b' (List.mem_append_right _ q)⟩
  case yield l=>cases h
  all_goals
   cases h;exact base rfl
theorem iF:∀(bs:List Nat) (H:Hp) (b:Nat),(mark H bs)[b]?=if b∈bs then(H[b]?).map cG.nN else H[b]?:=by
 intro bs;induction bs with
 |nil=>intro H b;simp[mark]
 |cons x bs ih=>
  intro H b;have idem:∀k:cG,k.nN.nN=k.nN:=by
   intro k;cases k
   case cells st cs=>cases st<;>rfl
   case map st ks vs=>cases st<;>rfl
   case kF=>rfl
   case loop=>rfl
  have:=ih (H.modify x cG.nN) b
  simp only[mark,aNm]at this⊢;rw[this,List.getElem?_modify];by_cases e:x=b
  ·subst e;by_cases hm:x∈bs
   ·simp[hm];cases H[x]?<;>simp[idem]
   ·simp[hm]
  ·have e':b≠x:=fun q=>e q.symm
   simp[e,e']
theorem k6(bs:List Nat):∀(H:Hp),(mark H bs).length=H.length:=by
 induction bs with
 |nil=>intro H;rfl
 |cons x bs ih=>intro H;simp only[mark,aNm]at ih⊢;rw[ih];simp
theorem Fz(k:cG):k.nN=k/\(k.st=.live->∃s p,k=.kF s p∨∃a b c d e f,k=.loop a b c d e f)∨
  k.st=.live/\k.nN.st=.ro/\∀ι w L co o,jF ι w L co k o->jF ι w L co k.nN o:=by
 cases k
 case cells st cs=>
  cases st
  ·exact .inr ⟨rfl,rfl,fun ι w L co o h=>by simp only[cG.nN,jF]at h⊢;obtain⟨c,e,f,h1,h2,_⟩:=h;exact⟨c,e,f,h1,h2,fun q=>by cases q⟩⟩
  ·exact .inl ⟨rfl,fun q=>by cases q⟩
  ·exact .inl ⟨rfl,fun q=>by cases q⟩
 case map st ks vs=>
  cases st
  ·exact .inr ⟨rfl,rfl,fun ι w L co o h=>by simp only[cG.nN,jF]at h⊢;obtain⟨es,c,h1,h2,h3,_⟩:=h;exact⟨es,c,h1,h2,h3,fun q=>by cases q⟩⟩
  ·exact .inl ⟨rfl,fun q=>by cases q⟩
  ·exact .inl ⟨rfl,fun q=>by cases q⟩
 case kF s p=>exact .inl ⟨rfl,fun _=>⟨s,p,.inl rfl⟩⟩
 case loop a b c d e f=>exact .inl ⟨rfl,fun _=>⟨[],0,.inr ⟨a,b,c,d,e,f,rfl⟩⟩⟩
theorem iW.mark(S:iW E Lo w0 ι H w)(bs:List Nat):iW E Lo w0 ι (mark H bs) w/\Ext w (Live Lo ι H) w (Live Lo ι (mark H bs)):=
 S.weaken (k6 bs H) (fun b hb=>by
  rw[iF]at hb;split at hb
  ·rw[aLp]at hb;obtain⟨k,h1,h2⟩:=hb;rw[h1];cases k<;>simp only[dV,cG.nN]at h2⊢
   case cells st cs=>cases st<;>simp[]at h2⊢;exact h2
   case map st a b=>cases st<;>simp[]at h2
   all_goals cases h2
  ·exact hb) fun b eP hb hd=>by
  rw[iF]at hb;split at hb
  ·rw[aLp]at hb;obtain⟨k,h1,rfl⟩:=hb;rcases Fz k with⟨h2,_⟩|⟨h2,h3,h4⟩
   ·rw[h2];exact .inl h1
   ·exact .inr ⟨k,h1,h2,h3,h4⟩
  ·exact .inl hb
theorem wR{f:AV->Option (AV×List Nat)}{J:Nat->Prop}(hf:∀(x r:AV) (bs:List Nat),f x=some (r,bs)->∀b,b∈bs->J b):
  ∀(xs:List AV) (rs:List (AV×List Nat)),dh f xs=some rs->∀b,b∈rs.flatMap (·.2)->J b
 |[],rs,hm,b,hb=>by
  simp only[dh,aLv.injEq]at hm;subst hm
  simp at hb
 |x::xs,rs,hm,b,hb=>by
  unfold dh at hm;split at hm
  ·cases hm
  rename_i r0 Ba;split at hm
  ·cases hm
  rename_i rs0 aib;cases hm;simp only[aNs,aNg]at hb;rcases hb with hb|hb
  ·exact hf _ _ _ Ba b hb
  ·exact wR hf _ _ aib b hb
def Ur(H:Hp)(b:Nat):Prop:=∃eP,H[b]?=some eP/\eP.st≠ .dead/\eP.nN.st=.ro
theorem Ei(H:Hp):∀(n:Nat) (av r:AV) (bs:List Nat),fz H n av=some (r,bs)->∀b,b∈bs->Ur H b
 |0,_,_,_,h,_,_=>by simp[fz]at h
 |n+1,av,r,bs,h,b0,C6=>by
  have LF:∀(cs:List AV) (rs:List (AV×List Nat)),dh (fz H n) cs=some rs->∀b,b∈rs.flatMap (·.2)->Ur H b:=
   fun cs rs=>wR (fun x r bs h b hb=>Ei H n x r bs h b hb) cs rs
  have here:∀(st:iH) (cs:List AV) (b:Nat),H[b]?=some (.cells st cs)->st≠ .dead->Ur H b:=fun st cs b h1 h2=>
   ⟨_,h1,h2,by cases st<;>first|rfl|exact absurd rfl h2⟩
  cases av<;>simp only[fz]at h
  case b6 b off=>
   split at h
   case h_2=>cases h
   rename_i st cs I1;split at h
   ·cases h
   rename_i fK;rw[aLp]at h;obtain⟨⟨c',RG⟩,h1,h2⟩:=h;rw[aLp]at h1;obtain⟨rs,h1,h3⟩:=h1;cases h3;cases h2
   rcases aNn.1 C6 with rfl|hb
   ·exact here _ _ _ I1 fK
   ·exact LF _ _ h1 _ hb
  case aI b off len esz kc=>
   split at h
   case h_2=>cases h
   rename_i st cs I1;split at h
   ·cases h
   rename_i fK;simp only[aMi,decide_eq_true_eq,not_or,aNv]at fK;rw[aLp]at h;obtain⟨⟨c',RG⟩,h1,h2⟩:=h;rw[aLp]at h1;obtain⟨rs,h1,h3⟩:=h1;cases h3;cases h2
   rcases aNn.1 C6 with rfl|hb
   ·exact here _ _ _ I1 fK.1
   ·exact LF _ _ h1 _ hb
  case iL b=>
   split at h
   case h_2=>cases h
   rename_i st ks vs I1;split at h
   ·cases h
   rename_i fK;split at h
   case h_2=>cases h
   rename_i k b1 v' b2 hk hv;cases h;rw[aLp]at hk hv;obtain⟨rk,hk,qY⟩:=hk;obtain⟨rv,hv,Ud⟩:=hv;cases qY;cases Ud
   rcases aNn.1 C6 with rfl|hb
   ·exact⟨_,I1,fK,by cases st<;>first|rfl|exact absurd rfl fK⟩
   ·rcases aNg.1 hb with hb|hb
    ·exact LF _ _ hk _ hb
    ·exact LF _ _ hv _ hb
  case agg cs=>
   rw[aLp]at h;obtain⟨⟨c',RG⟩,h1,h2⟩:=h;rw[aLp]at h1;obtain⟨rs,h1,h3⟩:=h1;cases h3;cases h2
   exact LF _ _ h1 _ C6
  case tuple cs=>
   rw[aLp]at h;obtain⟨⟨c',RG⟩,h1,h2⟩:=h;rw[aLp]at h1;obtain⟨rs,h1,h3⟩:=h1;cases h3;cases h2
   exact LF _ _ h1 _ C6
  case iface t x=>
   rw[aLp]at h;obtain⟨⟨c',RG⟩,h1,h2⟩:=h;cases h2;exact Ei H n _ _ _ h1 _ C6
  case func f a c=>
   split at h
   case h_2=>cases h
   rename_i a' b1 c' b2 hk hv;cases h;rw[aLp]at hk hv;obtain⟨rk,hk,qY⟩:=hk;obtain⟨rv,hv,Ud⟩:=hv;cases qY;cases Ud
   rcases aNg.1 C6 with hb|hb
   ·exact LF _ _ hk _ hb
   ·exact LF _ _ hv _ hb
  case yield l=>cases h
  all_goals
   cases h;simp at C6
theorem s8(S:iW E Lo w0 ι H w){vs a_:List AV}{Qm:List Value}{bs:List Nat}(hr:Rs ι w (Live Lo ι H) vs Qm)(h:bW H vs=some (a_,bs)):
  Rs cE w (Live Lo ι (mark H bs)) a_ Qm:=by
 have M:=S.mark bs;have hL:∀c,Live Lo ι (mark H bs) c->Live Lo ι H c:=by
  rintro c (hc|⟨b,bk,co,h1,h2,h3⟩)
  ·exact .inl hc
  ·rw[iF]at h1;split at h1
   ·rw[aLp]at h1;obtain⟨k,h4,rfl⟩:=h1;rcases Fz k with⟨h5,_⟩|⟨_,h5,_⟩
    ·rw[h5]at h2;exact .inr ⟨b,k,co,h4,h2,h3⟩
    ·rw[h2]at h5;cases h5
   ·exact .inr ⟨b,bk,co,h1,h2,h3⟩
 unfold bW at h;split at h
 ·rename_i hp;cases h;exact xp hL _ _ hp hr
 split at h
 ·cases h
 rename_i r hm;cases h;refine Jk (J:=fun b=>b∈r.flatMap (·.2)) (f:=fz H 40) (fun x v rr bs h1 h2 h3=>KO S hL 40 x v rr bs h1 h2 fun b hb cb co hi=>?_) vs Qm r hr hm (fun b hb=>hb);obtain⟨eP,g1,g2,g3⟩:=Ei H 40 x rr bs h2 b hb;have g4:(mark H (r.flatMap (·.2)))[b]?=some eP.nN:=by rw[iF,if_pos (h3 b hb),g1];rfl
 obtain⟨NK,co',o,k1,k2,k3,k4,k5⟩:=M.1.obj b _ g4 (by rw[g3];simp);rw[hi]at k1;cases k1
 exact k5 g3
end
end Dv
