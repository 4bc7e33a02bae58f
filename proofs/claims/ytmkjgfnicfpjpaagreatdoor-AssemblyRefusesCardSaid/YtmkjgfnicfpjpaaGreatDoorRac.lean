/- Lemmas for AssemblyRefuses; no condition. -/
import Derived.Test.YtmkjgfnicfpjpaaGreatDoorRab
set_option linter.all false
set_option maxHeartbeats 100000000
set_option maxRecDepth 100000
noncomputable section
open Option renaming map_eq_some_iff->aLs,some->aLS,map_some->aMi,isSome_iff_exists->aNb,getD_some->aNk
open Array renaming getElem?_toList->aLR,toList_push->aM8,getElem?_modify->aM9,getElem?_setIfInBounds_ne->aNa,length_toList->aNf
open List renaming getElem?_map->aM4,map_cons->aM5,mem_append->aM7,all_eq_true->aMf,map_append->aNc,foldl_cons->aNd,mem_cons->aNe,mem_map->aNg,mem_singleton->aNh,map_nil->aNi,flatMap_cons->aNj
open Bool renaming and_eq_true->aM6,or_eq_true->aL0
open Nat renaming le_refl->aLt,zero_add->aL5,not_lt->aMk
namespace Dv
open Go Go.RowKit
section
variable{E:Env}{P:Program}{ι:cT}{w:World}{L:Nat->Prop}{ts:List AV}{a:Act}{Lo:Nat->Prop}{w0:World}{H:Hp}
def IZ(V:Valid E P)(S:fT E Lo w0 ι H w){t ty:Nat}{ats:Array Nat}{args:Array Value}{vd vx:Value}{d x v:AV}{st:List (Nat×cE)}
  (Io:ats[0]?=some t) (Is:args[0]?=some vd) (BH:args[1]?=some vx) (hd:R ι w (Live Lo ι H) d vd) (hx:R ι w (Live Lo ι H) x vx) (h:td E H t d x=some (v,st)):
  ∃cv w',(Builtin.copy_ ats ty args).run P w=.ok cv w'/\gn E Lo w0 ι H w v (.bJ st) cv w':=by
 unfold td at h;split at h
 case h_2=>cases h
 rename_i e _ _ _ _ _ hi;have eC:(underlying t).run P w=.ok (.slice e) w:=bt V hi w;split at h
 case h_2=>cases h
 rename_i ei ku;split at h
 case h_2=>cases h
 rename_i dn xn xs Up hlx hsx;obtain⟨news,x1,x2,x3,x4⟩:=vw (P:=P) S hx hlx hsx;have hns:news.size=xn*ei.size:=by have:=x3.length;rw[<-x2];simpa using this
 have xm:=x4 (min xn dn) (Nat.min_le_left _ _);simp only at h;split at h
 ·rename_i hm0;rw[hm0]at xm;simp only[Nat.zero_mul]at xm;have C3:∃b sc,vd=.slice b dn sc:=by
   cases d<;>first|(exfalso;revert h;simp;done)|simp only[R]at hd
   ·simp only[mU,aLS.injEq]at Up;subst Up;exact⟨none,0,hd⟩
   ·simp only[mU,aLS.injEq]at Up;subst Up;obtain⟨ad,cap,rfl⟩:=hd;exact⟨_,_,rfl⟩
   ·simp only[mU,aLS.injEq]at Up;subst Up;obtain⟨cb,co,cap,c,e',f,h1,rfl,h3,h4,_⟩:=hd;exact⟨_,_,rfl⟩
  obtain⟨b,sc,rfl⟩:=C3;have hv:v=.int .i64 0/\st=[]:=by
   cases d<;>first|(exfalso;revert h;simp;done)|(simp only[aLS.injEq,Prod.mk.injEq]at h;exact⟨h.1.symm,h.2.symm⟩)
  obtain⟨rfl,rfl⟩:=hv;refine⟨.int .i64 0,w,?_,gn.pure S (by simp[R])⟩;have e1:news.extract 0 0=#[]:=by simp
  have MZ:Nat.min xn dn=0:=hm0;rw[e1]at xm;simp only[Builtin.copy_,Io,Is,BH,Sem.run_bind,eC,Result.andThen_ok,x1,cH V ku w,MZ,xm];cases b<;>simp[storeCells,goInt]
 ·rename_i hm0;split at h
  case h_2=>cases h
  rename_i b off dl esz kc;split at h
  case h_2=>cases h
  rename_i cs hb;split at h
  case isFalse=>cases h
  rename_i hc;obtain⟨y8,hle,vO⟩:=hc;cases h;simp only[mU,aLS.injEq]at Up;subst Up;simp only[R]at hd;obtain⟨cb,co,cap,c,e',f,h1,rfl,h3,h4,h5,h6⟩:=hd;have eh:(xs.take (min xn dl*esz)).length=min xn dl*esz:=by rw[List.length_take,x2,<-y8];exact Nat.min_eq_left (Nat.mul_le_mul_right _ (Nat.min_le_left _ _))
  have CX:Rs ι w (Live Lo ι H) (xs.take (min xn dl*esz)) (news.extract 0 (min xn dl*ei.size)).toList:=by
   have:=x3.take (min xn dl*esz)
   rw[Array.toList_extract,List.extract_eq_take_drop];simpa[y8]using this
  have T:=uo (P:=P) (xs:=xs.take (min xn dl*esz)) (off:=off) S hb h1 CX (by rw[eh];exact hle) (by
   rw[aMf]at vO⊢;exact fun y hy=>vO y (List.mem_of_mem_take hy))
  refine⟨.int .i64 (min xn dl:Nat),_,?_,ι,cT.le_refl _,by rw[jT hb];exact T.2.1,by rw[jT hb];exact T.2.2,by simp[R]⟩;have MZ:Nat.min xn dl=min xn dl:=rfl;simp only[Builtin.copy_,Io,Is,BH,Sem.run_bind,eC,Result.andThen_ok,x1,cH V ku w,MZ,xm,T.1,Sem.run_pure,goInt]
def Gn:∀(n:Nat) (x y:AV),HM n x y=true->x=y
 |n,x,y,h=>by
  unfold HM at h;split at h
  ·simp at h;rw[h]
  ·simp at h;rw[h.1,h.2]
  ·simp at h;rw[h]
  ·rename_i n xs ys;simp only[aM6,beq_iff_eq]at h;obtain⟨h1,h2⟩:=h;congr 1;apply List.ext_getElem h1;intro i hi hj;rw[aMf]at h2
   have:=h2 (xs[i],ys[i]) (by
    rw[List.mem_iff_getElem];exact⟨i,by simp;omega,by simp⟩)
   exact Gn n _ _ this
  ·cases h
def lu(V:Valid E P)(em:Bool):∀(n m d t:Nat) (k:AV) (vk:Value),n<=d->plainKey E n t=true->R ι w L k vk->nP E m t k k=some true->
  (Instr.checkKey em d t vk).run P w=.ok () w
 |0,_,_,_,_,_,_,h,_,_=>by simp[plainKey]at h
 |n+1,m,d,t,k,vk,hd,hp,hr,he=>by
  obtain⟨d,rfl⟩:∃q,d=q+1:=⟨d-1,by omega⟩;cases m with
  |zero=>simp[nP]at he
  |succ m=>
  unfold plainKey at hp;cases hi:E.ty t with
  |none=>simp[hi]at hp
  |some i=>
   simp only[hi]at hp;have hu:=(V.ty t i hi).cD;unfold nP at he;simp only[hi]at he;cases eC:i.cD<;>simp only[eC]at hp he hu<;>first|(exfalso;revert hp;simp;done)|skip
   case bool=>simp[Instr.checkKey,run_underlying hu]
   case int=>simp[Instr.checkKey,run_underlying hu]
   case string=>simp[Instr.checkKey,run_underlying hu]
   case array len elem=>
    cases k<;>first|(exfalso;revert he;simp;done)|skip
    rename_i xs;simp only[R]at hr;obtain⟨vs,rfl,hr⟩:=hr;cases ku:E.ty elem with
    |none=>simp[ku]at he
    |some ei=>
     simp only[ku]at he;simp only[Instr.checkKey,Sem.run_bind,run_underlying hu,Result.andThen_ok];simp only[Std.Legacy.Range.forIn_eq_forIn_range',Std.Legacy.Range.size,Nat.sub_zero,Nat.add_one_sub_one,Nat.div_one];have loop:∀(c i:Nat),lz E (nP E m) elem ei.size xs xs c i=some true->
       (forIn (List.range' i c) PUnit.unit fun i r=>(do
        let a<-Go.sizeOf elem
        let b<-part elem vs (i*a)
        Instr.checkKey em d elem b
        pure (ForInStep.yield PUnit.unit):Sem (ForInStep PUnit))).run P w=.ok PUnit.unit w:=by
      intro c;induction c with
      |zero=>intro i _;simp
      |succ c ih=>
       intro i h;unfold lz at h;cases h1:eS E elem xs (i*ei.size)with
       |none=>simp[h1]at h
       |some a=>
        simp only[h1]at h;obtain⟨va,p1,r1⟩:=mX V hr h1;cases h3:nP E m elem a a with
        |none=>simp[h3]at h
        |some r=>
         simp only[h3]at h;cases r with
         |false=>simp at h
         |true=>
          simp only at h
          have:=lu V em n m d elem a va (by omega) hp r1 h3
          rw[List.range'_succ];simp only[List.forIn_cons,Sem.run_bind,cH V ku w,Result.andThen_ok,p1,this,Sem.run_pure];exact ih (i+1) h
     have:=loop len 0 he
     simp at this⊢;simp[this]
   case struct fs=>
    cases k<;>first|(exfalso;revert he;simp;done)|skip
    rename_i xs;simp only[R]at hr;obtain⟨vs,rfl,hr⟩:=hr;simp only[aM6,aMf]at hp;simp only[hp.1,Bool.not_true,Bool.false_eq_true,if_false]at he;simp only[Instr.checkKey,Sem.run_bind,run_underlying hu,Result.andThen_ok];rw[<-Array.forIn_toList];have loop:∀(l:List Field),(∀f∈l,plainKey E n f.type=true)->eqFields E (nP E m) xs xs l=some true->
      (forIn l PUnit.unit fun f r=>(do
       if f.name≠ "_" then do
        let b<-part f.type vs f.offset
        Instr.checkKey em d f.type b
        pure (ForInStep.yield PUnit.unit)
       else pure (ForInStep.yield PUnit.unit):Sem (ForInStep PUnit))).run P w=.ok PUnit.unit w:=by
     intro l;induction l with
     |nil=>intro _ _;simp
     |cons f l ih=>
      intro qp h;unfold eqFields at h;split at h
      ·cases h
      rename_i Xy;cases h1:eS E f.type xs f.offset with
      |none=>simp[h1]at h
      |some a=>
       simp only[h1]at h;obtain⟨va,p1,r1⟩:=mX V hr h1;cases h3:nP E m f.type a a with
       |none=>simp[h3]at h
       |some r=>
        simp only[h3]at h;cases r with
        |false=>simp at h
        |true=>
         simp only at h
         have:=lu V em n m d f.type a va (by omega) (qp f (by simp)) r1 h3
         simp only[List.forIn_cons,Sem.run_bind,ne_eq,Xy,not_false_eq_true,if_true,Result.andThen_ok,p1,this,Sem.run_pure];exact ih (fun g hg=>qp g (by simp[hg])) h
    have:=loop fs.toList (fun f hf=>hp.2 f hf) he
    simp at this⊢;simp[this]
def AY(V:Valid E P){kt:Nat}{i:sk}(hi:E.ty kt=some i){k x:Value}{b:Bool}(h:Instr.sameNow i.cD k x=some b)(d:Nat):
  (Op.equalIn (d+1) kt k x).run P w=.ok b w:=by
 have hu:=(V.ty kt i hi).cD;unfold Instr.sameNow at h;split at h
 ·rename_i k1 k2 a k3 c eC;rw[eC]at hu;split at h
  ·rename_i hk;cases h;simp[Op.equalIn,run_underlying hu,hk]
  ·cases h
 ·rename_i a c eC;rw[eC]at hu;cases h;simp[Op.equalIn,run_underlying hu]
 ·rename_i a c eC;rw[eC]at hu;cases h;simp[Op.equalIn,run_underlying hu]
 ·cases h
def Ay(V:Valid E P){kt:Nat}{i:sk}(hi:E.ty kt=some i){k:Value}:∀(es:List MapEntry) (j:Nat) (r:Option (Nat×Value)),Instr.findNow i.cD k es j=some r->
  (Instr.findAsking kt k es j).run P w=.ok r w
 |[],j,r,h=>by simp[Instr.findNow]at h;subst h;simp[Instr.findAsking]
 |e::es,j,r,h=>by
  unfold Instr.findNow at h;split at h
  ·rename_i hs;cases h
   have:=AY (w:=w) V hi hs 9999
   simp[Instr.findAsking,Op.equal,Op.maxDepth,this]
  ·rename_i hs
   have:=AY (w:=w) V hi hs 9999
   simp[Instr.findAsking,Op.equal,Op.maxDepth,this];exact Ay V hi es (j+1) r h
  ·cases h
def UN(ι:cT)(w:World)(L:Nat->Prop)(j n:Nat):Option (Nat×AV)->Option (Nat×Value)->Prop
 |none,none=>True
 |some (i,v),some (i',v')=>i=i'/\R ι w L v v'/\j<=i/\i-j<n
 |_,_=>False
def Fv(V:Valid E P){kt:Nat}{k:AV}{vk:Value}(hk:R ι w L k vk):∀(ks vs:List AV) (es:List MapEntry) (j:Nat) (r:Option (Nat×AV)),
  Rs ι w L ks (es.map (·.key))->Rs ι w L vs (es.map (·.val))->pK (jk E kt) k ks vs j=some r->
  ∃r',(Instr.findAsking kt vk es j).run P w=.ok r' w/\UN ι w L j es.length r r'
 |[],[],es,j,r,h1,h2,h=>by
  simp only[Rs,List.map_eq_nil_iff]at h1;subst h1;simp[pK]at h;subst h
  exact⟨none,by simp[Instr.findAsking],trivial⟩
 |[],_::_,es,j,r,h1,h2,h=>by simp[pK]at h
 |_::_,[],es,j,r,h1,h2,h=>by simp[pK]at h
 |x::ks,y::vs,[],j,r,h1,h2,h=>by simp[Rs]at h1
 |x::ks,y::vs,e::es,j,r,h1,h2,h=>by
  simp only[Rs,aM5,List.cons.injEq]at h1 h2;obtain⟨kx,kxs,⟨e1,e2⟩,rx,rxs⟩:=h1;obtain⟨vy,vys,⟨e3,e4⟩,ry,rys⟩:=h2;subst e1;subst e3;subst e2;subst e4
  unfold pK at h;cases hq:jk E kt k x with
  |none=>simp[hq]at h
  |some b=>
   simp only[hq]at h;have he:=x9 V 20 10000 kt k x vk e.key b (by omega) hk rx hq;cases b with
   |true=>
    simp only[aLS.injEq]at h;subst h
    exact⟨some (j,e.val),by simp[Instr.findAsking,Op.equal,Op.maxDepth,he],rfl,ry,aLt _,by simp⟩
   |false=>
    simp only at h;obtain⟨r',g1,g2⟩:=Fv V hk ks vs es (j+1) r rxs rys h;refine⟨r',by simp[Instr.findAsking,Op.equal,Op.maxDepth,he];exact g1,?_⟩;cases r with
    |none=>cases r' with
     |none=>trivial
     |some p=>exact g2.elim
    |some p=>cases r' with
     |none=>exact g2.elim
     |some p'=>obtain⟨q1,q2,q3,q4⟩:=g2;exact⟨q1,q2,by omega,by simp;omega⟩
def pL(V:Valid E P){kt:Nat}{i:sk}(hi:E.ty kt=some i){k:AV}{vk:Value}(hk:R ι w L k vk){ks vs:List AV}{es:List MapEntry}{r:Option (Nat×AV)}
  (h1:Rs ι w L ks (es.map (·.key))) (h2:Rs ι w L vs (es.map (·.val))) (h:pK (jk E kt) k ks vs 0=some r):
  ∃r',(Instr.findKey kt vk es).run P w=.ok r' w/\UN ι w L 0 es.length r r':=by
 obtain⟨r',g1,g2⟩:=Fv V hk ks vs es 0 r h1 h2 h;refine⟨r',?_,g2⟩;unfold Instr.findKey;simp only[Sem.run_bind,bt V hi w,Result.andThen_ok];cases hn:Instr.findNow i.cD vk es 0 with
 |none=>simpa using g1
 |some q=>
  have:=Ay (w:=w) V hi es 0 q hn
  rw[this]at g1;simp only[Sem.run_pure];exact g1
def YV(S:fT E Lo w0 ι H w){m:AV}{vm:Value}{ks vs:List AV}(hm:R ι w (Live Lo ι H) m vm)(h:Hq H m=some (ks,vs)):
  (vm=.map none/\ks=[]/\vs=[])∨∃cb es clock,vm=.map (some cb)/\w.heap[cb]?=some (.map es clock)/\
   Rs ι w (Live Lo ι H) ks (es.toList.map (·.key))/\Rs ι w (Live Lo ι H) vs (es.toList.map (·.val)):=by
 unfold Hq at h;split at h
 ·cases h;simp only[R]at hm;exact .inl ⟨hm,rfl,rfl⟩
 ·cases h;simp only[R]at hm;obtain⟨cb,es,clock,rfl,h2,h3,h4,h5⟩:=hm;exact .inr ⟨cb,es,clock,rfl,h2,Rs.ext (Ext.refl _ _) _ _ _ _ (qM _) h4,Rs.ext (Ext.refl _ _) _ _ _ _ (qM _) h5⟩
 ·rename_i b;split at h
  case h_2=>cases h
  rename_i st ks' vs' hb;split at h
  ·cases h
  rename_i dx;cases h;simp only[R]at hm;obtain⟨cb,co,h1,rfl⟩:=hm;obtain⟨D9,co',o,g1,g2,g3,_⟩:=S.obj b _ hb dx;rw[h1]at g1;cases g1
  simp only[fY]at g3;obtain⟨es,clock,rfl,g4,g5,_⟩:=g3;exact .inr ⟨cb,es,clock,rfl,g2,g4,g5⟩
 ·cases h
def oK{cb:Nat}{es:Array MapEntry}{clock:Nat}(h:w.heap[cb]?=some (.map es clock)):(getObj cb).run P w=.ok (.map es clock) w:=by simp[getObj,Sem.run,h]
def N8(V:Valid E P)(S:fT E Lo w0 ι H w){t:Nat}{m k av:AV}{vm vk:Value}{ok:Bool}(hm:R ι w (Live Lo ι H) m vm)(hk:R ι w (Live Lo ι H) k vk)
  (h:jU E H t m k ok=some av):∃cv,(Instr.lookup t vm vk ok).run P w=.ok cv w/\R ι w (Live Lo ι H) av cv:=by
 unfold jU at h;split at h
 case h_2=>cases h
 rename_i kt et _ _ _ _ _ hi;have hu:=bt V hi w;split at h
 case h_2=>cases h
 rename_i ks vs hmp;split at h
 ·cases h
 rename_i hpk;simp only[aL0,Bool.not_eq_true',bne_iff_ne,ne_eq,not_or,Bool.not_eq_false,Decidable.not_not]at hpk;obtain⟨hp1,G2⟩:=hpk;have hkt:∃ki,E.ty kt=some ki:=by
  unfold plainKey at hp1;cases hh:E.ty kt with
  |none=>simp[hh]at hp1
  |some ki=>exact⟨ki,rfl⟩
 obtain⟨ki,Xp⟩:=hkt;have chk:∀em,(Instr.checkKey em 10000 kt vk).run P w=.ok () w:=fun em=>lu V em 20 20 10000 kt k vk (by omega) hp1 hk G2
 have ent:∃es:Array MapEntry,(vm=.map none/\es=#[]∨∃cb clock,vm=.map (some cb)/\w.heap[cb]?=some (.map es clock))/\
   Rs ι w (Live Lo ι H) ks (es.toList.map (·.key))/\Rs ι w (Live Lo ι H) vs (es.toList.map (·.val)):=by
  rcases YV S hm hmp with⟨rfl,rfl,rfl⟩|⟨cb,es,clock,rfl,h2,h3,h4⟩
  ·exact⟨#[],.inl ⟨rfl,rfl⟩,by simp[Rs],by simp[Rs]⟩
  ·exact⟨es,.inr ⟨cb,clock,rfl,h2⟩,h3,h4⟩
 obtain⟨es,e1,e2,e3⟩:=ent;split at h
 ·rename_i j v hf;cases h;obtain⟨r',g1,g2⟩:=pL V Xp hk e2 e3 hf;cases r' with
  |none=>exact g2.elim
  |some p=>
   obtain⟨_,q2,_⟩:=g2;refine⟨if ok then .tuple #[p.2,.bool true]else p.2,?_,?_⟩
   ·unfold Instr.lookup;rcases e1 with⟨rfl,rfl⟩|⟨cb,clock,rfl,q⟩
    ·simp only[Sem.run_bind,hu,Result.andThen_ok,Sem.run_pure,chk,g1]
    ·simp only[Sem.run_bind,hu,Result.andThen_ok,oK q,Sem.run_pure,chk,g1]
   ·cases ok
    ·simpa using q2
    ·simp only[if_true,R];exact⟨_,rfl,by simp[Rs,q2,R]⟩
 ·rename_i hf;rw[aLs]at h;obtain⟨z,hz,rfl⟩:=h;obtain⟨zv,z1,z2⟩:=Gv V hz ι w (Live Lo ι H);obtain⟨r',g1,g2⟩:=pL V Xp hk e2 e3 hf;cases r' with
  |some p=>exact g2.elim
  |none=>
   refine⟨if ok then .tuple #[zv,.bool false]else zv,?_,?_⟩
   ·unfold Instr.lookup;rcases e1 with⟨rfl,rfl⟩|⟨cb,clock,rfl,q⟩
    ·simp only[Sem.run_bind,hu,Result.andThen_ok,Sem.run_pure,chk,g1,z1]
    ·simp only[Sem.run_bind,hu,Result.andThen_ok,oK q,Sem.run_pure,chk,g1,z1]
   ·cases ok
    ·simpa using z2
    ·simp only[if_true,R];exact⟨_,rfl,by simp[Rs,z2,R]⟩
 ·cases h
end
section
variable{E:Env}{P:Program}{ι:cT}{w:World}{L:Nat->Prop}{ts:List AV}{a:Act}{Lo:Nat->Prop}{w0:World}{H:Hp}
def jO(w:World)(r:Nat)(o:Obj):World:={w with heap:=w.heap.setIfInBounds r o}
def xd{r:Nat}{o:Obj}(h:∃ob,w.heap[r]?=some ob/\∀c e f,ob≠ .cells c e f):(setObj r o).run P w=.ok () (jO w r o):=by
 obtain⟨ob,h1,h2⟩:=h;cases ob<;>first|(exact absurd rfl (h2 _ _ _))|simp[setObj,Sem.run,h1,jO]
def kR{w1:World}{r:Nat}{o ob:Obj}(hh:w1.heap=w.heap)(hos:w1.os=w.os)(EJ:w1.tape=w.tape)(zP:w1.output=w.output)(h:w.heap[r]?=some ob):
  Ej w (jO w1 r o) r o:=by
 have eh:=eF h;refine⟨hos,EJ,zP,by simp[jO,hh],?_,fun c hc=>?_⟩
 ·simp[jO,hh,eh]
 ·simp only[jO,hh];rw[aNa (fun e=>hc e.symm)]
def zX(old new:Value)(w:World):∃Kh w1,(Instr.keyThatStays old new).run P w=.ok Kh w1/\(Kh=old∨Kh=new)/\w1.heap=w.heap/\w1.os=w.os/\w1.tape=w.tape/\w1.output=w.output:=by
 unfold Instr.keyThatStays
 split
 ·exact⟨new,w,rfl,.inr rfl,rfl,rfl,rfl,rfl⟩
 ·simp only[Sem.run_bind,run_choose]
  split
  ·exact⟨new,w,rfl,.inr rfl,rfl,rfl,rfl,rfl⟩
  ·simp only[Result.andThen_ok,Sem.run_pure];refine⟨_,_,rfl,?_,rfl,rfl,rfl,rfl⟩
   split
   ·exact .inr rfl
   ·exact .inl rfl
def Uh.modify{es:Array MapEntry}{clock:Nat}(h:Uh es clock)(j:Nat){key val:Value}:Uh (es.modify j fun e=>{e with key:=key,val:=val}) clock:=by
 have hb:(es.modify j fun e=>{e with key:=key,val:=val}).toList.map (·.born)=es.toList.map (·.born):=by
  refine List.ext_getElem? fun i=>?_
  rw[aM4,aM4,aLR,aLR,aM9]
  split
  ·cases es[i]?<;>rfl
  ·rfl
 refine⟨fun x hx=>?_,by rw[hb];exact h.2⟩
 have:x.born∈(es.modify j fun e=>{e with key:=key,val:=val}).toList.map (·.born):=aNg.2 ⟨x,hx,rfl⟩
 rw[hb]at this;obtain⟨y,h1,h2⟩:=aNg.1 this;rw[<-h2];exact h.1 y h1
def Uh.push{es:Array MapEntry}{clock:Nat}(h:Uh es clock)(key val:Value):Uh (es.push {key:=key,val:=val,born:=clock}) (clock+1):=by
 refine⟨fun x hx=>?_,?_⟩
 ·simp only[aM8,aM7,aNh]at hx;rcases hx with hx|rfl
  ·have:=h.1 x hx;omega
  ·simp
 ·simp only[aM8,aNc,aM5,aNi];refine List.nodup_append.2 ⟨h.2,by simp,fun a ha b hb=>?_⟩;simp only[aNh]at hb;subst hb;obtain⟨y,h1,rfl⟩:=aNg.1 ha
  have:=h.1 y h1;omega
def v7(V:Valid E P)(S:fT E Lo w0 ι H w){t:Nat}{m k x:AV}{vm vk vx:Value}{st:List (Nat×cE)}(hm:R ι w (Live Lo ι H) m vm)(hk:R ι w (Live Lo ι H) k vk)
  (hx:R ι w (Live Lo ι H) x vx) (h:fV E H t m k x=some st):∃w',(Instr.mapUpdate t vm vk vx).run P w=.ok () w'/\gn E Lo w0 ι H w bT (.bJ st) undef w':=by
 unfold fV at h;split at h
 case h_2=>cases h
 rename_i kt et _ _ _ _ _ b hi;have hu:=bt V hi w;split at h
 case h_2=>cases h
 rename_i ks vs hb;split at h
 ·cases h
 rename_i hpk;have hp1:plainKey E 20 kt=true:=by simpa using hpk
 have hkt:∃ki,E.ty kt=some ki:=by
  have atC:=hp1;unfold plainKey at atC;cases hh:E.ty kt with
  |none=>simp[hh]at atC
  |some ki=>exact⟨ki,rfl⟩
 obtain⟨ki,Xp⟩:=hkt;simp only[R]at hm;obtain⟨cb,co,h1,rfl⟩:=hm;obtain⟨D9,co',o,g1,g2,g3,g4,_⟩:=S.obj b _ hb (by simp[cE.st]);rw[h1]at g1;cases g1
 simp only[fY]at g3;obtain⟨es,clock,rfl,g5,g6,g7⟩:=g3;have g7:Uh es clock:=by simpa using g7
 have nL:Live Lo ι H cb:=.inr ⟨b,_,co,hb,rfl,h1⟩;have hnc:∃ob,w.heap[cb]?=some ob/\∀c e f,ob≠ .cells c e f:=⟨_,g2,fun _ _ _ q=>by cases q⟩;split at h
 ·
  rename_i j y XI hf;have chk:=lu (w:=w) V false 20 20 10000 kt k vk (by omega) hp1 hk XI;split at h
  case h_2=>cases h
  rename_i k0 hk0;split at h
  case isFalse=>cases h
  rename_i atH;cases h;have Xq:=Gn 20 k0 k atH;subst Xq;obtain⟨r',q1,q2⟩:=pL V Xp hk g5 g6 hf;cases r' with
  |none=>exact q2.elim
  |some p=>
   obtain⟨i',v'⟩:=p;obtain⟨rfl,q3,q4,q5⟩:=q2;simp only[Nat.sub_zero,aNf]at q5;obtain⟨Kh,w1,s1,s2,s3,s4,s5,s6⟩:=zX (P:=P) (((es[j]?).map (·.key)).getD vk) vk w;have hO:=kR (w:=w) (w1:=w1) (o:=.map (es.modify j fun e=>{e with key:=Kh,val:=vx}) clock) s3 s4 s5 s6 g2;have se:jP (.map es clock) (.map (es.modify j fun e=>{e with key:=Kh,val:=vx}) clock):=fun _ _ _ q=>by cases q
   have AD:=hO.ext (L:=Live Lo ι H) (L':=Live Lo ι H) g2 se nL (fun _ h=>h);have atk:R ι w (Live Lo ι H) k0 Kh:=by
    rcases s2 with rfl|rfl
    ·obtain⟨kv,k1,k2⟩:=g5.get j k0 hk0;rw[aM4,aLs]at k1;obtain⟨en,k3,rfl⟩:=k1;rw[aLR]at k3;simp only[k3,aMi,aNk];exact k2
    ·exact hk
   have hlen:es.size=ks.length:=by have:=g5.length;simpa using this
   have Xs:es.size=vs.length:=by have:=g6.length;simpa using this
   have U:=S.update (blk':=.map .live ks (vs.set j x)) hb rfl rfl h1 g2 se hO (by
    simp only[fY];refine⟨_,clock,rfl,?_,?_,fun _=>Uh.modify (g7) _⟩
    ·refine Rs.gR (by simp[hlen]) fun i z hz=>?_
     obtain⟨kv,k1,k2⟩:=g5.get i z hz;rw[aM4,aLs]at k1;obtain⟨en,k3,rfl⟩:=k1;rw[aLR]at k3;rw[aM4,aLR,aM9];by_cases tJ:j=i
     ·subst tJ;rw[hk0]at hz;cases hz
      simp only[if_true,k3,aMi];exact⟨Kh,rfl,R.ext AD _ _ _ _ (cT.le_refl _) atk⟩
     ·rw[if_neg tJ,k3];exact⟨en.key,rfl,R.ext AD _ _ _ _ (cT.le_refl _) k2⟩
    ·refine Rs.gR (by simp[Xs]) fun i z hz=>?_
     rw[aM4,aLR,aM9];rw[List.getElem?_set]at hz;by_cases tJ:j=i
     ·subst tJ;rw[if_pos rfl,if_pos (by omega)]at hz;cases hz
      obtain⟨en,hen⟩:∃en,es[j]?=some en:=⟨es[j],Array.getElem?_eq_getElem (by omega)⟩;simp only[if_true,hen,aMi];exact⟨vx,rfl,R.ext AD _ _ _ _ (cT.le_refl _) hx⟩
     ·rw[if_neg tJ]at hz;obtain⟨kv,k1,k2⟩:=g6.get i z hz;rw[aM4,aLs]at k1;obtain⟨en,k3,rfl⟩:=k1;rw[aLR]at k3;rw[if_neg tJ,k3];exact⟨en.val,rfl,R.ext AD _ _ _ _ (cT.le_refl _) k2⟩)
   refine⟨_,?_,ι,cT.le_refl _,by rw[jT hb];exact U.1,by rw[jT hb];exact U.2,by simp[bT,undef,R,Rs]⟩;simp only[Instr.mapUpdate,Sem.run_bind,hu,Result.andThen_ok,oK g2,chk,q1,s1];exact xd ⟨_,by rw[s3];exact g2,fun _ _ _ q=>by cases q⟩
 ·
  rename_i XI hf;have chk:=lu (w:=w) V false 20 20 10000 kt k vk (by omega) hp1 hk XI;cases h;obtain⟨r',q1,q2⟩:=pL V Xp hk g5 g6 hf;cases r' with
  |some p=>exact q2.elim
  |none=>
   have hO:=kR (w:=w) (w1:=w) (o:=.map (es.push {key:=vk,val:=vx,born:=clock}) (clock+1)) rfl rfl rfl rfl g2;have se:jP (.map es clock) (.map (es.push {key:=vk,val:=vx,born:=clock}) (clock+1)):=fun _ _ _ q=>by cases q
   have AD:=hO.ext (L:=Live Lo ι H) (L':=Live Lo ι H) g2 se nL (fun _ h=>h);have U:=S.update (blk':=.map .live (ks++[k]) (vs++[x])) hb rfl rfl h1 g2 se hO (by
    simp only[fY];refine⟨_,_,rfl,?_,?_,fun _=>Uh.push (g7) _ _⟩
    ·simp only[aM8,aNc,aM5,aNi];exact(Rs.ext AD _ _ _ _ (cT.le_refl _) g5).append (by simp only[Rs];exact⟨_,_,rfl,R.ext AD _ _ _ _ (cT.le_refl _) hk,rfl⟩)
    ·simp only[aM8,aNc,aM5,aNi];exact(Rs.ext AD _ _ _ _ (cT.le_refl _) g6).append (by simp only[Rs];exact⟨_,_,rfl,R.ext AD _ _ _ _ (cT.le_refl _) hx,rfl⟩))
   refine⟨_,?_,ι,cT.le_refl _,by rw[jT hb];exact U.1,by rw[jT hb];exact U.2,by simp[bT,undef,R,Rs]⟩;simp only[Instr.mapUpdate,Sem.run_bind,hu,Result.andThen_ok,oK g2,chk,q1];exact xd hnc
 ·cases h
def AJ(V:Valid E P)(S:fT E Lo w0 ι H w){t aR:Nat}(hf:mG ι H aR){kt et:Nat}{i:sk}(hi:E.ty t=some i)(eC:i.cD=.map kt et)
  {r:Option Value} (hr:r=none∨∃k n,r=some (.int k n)):
  ∃cv w',(Instr.makeMap t r).run P w=.ok cv w'/\gn E Lo w0 ι H w (.eR aR) (.bJ [(aR,.map .live [] [])]) cv w':=by
 have hu:=bt V hi w;rw[eC]at hu;have N:=F8 S hf (dI:=.map .live [] []) rfl (o:=.map #[] 0) (w1:=w) rfl rfl rfl rfl (fun ι w L=>by simp only[fY];exact⟨#[],0,rfl,by simp[Rs],by simp[Rs],fun _=>⟨by simp,by simp⟩⟩);refine⟨.map (some w.heap.size),w.alloc (.map #[] 0),?_,_,N.1,N.2.1,N.2.2.1,?_⟩
 ·rcases hr with rfl|⟨k,n,rfl⟩
  ·simp[Instr.makeMap]
  ·simp[Instr.makeMap,hu,asInt,asIntOf]
 ·simp only[R];exact⟨_,_,N.2.2.2,rfl⟩
def Tw(V:Valid E P)(S:fT E Lo w0 ι H w){t aR:Nat}(hf:mG ι H aR){i:sk}(hi:E.ty t=some i)(eC:i.cD=.string){z:List UInt8}:
  ∃cv w',(Instr.range t (.string ⟨z.toArray⟩)).run P w=.ok cv w'/\gn E Lo w0 ι H w (.bK aR 0) (.bJ [(aR,.iF z 0)]) cv w':=by
 have hu:=bt V hi w;rw[eC]at hu;have N:=F8 S hf (dI:=.iF z 0) rfl (o:=.stringIter ⟨z.toArray⟩ 0) (w1:=w) rfl rfl rfl rfl (fun ι w L=>by simp[fY]);refine⟨.pointer (some ⟨w.heap.size,0,none⟩),w.alloc (.stringIter ⟨z.toArray⟩ 0),?_,_,N.1,N.2.1,N.2.2.1,?_⟩
 ·simp[Instr.range,hu]
 ·simp only[R];exact⟨_,_,N.2.2.2,rfl⟩
def Y5(S:fT E Lo w0 ι H w){i pos:Nat}{z:List UInt8}{vp:Value}(hb:H[i]?=some (.iF z pos))(hp:R ι w (Live Lo ι H) (.bK i 0) vp)(ty:Nat):
  (pos<z.length->∃w',(Instr.next vp true ty).run P w=.ok (.tuple #[.bool true,.int .i64 pos,.int .i32 (Utf8.decode ⟨z.toArray⟩ pos).1]) w'/\
   gn E Lo w0 ι H w (.tuple [.bool true,.int .i64 pos,.int .i32 (Utf8.decode ⟨z.toArray⟩ pos).1]) (.bJ [(i,.iF z (pos+(Utf8.decode ⟨z.toArray⟩ pos).2))])
    (.tuple #[.bool true,.int .i64 pos,.int .i32 (Utf8.decode ⟨z.toArray⟩ pos).1]) w')/\
  (¬pos<z.length->(Instr.next vp true ty).run P w=.ok (.tuple #[.bool false]) w):=by
 simp only[R]at hp;obtain⟨cb,co,h1,rfl⟩:=hp;obtain⟨D9,co',o,g1,g2,g3,g4,_⟩:=S.obj i _ hb (by simp[cE.st]);rw[h1]at g1;cases g1
 simp only[fY]at g3;obtain⟨rfl,rfl⟩:=g3;have sA:(getObj cb).run P w=.ok (.stringIter ⟨z.toArray⟩ pos) w:=by simp[getObj,Sem.run,g2]
 have mh:ByteArray.size ⟨z.toArray⟩=z.length:=by simp[ByteArray.size]
 refine⟨fun eh=>?_,fun eh=>?_⟩
 ·have hO:=kR (w:=w) (w1:=w) (o:=.stringIter ⟨z.toArray⟩ (pos+(Utf8.decode ⟨z.toArray⟩ pos).2)) rfl rfl rfl rfl g2;have se:jP (.stringIter ⟨z.toArray⟩ pos) (.stringIter ⟨z.toArray⟩ (pos+(Utf8.decode ⟨z.toArray⟩ pos).2)):=fun _ _ _ q=>by cases q
  have U:=S.update (blk':=.iF z (pos+(Utf8.decode ⟨z.toArray⟩ pos).2)) hb rfl rfl h1 g2 se hO (by simp[fY]);refine⟨_,?_,ι,cT.le_refl _,by rw[jT hb];exact U.1,by rw[jT hb];exact U.2,by simp[R,Rs]⟩;have SD:=xd (P:=P) (w:=w) (r:=cb) (o:=.stringIter ⟨z.toArray⟩ (pos+(Utf8.decode ⟨z.toArray⟩ pos).2)) ⟨_,g2,fun _ _ _ q=>by cases q⟩;simp only[Instr.next,Nat.add_zero,Sem.run_bind,sA,Result.andThen_ok,mh,eh,if_true,SD,Sem.run_pure,goInt]
 ·simp only[Instr.next,Nat.add_zero,Sem.run_bind,sA,Result.andThen_ok,mh,eh,if_false,Sem.run_pure]
def Cf(V:Valid E P)(S:fT E Lo w0 ι H w){t e aR len:Nat}(hf:mG ι H aR){i ei:sk}(hi:E.ty t=some i)(eC:i.cD=.slice e)(ku:E.ty e=some ei)
  {z cs:List AV} (hz:ei.zero=some z) {ps:List (Nat×AV)} {vps:Array (Nat×Value)} (hps:RsP ι w (Live Lo ι H) ps vps.toList) (mh:z.length=ei.size) (Jp:0<ei.size)
  (atp:len*ei.size<=16777216) (h:fP (fun i=>some (i*ei.size,ei.size)) (gJ z len) ps=some cs):
  ∃cv w',(Instr.buildSlice t len vps).run P w=.ok cv w'/\gn E Lo w0 ι H w (.aI aR 0 len ei.size len) (.bJ [(aR,.cells .live cs)]) cv w':=by
 have hu:=bt V hi w;rw[eC]at hu;obtain⟨zv,z1,z2,z3,_,_⟩:=uu V ku hz ι w (Live Lo ι H);have CX:Rs ι w (Live Lo ι H) (gJ z len) ((Array.range (len*ei.size)).map (fun i=>(if len*ei.size=0 then #[]else zv.cells)[i%(if len*ei.size=0 then(#[]:Array Value)else zv.cells).size]!)).toList:=by
  by_cases h0:len*ei.size=0
  ·have hl0:len=0:=by
    rcases Nat.mul_eq_zero.1 h0 with q|q
    ·exact q
    ·omega
   subst hl0;simp[gJ,Rs]
  ·simp only[h0,if_false]
   have:=Ri z2 (by omega) len
   rw[mh]at this;exact this
 obtain⟨res,r1,r2⟩:=yb hps CX h;have hlen:∀(l:List (Nat×AV)) (cs out:List AV),fP (fun i=>some (i*ei.size,ei.size)) cs l=some out->out.length=cs.length:=by
  intro l;induction l with
  |nil=>intro cs out h;simp[fP]at h;rw[h]
  |cons p l ih=>
   intro cs out h;obtain⟨i,x⟩:=p;simp only[fP]at h;split at h
   ·cases h
   ·rename_i hc;simp only[ne_eq,aL0,decide_eq_true_eq,not_or,Decidable.not_not,aMk]at hc;rw[ih _ _ h]
    simp
    omega
 have oB:cs.length=len*ei.size:=by rw[hlen _ _ _ h,uj,mh]
 have hrs:res.size=cs.length:=by have:=r2.length;simpa using this
 have hat:iH ι w (Live Lo ι H) res 0 cs:=r2.at (fun i v hv=>by rw[aLR]at hv;rw[aL5];exact hv);have N:=qL S hf (e:=e) (f:=(0,0)) (w1:=w) rfl rfl rfl rfl hat (fun k _ hk=>absurd hk.2 (Nat.not_lt_zero _));refine⟨.slice (some ⟨w.heap.size,0,none⟩) len len,w.alloc (.cells res e (0,0)),?_,_,N.1,N.2.1,N.2.2.1,?_⟩
 ·have hl:¬(16777216<len*ei.size):=by omega
  have h24:(2:Nat)^24=16777216:=by decide
  by_cases h0:len*ei.size=0
  ·simp only[h0,if_true]at r1;have hr0:Array.range 0=#[]:=rfl;rw[hr0]at r1;simp only[Array.map_empty]at r1;simp only[Instr.buildSlice,Sem.run_bind,hu,Result.andThen_ok,cH V ku w,h24,gt_iff_lt,h0,if_true,newRow];rw[if_neg (by omega)];simp[hr0,r1]
  ·simp only[h0,if_false]at r1;simp only[Instr.buildSlice,Sem.run_bind,hu,Result.andThen_ok,cH V ku w,h24,gt_iff_lt,hl,if_false,h0,Sem.run_pure,z1,r1,newRow,run_newObj];rfl
 ·simp only[R];exact⟨w.heap.size,0,len,res,e,(0,0),N.2.2.2.2,rfl,aLt _,aLt _,N.2.2.2.1,by rw[hrs,oB];omega⟩
end
section
variable{E:Env}{P:Program}{ι:cT}{w:World}{L:Nat->Prop}{ts:List AV}{a:Act}{Lo:Nat->Prop}{w0:World}{H:Hp}
def R8(V:Valid E P){s d:Nat}{x av:AV}{vx:Value}(hx:R ι w L x vx)(h:Cn E s d x=some av):∃cv,(convert s d vx).run P w=.ok cv w/\R ι w L av cv:=by
 unfold Cn at h;split at h
 ·rename_i si k _ _ _ _ _ k' n h1 h2;have u1:=bt V h1 w;have u2:=bt V h2 w;cases h;simp only[R]at hx;subst hx
  refine⟨.int k (k.wrap n),?_,by simp[R,aW]⟩;unfold convert;simp only[Sem.run_bind,u1,u2,Result.andThen_ok];cases si.cD<;>simp[Conv.intToInt]
 ·rename_i si _ _ _ _ _ z h1 h2;have u1:=bt V h1 w;have u2:=bt V h2 w;cases h;simp only[R]at hx;subst hx
  refine⟨.string ⟨z.toArray⟩,?_,by simp[R]⟩;unfold convert;simp only[Sem.run_bind,u1,u2,Result.andThen_ok];cases si.cD<;>simp
 ·cases h
def Aq:∀{cs:List AV} {b:List UInt8},zA cs=some b->∃ns:List Int,cs=ns.map (AV.int .u8)/\b=ns.map (fun n=>UInt8.ofNat n.toNat)
 |[],b,h=>by simp[zA]at h;subst h;exact⟨[],rfl,rfl⟩
 |c::cs,b,h=>by
  unfold zA at h;split at h
  ·rename_i hc;cases hc
  ·rename_i n As hc;cases hc;rw[aLs]at h;obtain⟨b',h1,rfl⟩:=h;obtain⟨ns,rfl,rfl⟩:=Aq h1;exact⟨n::ns,rfl,rfl⟩
  ·cases h
def foldl_push(ns:List Int):∀(r:ByteArray),ns.foldl (fun r n=>r.push (UInt8.ofNat n.toNat)) r=⟨r.data++(ns.map (fun n=>UInt8.ofNat n.toNat)).toArray⟩:=by
 induction ns with
 |nil=>intro r;simp
 |cons n ns ih=>
  intro r;rw[aNd,ih];congr 1;apply Array.ext';simp[ByteArray.push]
def TY(V:Valid E P)(S:fT E Lo w0 ι H w){s d e:Nat}{si di ei:sk}(h1:E.ty s=some si)(h2:E.ty d=some di)(h3:E.ty e=some ei)(u1:si.cD=.slice e)
  (u2:di.cD=.string) (u3:ei.cD=.int .u8) {x:AV} {vx:Value} (hx:R ι w (Live Lo ι H) x vx) {cs:List AV} (hc:iI H 1 x=some cs) {b:List UInt8} (hb:zA cs=some b):
  ∃cv,(convert s d vx).run P w=.ok cv w/\R ι w (Live Lo ι H) (.str b) cv:=by
 obtain⟨ns,hns,rfl⟩:=Aq hb;have hl:∃n,mU x=some n:=by
  unfold iI at hc;split at hc
  ·exact⟨_,rfl⟩
  ·exact⟨_,rfl⟩
  ·exact⟨_,rfl⟩
  ·exact⟨_,rfl⟩
  ·cases hc
 obtain⟨n,hl⟩:=hl;have ph:oM H 1 x=some cs:=by
  unfold oM;cases x<;>first|exact hc|(exfalso;revert hc;simp[iI];done)
 obtain⟨news,x1,x2,x3,x4⟩:=vw (P:=P) S hx hl ph;subst hns;have hn:news.toList=ns.map (Value.int .u8):=by
  clear x4 x1 x2 hc hb ph hl
  revert x3
  generalize news.toList=l;induction ns generalizing l with
  |nil=>intro h;simpa[Rs]using h
  |cons n ns ih=>
   intro h;simp only[aM5,Rs]at h;obtain⟨y,ys,rfl,h2,h3⟩:=h;simp only[R]at h2;rw[h2,ih _ h3,aM5]
 have Qp:news.size=n:=by
  have:=x3.length
  simp only[aNf]at this;rw[this,x2,Nat.mul_one]
 have hx4:=x4 n (aLt _);rw[Nat.mul_one,<-Qp,Array.extract_size]at hx4;have hna:news=(ns.map (Value.int .u8)).toArray:=by rw[<-hn]
 rw[hna]at hx4;have fin:∀a l c,vx=.slice (some a) l c->l=n->∃cv,(convert s d vx).run P w=.ok cv w/\R ι w (Live Lo ι H) (.str (ns.map (fun n=>UInt8.ofNat n.toNat))) cv:=by
  intro a l c hv hln;subst hv hln;have ik:(loadCells a l).run P w=.ok (ns.map (Value.int .u8)).toArray w:=by rw[<-hx4,<-hna,Qp];simp[Builtin.firstCells]
  refine⟨_,(run_convert_bytes_string w s d e _ _ _ (u1▸(V.ty s si h1).cD) (u3▸(V.ty e ei h3).cD) (u2▸(V.ty d di h2).cD)).trans (run_bytesToString w a l c ns ik),?_⟩;simp only[R];congr 1;rw[foldl_push]
  simp
 unfold iI at hc;split at hc
 ·simp only[R]at hx;subst hx
  have:ns=[]:=by simpa using hc
  subst this;have Ip:(Conv.bytesToString (.slice none 0 0)).run P w=.ok (.string ByteArray.empty) w:=rfl;exact⟨.string ByteArray.empty,(run_convert_bytes_string w s d e none 0 0 (u1▸(V.ty s si h1).cD) (u3▸(V.ty e ei h3).cD) (u2▸(V.ty d di h2).cD)).trans Ip,by simp only[R];rfl⟩
 ·simp only[R]at hx;obtain⟨ad,cap,rfl⟩:=hx
  exact fin _ _ _ rfl (by simpa[mU]using hl)
 ·simp only[R]at hx;obtain⟨cb,o,cap,c,e,f,rfl,_⟩:=hx;exact fin _ _ _ rfl (by simpa[mU]using hl)
 ·simp only[R]at hx;obtain⟨cb,co,cap,c,e',f,g1,rfl,_⟩:=hx;exact fin _ _ _ rfl (by simpa[mU]using hl)
 ·cases hc
def N6(V:Valid E P)(S:fT E Lo w0 ι H w){t ty:Nat}{ats:Array Nat}{args:Array Value}(ha:ats[0]?=some t){x:AV}{vx:Value}(hg:args[0]?=some vx)
  (hx:R ι w (Live Lo ι H) x vx) {av:AV} (h:nC E H t x=some av):
  ∃cv,(Builtin.len_ ats ty args).run P w=.ok cv w/\R ι w (Live Lo ι H) av cv:=by
 unfold nC at h;unfold Builtin.len_;simp only[ha,hg];split at h
 ·rename_i s hi;have hu:=bt V hi w;cases h;simp only[R]at hx;subst hx
  exact⟨.int .i64 s.length,by simp only[Sem.run_bind,hu,Result.andThen_ok,Sem.run_pure];simp[goInt,ByteArray.size],by simp[R]⟩
 ·rename_i n el _ _ _ _ _ hi;have hu:=bt V hi w;cases h;refine⟨.int .i64 n,?_,by simp[R]⟩;simp only[Sem.run_bind,hu,Result.andThen_ok];cases vx<;>rfl
 ·rename_i hi;have hu:=bt V hi w;cases h;simp only[R]at hx;subst hx
  exact⟨.int .i64 0,by simp only[Sem.run_bind,hu,Result.andThen_ok,Sem.run_pure];rfl,by simp[R]⟩
 ·rename_i hi;have hu:=bt V hi w;cases h;simp only[R]at hx;obtain⟨ad,cap,rfl⟩:=hx
  exact⟨.int .i64 0,by simp only[Sem.run_bind,hu,Result.andThen_ok,Sem.run_pure];rfl,by simp[R]⟩
 ·rename_i hi;have hu:=bt V hi w;cases h;simp only[R]at hx
  obtain⟨cb,o,cap,c,e,f,rfl,_⟩:=hx;exact⟨.int .i64 _,by simp only[Sem.run_bind,hu,Result.andThen_ok,Sem.run_pure];rfl,by simp[R]⟩
 ·rename_i hi;have hu:=bt V hi w;cases h;simp only[R]at hx
  obtain⟨cb,co,cap,c,e,f,h1,rfl,_⟩:=hx;exact⟨.int .i64 _,by simp only[Sem.run_bind,hu,Result.andThen_ok,Sem.run_pure];rfl,by simp[R]⟩
 ·rename_i hi;have hu:=bt V hi w;rw[aLs]at h;obtain⟨⟨ks,vs⟩,h1,rfl⟩:=h;rcases YV S hx h1 with⟨rfl,rfl,_⟩|⟨cb,es,clock,rfl,h2,h3,h4⟩
  ·exact⟨.int .i64 0,by simp only[Sem.run_bind,hu,Result.andThen_ok,Sem.run_pure];rfl,by simp[R]⟩
  ·refine⟨.int .i64 es.size,by simp only[Sem.run_bind,hu,Result.andThen_ok,oK h2,Sem.run_pure];rfl,?_⟩
   have:=h3.length
   simp at this;simp[R,this]
 ·cases h
def S6{x y z:AV}{vx vy:Value}(hx:R ι w L x vx)(hy:R ι w L y vy)(h:AK x y=some z):
  ∃vz,(Builtin.max2 vx vy).run P w=.ok vz w/\R ι w L z vz:=by
 unfold AK at h;split at h
 ·split at h
  ·rename_i hk;subst hk
   cases h;simp only[R]at hx hy;subst hx hy
   exact⟨_,rfl,by simp only[R]⟩
  ·cases h
 ·cases h
def S7{x y z:AV}{vx vy:Value}(hx:R ι w L x vx)(hy:R ι w L y vy)(h:KD x y=some z):
  ∃vz,(Builtin.min2 vx vy).run P w=.ok vz w/\R ι w L z vz:=by
 unfold KD at h;split at h
 ·split at h
  ·rename_i hk;subst hk
   cases h;simp only[R]at hx hy;subst hx hy
   exact⟨_,rfl,by simp only[R]⟩
  ·cases h
 ·cases h
def zH{f:AV->AV->Option AV}{g:Value->Value->Sem Value}
  (hf:∀{x y z:AV} {vx vy:Value},R ι w L x vx->R ι w L y vy->f x y=some z->∃vz,(g vx vy).run P w=.ok vz w/\R ι w L z vz):
  ∀{xs:List AV} {vs:List Value} {x z:AV} {vx:Value},R ι w L x vx->Rs ι w L xs vs->qC f x xs=some z->∃vz,(vs.foldlM g vx).run P w=.ok vz w/\R ι w L z vz
 |[],vs,x,z,vx,hx,XP,h=>by
  simp only[Rs]at XP;subst XP
  simp only[qC,aLS.injEq]at h;subst h
  exact⟨_,rfl,hx⟩
 |y::ys,vs,x,z,vx,hx,XP,h=>by
  simp only[Rs]at XP;obtain⟨v,vs',rfl,h1,h2⟩:=XP;unfold qC at h;split at h
  ·rename_i u hu;obtain⟨vu,g1,g2⟩:=hf hx h1 hu;obtain⟨vz,g3,g4⟩:=zH hf g2 h2 h;exact⟨vz,by simp only[List.foldlM_cons,Sem.run_bind,g1,Result.andThen_ok,g3],g4⟩
  ·cases h
def Ml(V:Valid E P){t e ty:Nat}{ats:Array Nat}{args:Array Value}(ha:ats[0]?=some t){vx:Value}(hg:args[0]?=some vx)(hx:R ι w L .aH vx){i:sk}
  (hi:E.ty t=some i) (eC:i.cD=.slice e):
  ∃cv,(Builtin.cap_ ats ty args).run P w=.ok cv w/\R ι w L (.int .i64 0) cv:=by
 have hu:=bt V hi w;rw[eC]at hu;simp only[R]at hx;subst hx
 unfold Builtin.cap_;simp only[ha,hg];exact⟨.int .i64 0,by simp only[Sem.run_bind,hu,Result.andThen_ok,Sem.run_pure];rfl,by simp[R]⟩
def RP(V:Valid E P){t:Nat}{pl:Nat->Option (Nat×Nat)}{z cs:List AV}{ps:List (Nat×AV)}{vps:Array (Nat×Value)}(h1:fB E t=some pl)
  (hz:(E.ty t).bind (·.zero)=some z) (hps:RsP ι w L ps vps.toList) (h:fP pl z ps=some cs):
  ∃cv,(Instr.build t vps).run P w=.ok cv w/\R ι w L (.agg cs) cv:=by
 rw[Option.bind_eq_some_iff]at hz;obtain⟨i,hi,hz⟩:=hz;obtain⟨zv,z1,z2,z3,_,_⟩:=uu V hi hz ι w L;have hu:=bt V hi w;unfold fB at h1;rw[hi]at h1;split at h1
 ·rename_i fields sz ag by_ ze _ hh;cases hh;split at h1
  case isFalse=>cases h1
  rename_i qd;simp only[aLS.injEq]at h1;have hm:∀(l:List Field),(l.all fun f=>(E.ty f.type).isSome)=true->
    (l.mapM (m:=Sem) fun f=>do pure (f.offset,<-sizeOf f.type)).run P w=.ok (l.map fun f=>(f.offset,((E.ty f.type).map (·.size)).getD 0)) w:=by
   intro l;induction l with
   |nil=>intro _;simp
   |cons f l ih=>
    intro hl;simp only[List.all_cons,aM6]at hl;obtain⟨fi,lT⟩:=aNb.1 hl.1;simp only[List.mapM_cons,Sem.run_bind,cH V lT w,Result.andThen_ok,Sem.run_pure,ih hl.2,aM5,lT,aMi,aNk]
  have hma:(fields.mapM (m:=Sem) fun f=>do pure (f.offset,<-sizeOf f.type)).run P w=.ok (fields.map fun f=>(f.offset,((E.ty f.type).map (·.size)).getD 0)) w:=by
   rw[Array.mapM_eq_mapM_toList,map_eq_pure_bind];simp only[Sem.run_bind,hm fields.toList qd,Result.andThen_ok,Sem.run_pure];congr 1;apply Array.ext'
   simp
  have qp:pl=(fun j=>(fields.map fun f=>(f.offset,((E.ty f.type).map (·.size)).getD 0))[j]?):=by
   subst h1;funext j;rw[Array.getElem?_map];cases hf:fields[j]? with
   |none=>rfl
   |some f=>
    have azU:f∈fields.toList:=by
     have:=Array.mem_of_getElem? hf
     exact Array.mem_toList_iff.2 this
    have:=(aMf.1 qd) f azU
    obtain⟨fi,lT⟩:=aNb.1 this;simp[lT]
  obtain⟨res,r1,r2⟩:=yb hps z2 h;rw[qp]at r1;refine⟨.agg res,?_,by simp only[R];exact⟨_,rfl,r2⟩⟩;unfold Instr.build;simp only[Sem.run_bind,z1,Result.andThen_ok,hu,hma,r1,Sem.run_pure]
 ·rename_i n elem sz ag by_ ze _ hh;cases hh;rw[aLs]at h1;obtain⟨ei,ku,rfl⟩:=h1;obtain⟨res,r1,r2⟩:=yb hps z2 h;refine⟨.agg res,?_,by simp only[R];exact⟨_,rfl,r2⟩⟩;unfold Instr.build;simp only[Sem.run_bind,z1,Result.andThen_ok,hu,cH V ku w,r1,Sem.run_pure]
 ·cases h1
end
section
variable{E:Env}{P:Program}{ι:cT}{w:World}{L:Nat->Prop}{ts:List AV}{a:Act}{Lo:Nat->Prop}{w0:World}{H:Hp}
def Ca(V:Valid E P)(S:fT E Lo w0 ι H w){aR t u ty:Nat}(hf:mG ι H aR){ats:Array Nat}{args:Array Value}{vs vx:Value}{ui:sk}{k:IntKind}
  (Io:ats[0]?=some t) (vM:ats[1]?=some u) (Is:args[0]?=some vs) (BH:args[1]?=some vx) (hu:E.ty u=some ui)
  (hq:ui.cD=.int k) {s x v:AV} {st:List (Nat×cE)}
  (hs:R ι w (Live Lo ι H) s vs) (hx:R ι w (Live Lo ι H) x vx) (h:kT E aR t s x=some (v,st)):
  ∃cv w',(Builtin.append_ ats ty args).run P w=.ok cv w'/\gn E Lo w0 ι H w v (.bJ st) cv w':=by
 unfold kT at h;split at h
 case h_2=>cases h
 rename_i e _ _ _ _ _ k' n hi;have eC:(underlying t).run P w=.ok (.slice e) w:=bt V hi w;have LV:(underlying u).run P w=.ok ui.cD w:=bt V hu w;split at h
 case h_2=>cases h
 rename_i ei ku;split at h
 case h_2=>cases h
 rename_i zc hzc;split at h
 case isFalse=>cases h
 rename_i hc;obtain⟨h0,h63,hb,Ef,mh,hbz⟩:=hc;cases h;simp only[R]at hs hx;subst hs hx;obtain⟨z,XR,hz⟩:=D7 V ku hzc;obtain⟨zv,z1,z2,z3,_,_⟩:=uu V ku hzc ι w (Live Lo ι H);have G6:zv.cells=z:=by obtain⟨zv',g1,g2⟩:=hz w;rw[z1]at g1;cases g1;exact g2
 have LQ:0<n.toNat:=by omega
 have hold:(Builtin.firstCells ei.size 0 (.slice none 0 0)).run P w.drew=.ok #[] w.drew:=by simp[Builtin.firstCells]
 have gy:=sW (ty:=ty) V Io vM Is BH eC ku LV hq (by omega) h63 hb (by have:=Nat.mul_pos LQ mh;omega) (by omega) (by rw[aL5];exact hb) (by omega) (by omega) hz hold;rw[aL5]at gy;have hr:Rs ι w (Live Lo ι H) (gJ zc n.toNat) (Builtin.zeroCells z n.toNat).toList:=by
  rw[<-G6]
  have:=Ri z2 (by omega) n.toNat
  unfold Builtin.zeroCells;have e1:zv.cells.size=zc.length:=by have:=z2.length;simpa using this
  rw[e1];rw[e1]at this;exact this
 have G:=uJ S hf (e:=e) (rest:=Builtin.zeroCells z (grownCap w n.toNat 0 e-n.toNat)) hr (by rw[uj,Ef]) (grownCap_ge w n.toNat 0 e) (by rw[lM,XR]);exact⟨_,_,by rw[gy];simp,G⟩
def gn.Ze(S:fT E Lo w0 ι H w){v:AV}{r:Sem Value}(h:∃cv,r.run P w=.ok cv w/\R ι w (Live Lo ι H) v cv):
  ∃cv w',r.run P w=.ok cv w'/\gn E Lo w0 ι H w v (.bJ []) cv w':=by
 obtain⟨cv,h1,h2⟩:=h;exact⟨cv,w,h1,gn.pure S h2⟩
def GG(V:Valid E P)(S:fT E Lo w0 ι H w){aR ty:Nat}(hf:mG ι H aR){b:Builtin}{ats:Array Nat}{args:Array Value}{a_:List AV}(ha:Rs ι w (Live Lo ι H) a_ args.toList)
  {cs:Array Bool} {v:AV} {st:List (Nat×cE)} (h:bM E H aR b ats.toList a_=some (v,st)):
  ∃cv w',(builtin b ats ty cs args).run P w=.ok (.value cv) w'/\gn E Lo w0 ι H w v (.bJ st) cv w':=by
 have lift:∀{r:Sem Value},(∃cv w',r.run P w=.ok cv w'/\gn E Lo w0 ι H w v (.bJ st) cv w')->
   ∃cv w',((do pure (.value (<-r)):Sem Next)).run P w=.ok (.value cv) w'/\gn E Lo w0 ι H w v (.bJ st) cv w':=by
  intro r ⟨cv,w',h1,h2⟩;exact⟨cv,w',by simp only[Sem.run_bind,h1,Result.andThen_ok,Sem.run_pure],h2⟩
 have sA:∀{l:List Nat} {i t:Nat},l[i]?=some t->ats.toList=l->ats[i]?=some t:=by intro l i t h1 h2;rw[<-aLR,h2,h1]
 have qE:∀{l:List Value} {i:Nat} {x:Value},l[i]?=some x->args.toList=l->args[i]?=some x:=by intro l i x h1 h2;rw[<-aLR,h2,h1]
 unfold bM at h;split at h
 ·rename_i t u tr s x xr sw;simp only[Rs]at ha;obtain⟨vs,ys,e1,hs,vx,zs,rfl,hx,_⟩:=ha;have a0:=sA (i:=0) rfl sw;have a1:=sA (i:=1) rfl sw;have g0:=qE (i:=0) rfl e1;have g1:=qE (i:=1) rfl e1;split at h
  ·rename_i k hu;exact lift (Ca V S hf a0 a1 g0 g1 hu rfl hs hx h)
  ·rename_i ui hq hu;refine lift (Cb V S hf a0 a1 g0 g1 hu ?_ hs hx h);intro k hk;obtain⟨cD,b1,b2,b3,b4,b5⟩:=ui;exact hq _ _ _ _ _ _ (by rw[<-hk])
  ·cases h
 ·rename_i t tr d x xr sw;simp only[Rs]at ha;obtain⟨vs,ys,e1,hs,vx,zs,rfl,hx,_⟩:=ha;exact lift (IZ V S (sA (i:=0) rfl sw) (qE (i:=0) rfl e1) (qE (i:=1) rfl e1) hs hx h)
 ·rename_i t tr xr sw;simp only[Rs]at ha;obtain⟨vs,ys,e1,hs,_⟩:=ha;split at h
  ·rename_i e _ _ _ _ _ hi;cases h;exact lift (gn.Ze S (Ml V (sA (i:=0) rfl sw) (qE (i:=0) rfl e1) hs hi rfl))
  ·cases h
 ·rename_i t tr x xr sw;simp only[Rs]at ha;obtain⟨vs,ys,e1,hs,_⟩:=ha;rw[aLs]at h;obtain⟨u,h1,h2⟩:=h;cases h2;exact lift (gn.Ze S (N6 V S (sA (i:=0) rfl sw) (qE (i:=0) rfl e1) hs h1))
 ·rename_i x xs;simp only[Rs]at ha;obtain⟨vs,ys,e1,hs,hr⟩:=ha;rw[aLs]at h;obtain⟨u,h1,h2⟩:=h;cases h2;refine lift (gn.Ze S ?_);unfold Builtin.max_;rw[e1];exact zH (fun a b c=>S6 a b c) hs hr h1
 ·rename_i x xs;simp only[Rs]at ha;obtain⟨vs,ys,e1,hs,hr⟩:=ha;rw[aLs]at h;obtain⟨u,h1,h2⟩:=h;cases h2;refine lift (gn.Ze S ?_);unfold Builtin.min_;rw[e1];exact zH (fun a b c=>S7 a b c) hs hr h1
 ·cases h
end
def rn(o:Oper):Bool:=
 match o.op with
 |.call c=>(match c.callee with
  |.value _=>true
  |_=>false)
 |_=>false
section
variable{E:Env}{P:Program}{ι:cT}{w:World}{L:Nat->Prop}{ts:List AV}{a:Act}{Lo:Nat->Prop}{w0:World}{H:Hp}
def PA:R ι w L bT undef:=by simp only[bT,undef,R];exact⟨#[],rfl,by simp[Rs]⟩
def ahM(nx:Next)(cv:Value):Prop:=nx=.value cv∨nx=.skip/\cv=undef
def dV(E:Env)(P:Program)(Lo:Nat->Prop)(w0:World)(ι:cT)(H:Hp)(w:World)(r:Sem Next)(v:AV)(e:cF):Prop:=
 ∃nx cv w',r.run P w=.ok nx w'/\ahM nx cv/\gn E Lo w0 ι H w v e cv w'
def dV.val{r:Sem Value}{v:AV}{e:cF}(h:∃cv w',r.run P w=.ok cv w'/\gn E Lo w0 ι H w v e cv w'):
  dV E P Lo w0 ι H w (do pure (.value (<-r))) v e:=by
 obtain⟨cv,w',h1,h2⟩:=h;exact⟨.value cv,cv,w',by simp only[Sem.run_bind,h1,Result.andThen_ok,Sem.run_pure],.inl rfl,h2⟩
def dV.unit{r:Sem Unit}{e:cF}(h:∃w',r.run P w=.ok () w'/\gn E Lo w0 ι H w bT e undef w'):
  dV E P Lo w0 ι H w (do r;pure .skip) bT e:=by
 obtain⟨w',h1,h2⟩:=h;exact⟨.skip,undef,w',by simp only[Sem.run_bind,h1,Result.andThen_ok,Sem.run_pure],.inr ⟨rfl,rfl⟩,h2⟩
def dV.now(S:fT E Lo w0 ι H w){v:AV}{cv:Value}(h:R ι w (Live Lo ι H) v cv):dV E P Lo w0 ι H w (pure (.value cv)) v (.bJ []):=
 ⟨_,cv,w,rfl,.inl rfl,gn.pure S h⟩
def dV.rT(S:fT E Lo w0 ι H w){r:Sem Value}{v:AV}(h:∃cv,r.run P w=.ok cv w/\R ι w (Live Lo ι H) v cv):
  dV E P Lo w0 ι H w (do pure (.value (<-r))) v (.bJ []):=dV.val (gn.Ze S h)
def aef(V:Valid E P)(S:fT E Lo w0 ι H w){pc:Pc}{ic yc:Ic}{dr:Bool}{aR:Nat}(hf:mG ι H aR)(ht:Rs ι w (Live Lo ι H) ts a.tmps.toList){o:Oper}{v:AV}{e:cF}
  (hv:rn o=false) (h:dH E pc ic yc dr ts H aR o=some (v,e)):dV E P Lo w0 ι H w (execOp a.eval o) v e:=by
 unfold dH at h;unfold execOp;cases ho:o.op<;>simp only[ho]at h⊢
 case move x=>
  rw[aLs]at h;obtain⟨u,h1,h2⟩:=h;cases h2;exact dV.now S (dS ht h1)
 case assign x=>
  rw[aLs]at h;obtain⟨u,h1,h2⟩:=h;cases h2;exact dV.now S (dS ht h1)
 case pick c x y=>
  split at h
  ·rename_i t hc;rw[aLs]at h;obtain⟨u,h1,h2⟩:=h;cases h2;have Xj:=dS ht hc;simp only[R]at Xj;have XQ:=dS ht h1;refine⟨.value (if t then a.eval x else a.eval y),_,w,?_,.inl rfl,gn.pure S ?_⟩
   ·rw[Xj];simp[asBool]
   ·cases t<;>simpa using XQ
  ·cases h
 case alloc t=>
  rw[aLs]at h;obtain⟨⟨u,l⟩,h1,h2⟩:=h;rw[aLs]at h1;obtain⟨z,h1,h3⟩:=h1;cases h2;cases h3;exact dV.val (RJ V S hf h1)
 case box t x=>
  rw[aLs]at h;obtain⟨⟨u,l⟩,h1,h2⟩:=h;rw[aLs]at h1;obtain⟨z,h1,h3⟩:=h1;cases h2;cases h3;exact dV.val (abz S hf (dS ht h1))
 case build t ps=>
  split at h
  case h_2=>cases h
  rename_i pl z vs h1 h2 h3;rw[aLs]at h;obtain⟨u,h4,h5⟩:=h;rw[aLs]at h4;obtain⟨cs,h4,rfl⟩:=h4;cases h5;refine dV.rT S (RP V h1 h2 ?_ h4)
  have:=WC ht h3
  simpa using this
 case buildSlice t len ps=>
  split at h
  case h_2=>cases h
  rename_i e' _ _ _ _ _ hi;split at h
  case h_2=>cases h
  rename_i ei ku;split at h
  case h_2=>cases h
  rename_i z vs hz hvs;split at h
  case isFalse=>cases h
  rename_i hc;rw[aLs]at h;obtain⟨⟨u,l⟩,h1,h2⟩:=h;rw[aLs]at h1;obtain⟨cs,h1,h3⟩:=h1;cases h2;cases h3;refine dV.val (Cf V S hf hi rfl ku hz ?_ hc.1 hc.2.1 hc.2.2 h1)
  have:=WC ht hvs
  simpa using this
 case load t x=>
  split at h
  case h_2=>cases h
  rename_i p hp;rw[aLs]at h;obtain⟨u,h1,h2⟩:=h;cases h2;exact dV.rT S (SX V S (dS ht hp) h1)
 case store t x y=>
  split at h
  case h_2=>cases h
  rename_i p z hp hz;rw[aLs]at h;obtain⟨u,h1,h2⟩:=h;cases h2;exact dV.unit (OV V S (dS ht hp) (dS ht hz) h1)
 case nilCheck x=>
  split at h
  all_goals first|(cases h;done)|skip
  all_goals
   rename_i hx;cases h;have hr:=dS ht hx;have kB:=hr;simp only[R]at hr
  ·obtain⟨cb,co,_,h2⟩:=hr;rw[h2]at kB⊢;exact dV.now S kB
  ·obtain⟨cb,o,c,e,f,h2,_⟩:=hr;rw[h2]at kB⊢;exact dV.now S kB
  ·rw[hr]at kB⊢;exact dV.now S kB
  ·obtain⟨b1,c1,h2,_⟩:=hr;rw[h2]at kB⊢;exact dV.now S kB
  ·obtain⟨cb,co,_,h2⟩:=hr;rw[h2]at kB⊢;exact dV.now S kB
 case binOp op t x y k=>
  split at h
  case h_2=>cases h
  rename_i p z hp hz;rw[aLs]at h;obtain⟨u,h1,h2⟩:=h;cases h2;exact dV.rT S (Vd V (dS ht hp) (dS ht hz) h1)
 case unOp op t x=>
  split at h
  case h_2=>cases h
  rename_i p hp;rw[aLs]at h;obtain⟨u,h1,h2⟩:=h;cases h2;exact dV.rT S (ae6 (dS ht hp) h1)
 case convert s d x=>
  split at h
  ·cases h
  ·rename_i hx hs hd;split at h
   case h_2=>cases h
   rename_i cs ku pN;rw[aLs]at h;obtain⟨u,h1,h2⟩:=h;rw[aLs]at h1;obtain⟨b',h1,rfl⟩:=h1;cases h2;exact dV.rT S (TY V S hs hd ku rfl rfl rfl (dS ht hx) pN h1)
  ·rename_i x' hx _ _;rw[aLs]at h;obtain⟨u,h1,h2⟩:=h;cases h2;exact dV.rT S (R8 V (dS ht hx) h1)
  ·cases h
 case makeInterface t x=>
  split at h
  case h_2=>cases h
  rename_i i hi;split at h
  ·cases h
  ·rename_i hni;rw[aLs]at h;obtain⟨u,h1,h2⟩:=h;rw[aLs]at h1;obtain⟨z,h1,rfl⟩:=h1;cases h2;refine dV.rT S ⟨.iface t (a.eval x),?_,?_⟩
   ·unfold Instr.makeInterface;simp only[Sem.run_bind,bt V hi w,Result.andThen_ok];rfl
   ·simp only[R];exact⟨_,rfl,dS ht h1⟩
 case makeFunc f first cap=>
  cases f<;>try (cases h;done)
  rename_i f;simp only at h;split at h
  case h_2=>cases h
  rename_i a1 c1 h1 h2;cases h;refine dV.rT S ⟨.func (.func f) (first.map a.eval) (cap.map a.eval),rfl,?_⟩;simp only[R];refine⟨_,_,rfl,?_,?_⟩
  ·have:=I8 ht h1
   simpa using this
  ·have:=I8 ht h2
   simpa using this
 case makeMap t r=>
  split at h
  ·rename_i kt et _ _ _ _ _ hi hr;cases h
   have:=uG ht hr
   simp only[vK]at this;exact dV.val (AJ V S hf hi rfl (.inl this))
  ·rename_i kt et _ _ _ _ _ k n hi hr;cases h
   have:=uG ht hr
   simp only[vK]at this;obtain⟨y,h1,h2⟩:=this;simp only[R]at h2;exact dV.val (AJ V S hf hi rfl (.inr ⟨k,n,by rw[h1,h2]⟩))
  ·cases h
 case makeSlice t l c=>
  split at h
  case h_2=>cases h
  rename_i x y hx hy;rw[aLs]at h;obtain⟨⟨u,l⟩,h1,h2⟩:=h;cases h2;exact dV.val (ER V S hf (dS ht hx) (dS ht hy) h1)
 case slice t x lo hi mx=>
  split at h
  case h_2=>cases h
  rename_i xa la ha hx hl hh;split at h
  ·rw[aLs]at h;obtain⟨u,h1,h2⟩:=h;cases h2;exact dV.rT S (E1 V S (dS ht hx) (uG ht hl) (uG ht hh) h1)
  ·rw[aLs]at h;obtain⟨u,h1,h2⟩:=h;cases h2;exact dV.rT S (OR V (dS ht hx) (uG ht hl) (uG ht hh) h1)
 case fieldAddr t x f=>
  split at h
  case h_2=>cases h
  rename_i p hp;rw[aLs]at h;obtain⟨u,h1,h2⟩:=h;cases h2;exact dV.rT S (CE V (dS ht hp) h1)
 case field t x f=>
  split at h
  case h_2=>cases h
  rename_i p hp;rw[aLs]at h;obtain⟨u,h1,h2⟩:=h;cases h2;exact dV.rT S (MH V (dS ht hp) h1)
 case indexAddr t x y=>
  split at h
  case h_2=>cases h
  rename_i p z hp hz;rw[aLs]at h;obtain⟨u,h1,h2⟩:=h;cases h2;exact dV.rT S (C6 V (dS ht hp) (dS ht hz) h1)
 case index t x y=>
  split at h
  case h_2=>cases h
  rename_i p z hp hz;rw[aLs]at h;obtain⟨u,h1,h2⟩:=h;cases h2;exact dV.rT S (Ng V (dS ht hp) (dS ht hz) h1)
 case lookup t x y ok=>
  split at h
  case h_2=>cases h
  rename_i p z hp hz;rw[aLs]at h;obtain⟨u,h1,h2⟩:=h;cases h2;exact dV.rT S (N8 V S (dS ht hp) (dS ht hz) h1)
 case mapUpdate t m k x=>
  split at h
  case h_2=>cases h
  rename_i p z y hp hz hy;rw[aLs]at h;obtain⟨u,h1,h2⟩:=h;cases h2;exact dV.unit (v7 V S (dS ht hp) (dS ht hz) (dS ht hy) h1)
 case insert t m k x=>
  split at h
  case h_2=>cases h
  rename_i p z y hp hz hy;rw[aLs]at h;obtain⟨u,h1,h2⟩:=h;cases h2;exact dV.unit (v7 V S (dS ht hp) (dS ht hz) (dS ht hy) h1)
 case sliceToArrayPointer t x=>
  split at h
  ·rename_i n el _ _ _ _ _ b off len esz kc hi hx;split at h
   ·cases h
   rename_i eh;cases h;have hr:=dS ht hx;simp only[R]at hr;obtain⟨cb,co,cap,c,e',f,h1,h2,h3,h4,h5,h6⟩:=hr;refine dV.rT S ⟨.pointer (some ⟨cb,co+off,none⟩),?_,?_⟩
   ·rw[h2];simp only[Instr.arrayAt,Sem.run_bind,bt V hi w,Result.andThen_ok,eh,if_false,Sem.run_pure]
   ·simp only[R];exact⟨cb,co,h1,rfl⟩
  ·rename_i n el _ _ _ _ _ cs len hi hx;split at h
   ·cases h
   rename_i eh;cases h;have hr:=dS ht hx;simp only[R]at hr;obtain⟨cb,o',cap,c,e',f,h2,h3,h4,h5,h6⟩:=hr;refine dV.rT S ⟨.pointer (some ⟨cb,o',none⟩),?_,?_⟩
   ·rw[h2];simp only[Instr.arrayAt,Sem.run_bind,bt V hi w,Result.andThen_ok,eh,if_false,Sem.run_pure]
   ·simp only[R];exact⟨cb,o',c,e',f,by simp,h4,h5,h6⟩
  ·cases h
 case range t x=>
  split at h
  case h_2=>cases h
  rename_i z hi hx;cases h;have hr:=dS ht hx;simp only[R]at hr;rw[hr];exact dV.val (Tw V S hf hi rfl)
 case next it isS=>
  cases isS<;>try (cases h;done)
  simp only at h;split at h
  case h_2=>cases h
  rename_i i hit;split at h
  case h_2=>cases h
  rename_i z pos hb;obtain⟨n1,n2⟩:=Y5 (P:=P) S hb (dS ht hit) o.type;split at h
  ·rename_i eh;cases h;obtain⟨w',g1,g2⟩:=n1 eh;exact dV.val ⟨_,w',g1,g2⟩
  ·rename_i eh;cases h;exact dV.rT S ⟨_,n2 eh,by simp[R,Rs]⟩
 case extract t i=>
  split at h
  case h_2=>cases h
  rename_i vs hx;rw[aLs]at h;obtain⟨u,h1,h2⟩:=h;cases h2;have hr:=dS ht hx;simp only[R]at hr;obtain⟨a_,h3,h4⟩:=hr;obtain⟨y,h5,h6⟩:=h4.get _ _ h1;refine dV.rT S ⟨y,?_,h6⟩;rw[h3];rw[aLR]at h5;simp only[Instr.extract,h5,Sem.run_pure]
 case call c=>
  split at h
  ·rename_i bi hc;split at h
   case h_2=>cases h
   rename_i a_ has;rw[aLs]at h;obtain⟨⟨u,l⟩,h1,h2⟩:=h;cases h2;have hr:Rs ι w (Live Lo ι H) a_ (c.args.map a.eval).toList:=by
    have:=I8 ht has
    simpa using this
   obtain⟨cv,w',g1,g2⟩:=GG (ty:=o.type) (cs:=c.args.map fun|.const _=>true|_=>false) V S hf hr h1;refine⟨.value cv,cv,w',?_,.inl rfl,g2⟩;simp only[resolve,hc,Sem.run_bind,Sem.run_pure,Result.andThen_ok,invoke];exact g1
  ·rename_i f hc;simp[rn,ho,hc]at hv
  ·cases h
 all_goals (cases h)
end
section
variable{E:Env}{P:Program}{ι:cT}{w:World}{L L':Nat->Prop}{Lo:Nat->Prop}{w0:World}{H:Hp}
def tv(h:∀c,L' c->L c):Ext w L w L':=⟨aLt _,fun c _ hn=>⟨rfl,fun q=>hn (h c q)⟩,fun _ cs _ f hc=>⟨cs,f,hc,rfl⟩⟩
mutual
def L3(hL:∀c,L' c->L c):∀(av:AV) (v:Value),aU av=true->R ι w L av v->R cg w L' av v
 |.bool _,_,_,h=>by simpa[R]using h
 |.int _ _,_,_,h=>by simpa[R]using h
 |.str _,_,_,h=>by simpa[R]using h
 |.gQ,_,_,h=>by simpa[R]using h
 |.bK _ _,_,p,_=>by simp[aU]at p
 |.cS cs off,v,_,h=>R.ext (tv hL) _ cg _ _ (cT.le_refl _) (by simpa only[R]using h)
 |.ie _ _,_,_,h=>by simpa[R]using h
 |.aH,_,_,h=>by simpa[R]using h
 |.dw,_,_,h=>by simpa[R]using h
 |.aI _ _ _ _ _,_,p,_=>by simp[aU]at p
 |.aK cs n,_,_,h=>R.ext (tv hL) _ cg _ _ (cT.le_refl _) (by simpa only[R]using h)
 |.gb,_,_,h=>by simpa[R]using h
 |.eR _,_,p,_=>by simp[aU]at p
 |.vV ks vs,_,_,h=>R.ext (tv hL) _ cg _ _ (cT.le_refl _) (by simpa only[R]using h)
 |.fR,_,_,h=>by simpa[R]using h
 |.func f a b,_,p,h=>by
  simp only[aU,aM6]at p;simp only[R]at h⊢;obtain⟨x,y,h1,h2,h3⟩:=h;exact⟨x,y,h1,uv hL _ _ p.1 h2,uv hL _ _ p.2 h3⟩
 |.nilIface,_,_,h=>by simpa[R]using h
 |.iface _ x,_,p,h=>by
  simp only[aU]at p;simp only[R]at h⊢;obtain⟨y,h1,h2⟩:=h;exact⟨y,h1,L3 hL _ _ p h2⟩
 |.agg cs,_,p,h=>by
  simp only[aU]at p;simp only[R]at h⊢;obtain⟨y,h1,h2⟩:=h;exact⟨y,h1,uv hL _ _ p h2⟩
 |.tuple cs,_,p,h=>by
  simp only[aU]at p;simp only[R]at h⊢;obtain⟨y,h1,h2⟩:=h;exact⟨y,h1,uv hL _ _ p h2⟩
 |.yield _,_,p,_=>by simp[aU]at p
def uv(hL:∀c,L' c->L c):∀(xs:List AV) (vs:List Value),aV xs=true->Rs ι w L xs vs->Rs cg w L' xs vs
 |[],_,_,h=>by simpa[Rs]using h
 |x::xs,_,p,h=>by
  simp only[aV,aM6]at p;simp only[Rs]at h⊢;obtain⟨y,ys,h1,h2,h3⟩:=h;exact⟨y,ys,h1,L3 hL _ _ p.1 h2,uv hL _ _ p.2 h3⟩
end
def Hr{f:AV->Option (AV×List Nat)}{J:Nat->Prop}(hf:∀(x:AV) (v:Value) (r:AV) (bs:List Nat),R ι w L x v->f x=some (r,bs)->(∀b,b∈bs->J b)->R cg w L' r v):
  ∀(xs:List AV) (vs:List Value) (rs:List (AV×List Nat)),Rs ι w L xs vs->e9 f xs=some rs->(∀b,b∈rs.flatMap (·.2)->J b)->Rs cg w L' (rs.map (·.1)) vs
 |[],vs,rs,h,hm,_=>by
  simp only[e9,aLS.injEq]at hm;subst hm
  simpa[Rs]using h
 |x::xs,vs,rs,h,hm,hb=>by
  simp only[Rs]at h;obtain⟨y,ys,rfl,h2,h3⟩:=h;unfold e9 at hm;split at hm
  ·cases hm
  rename_i r0 hr0;split at hm
  ·cases hm
  rename_i rs0 akM;cases hm;obtain⟨r,bs⟩:=r0;simp only[aM5,Rs];simp only[aNj,aM7]at hb;exact⟨y,ys,rfl,hf _ _ _ _ h2 hr0 (fun b q=>hb b (.inl q)),Hr hf _ _ _ h3 akM (fun b q=>hb b (.inr q))⟩
def E4{c:Array Value}{o:Nat}:∀{xs ys:List AV},ys.length=xs.length->iH ι w L c o xs->Rs cg w L' ys (c.extract o (o+xs.length)).toList->iH cg w L' c o ys:=by
 intro xs ys hl h1 h2;refine iH.gR fun i x hx=>?_
 obtain⟨v,g1,g2⟩:=h2.get i x hx;refine⟨v,?_,g2⟩;rw[aLR,Array.getElem?_extract]at g1;split at g1
 ·exact g1
 ·cases g1
def Dl{α β:Type}{f:α->Option β}:∀{xs:List α} {rs:List β},e9 f xs=some rs->rs.length=xs.length
 |[],rs,h=>by simp only[e9,aLS.injEq]at h;subst h;rfl
 |x::xs,rs,h=>by
  unfold e9 at h;split at h
  ·cases h
  split at h
  ·cases h
  rename_i hr;cases h;simp[Dl hr]
def Jh(S:fT E Lo w0 ι H w)(hL:∀c,L' c->Live Lo ι H c):∀(n:Nat) (av:AV) (v:Value) (r:AV) (bs:List Nat),R ι w (Live Lo ι H) av v->fz H n av=some (r,bs)->
  (∀b,b∈bs->∀cb co,ι b=some (cb,co)->¬L' cb)->R cg w L' r v
 |0,_,_,_,_,_,h,_=>by simp[fz]at h
 |n+1,av,v,r,bs,hr,h,hb=>by
  have ih:=Jh S hL n;have Kw:∀(cs:List AV) (vs:List Value) (rs:List (AV×List Nat)),Rs ι w (Live Lo ι H) cs vs->e9 (fz H n) cs=some rs->(∀b,b∈rs.flatMap (·.2)->∀cb co,ι b=some (cb,co)->¬L' cb)->
    Rs cg w L' (rs.map (·.1)) vs:=fun cs vs rs h1 h2 h3=>Hr (J:=fun b=>∀cb co,ι b=some (cb,co)->¬L' cb) (fun x v r bs a b c=>ih x v r bs a b c) cs vs rs h1 h2 h3
  have base:∀(_:aU av=true),R cg w L' av v:=fun p=>L3 hL _ _ p hr
  cases av<;>simp only[fz]at h
  case bK b off=>
   split at h
   case h_2=>cases h
   rename_i st cs GW;split at h
   ·cases h
   rename_i dx;rw[aLs]at h;obtain⟨⟨c',Vh⟩,h1,h2⟩:=h;rw[aLs]at h1;obtain⟨rs,h1,h3⟩:=h1;cases h3;cases h2
   obtain⟨cb,co,o,g1,g2,g3,_⟩:=S.obj b _ GW dx;simp only[fY]at g3;obtain⟨c,e,f,q1,q2,_⟩:=g3;simp only[R]at hr;obtain⟨D9,co',r1,r2⟩:=hr;rw[g1]at r1;cases r1
   simp only[R];refine⟨cb,co,c,e,f,r2,by rw[g2,q1],hb b (by simp) cb co g1,?_⟩;refine E4 (by simp[Dl h1]) q2 (Kw _ _ _ q2.list h1 fun b' q=>hb b' (by simp at q⊢;exact .inr q))
  case aI b off len esz kc=>
   split at h
   case h_2=>cases h
   rename_i st cs GW;split at h
   ·cases h
   rename_i dx;simp only[aL0,decide_eq_true_eq,not_or,aMk]at dx;rw[aLs]at h;obtain⟨⟨c',Vh⟩,h1,h2⟩:=h;rw[aLs]at h1;obtain⟨rs,h1,h3⟩:=h1;cases h3;cases h2
   obtain⟨cb,co,o,g1,g2,g3,_⟩:=S.obj b _ GW dx.1;simp only[fY]at g3;obtain⟨c,e,f,q1,q2,_⟩:=g3;simp only[R]at hr;obtain⟨D9,co',cap,c2,e2,f2,r1,r2,r3,r4,r5,r6⟩:=hr;rw[g1]at r1;cases r1
   rw[g2,q1]at r5;cases r5
   simp only[R];refine⟨cb,co+off,cap,c,e,f,r2,by omega,by rw[g2,q1],hb b (by simp) cb co g1,?_⟩;have q3:=(q2.drop off).take (len*esz);exact E4 (by simp[Dl h1]) q3 (Kw _ _ _ q3.list h1 fun b' q=>hb b' (by simp at q⊢;exact .inr q))
  case eR b=>
   split at h
   case h_2=>cases h
   rename_i st ks vs GW;split at h
   ·cases h
   rename_i dx;split at h
   case h_2=>cases h
   rename_i k b1 v' b2 hk hv;cases h;rw[aLs]at hk hv;obtain⟨rk,hk,Be⟩:=hk;obtain⟨rv,hv,G5⟩:=hv;cases Be;cases G5
   obtain⟨cb,co,o,g1,g2,g3,_⟩:=S.obj b _ GW dx;simp only[fY]at g3;obtain⟨es,clock,q1,q2,q3,_⟩:=g3;simp only[R]at hr;obtain⟨D9,co',r1,r2⟩:=hr;rw[g1]at r1;cases r1
   simp only[R];refine⟨cb,es,clock,r2,by rw[g2,q1],hb b (by simp) cb co g1,Kw _ _ _ q2 hk fun b' q=>hb b' ?_,Kw _ _ _ q3 hv fun b' q=>hb b' ?_⟩
   ·simp at q⊢;exact .inr (.inl q)
   ·simp at q⊢;exact .inr (.inr q)
  case agg cs=>
   rw[aLs]at h;obtain⟨⟨c',Vh⟩,h1,h2⟩:=h;rw[aLs]at h1;obtain⟨rs,h1,h3⟩:=h1;cases h3;cases h2
   simp only[R]at hr⊢;obtain⟨vs,h4,h5⟩:=hr;exact⟨vs,h4,Kw _ _ _ h5 h1 hb⟩
  case tuple cs=>
   rw[aLs]at h;obtain⟨⟨c',Vh⟩,h1,h2⟩:=h;rw[aLs]at h1;obtain⟨rs,h1,h3⟩:=h1;cases h3;cases h2
   simp only[R]at hr⊢;obtain⟨vs,h4,h5⟩:=hr;exact⟨vs,h4,Kw _ _ _ h5 h1 hb⟩
  case iface t x=>
   rw[aLs]at h;obtain⟨⟨c',Vh⟩,h1,h2⟩:=h;cases h2;simp only[R]at hr⊢;obtain⟨y,h4,h5⟩:=hr;exact⟨y,h4,ih _ _ _ _ h5 h1 hb⟩
  case func f a c=>
   split at h
   case h_2=>cases h
   rename_i a' b1 c' b2 hk hv;cases h;rw[aLs]at hk hv;obtain⟨rk,hk,Be⟩:=hk;obtain⟨rv,hv,G5⟩:=hv;cases Be;cases G5
   simp only[R]at hr⊢;obtain⟨x,y,h1,h2,h3⟩:=hr;exact⟨x,y,h1,Kw _ _ _ h2 hk fun b' q=>hb b' (List.mem_append_left _ q),Kw _ _ _ h3 hv fun b' q=>hb b' (List.mem_append_right _ q)⟩
  case yield l=>cases h
  all_goals
   cases h;exact base rfl
def kF:∀(bs:List Nat) (H:Hp) (b:Nat),(mark H bs)[b]?=if b∈bs then(H[b]?).map cE.j8 else H[b]?:=by
 intro bs;induction bs with
 |nil=>intro H b;simp[mark]
 |cons x bs ih=>
  intro H b;have idem:∀k:cE,k.j8.j8=k.j8:=by
   intro k;cases k
   case cells st cs=>cases st<;>rfl
   case map st ks vs=>cases st<;>rfl
   case iF=>rfl
   case loop=>rfl
  have:=ih (H.modify x cE.j8) b
  simp only[mark,aNd]at this⊢;rw[this,List.getElem?_modify];by_cases e:x=b
  ·subst e;by_cases hm:x∈bs
   ·simp[hm];cases H[x]?<;>simp[idem]
   ·simp[hm]
  ·have e':b≠x:=fun q=>e q.symm
   simp[e,e']
def Dn(bs:List Nat):∀(H:Hp),(mark H bs).length=H.length:=by
 induction bs with
 |nil=>intro H;rfl
 |cons x bs ih=>intro H;simp only[mark,aNd]at ih⊢;rw[ih];simp
def DZ(k:cE):k.j8=k/\(k.st=.live->∃s p,k=.iF s p∨∃a b c d e f,k=.loop a b c d e f)∨
  k.st=.live/\k.j8.st=.ro/\∀ι w L co o,fY ι w L co k o->fY ι w L co k.j8 o:=by
 cases k
 case cells st cs=>
  cases st
  ·exact .inr ⟨rfl,rfl,fun ι w L co o h=>by simp only[cE.j8,fY]at h⊢;obtain⟨c,e,f,h1,h2,_⟩:=h;exact⟨c,e,f,h1,h2,fun q=>by cases q⟩⟩
  ·exact .inl ⟨rfl,fun q=>by cases q⟩
  ·exact .inl ⟨rfl,fun q=>by cases q⟩
 case map st ks vs=>
  cases st
  ·exact .inr ⟨rfl,rfl,fun ι w L co o h=>by simp only[cE.j8,fY]at h⊢;obtain⟨es,c,h1,h2,h3,_⟩:=h;exact⟨es,c,h1,h2,h3,fun q=>by cases q⟩⟩
  ·exact .inl ⟨rfl,fun q=>by cases q⟩
  ·exact .inl ⟨rfl,fun q=>by cases q⟩
 case iF s p=>exact .inl ⟨rfl,fun _=>⟨s,p,.inl rfl⟩⟩
 case loop a b c d e f=>exact .inl ⟨rfl,fun _=>⟨[],0,.inr ⟨a,b,c,d,e,f,rfl⟩⟩⟩
def fT.mark(S:fT E Lo w0 ι H w)(bs:List Nat):fT E Lo w0 ι (mark H bs) w/\Ext w (Live Lo ι H) w (Live Lo ι (mark H bs)):=
 S.weaken (Dn bs H) (fun b hb=>by
  rw[kF]at hb;split at hb
  ·rw[aLs]at hb;obtain⟨k,h1,h2⟩:=hb;rw[h1];cases k<;>simp only[dp,cE.j8]at h2⊢
   case cells st cs=>cases st<;>simp[]at h2⊢;exact h2
   case map st a b=>cases st<;>simp[]at h2
   all_goals cases h2
  ·exact hb) fun b dI hb hd=>by
  rw[kF]at hb;split at hb
  ·rw[aLs]at hb;obtain⟨k,h1,rfl⟩:=hb;rcases DZ k with⟨h2,_⟩|⟨h2,h3,h4⟩
   ·rw[h2];exact .inl h1
   ·exact .inr ⟨k,h1,h2,h3,h4⟩
  ·exact .inl hb
def Ky{f:AV->Option (AV×List Nat)}{J:Nat->Prop}(hf:∀(x r:AV) (bs:List Nat),f x=some (r,bs)->∀b,b∈bs->J b):
  ∀(xs:List AV) (rs:List (AV×List Nat)),e9 f xs=some rs->∀b,b∈rs.flatMap (·.2)->J b
 |[],rs,hm,b,hb=>by
  simp only[e9,aLS.injEq]at hm;subst hm
  simp at hb
 |x::xs,rs,hm,b,hb=>by
  unfold e9 at hm;split at hm
  ·cases hm
  rename_i r0 hr0;split at hm
  ·cases hm
  rename_i rs0 akM;cases hm;simp only[aNj,aM7]at hb;rcases hb with hb|hb
  ·exact hf _ _ _ hr0 b hb
  ·exact Ky hf _ _ akM b hb
def UW(H:Hp)(b:Nat):Prop:=∃dI,H[b]?=some dI/\dI.st≠ .dead/\dI.j8.st=.ro
def CO(H:Hp):∀(n:Nat) (av r:AV) (bs:List Nat),fz H n av=some (r,bs)->∀b,b∈bs->UW H b
 |0,_,_,_,h,_,_=>by simp[fz]at h
 |n+1,av,r,bs,h,b0,Ip=>by
  have Kw:∀(cs:List AV) (rs:List (AV×List Nat)),e9 (fz H n) cs=some rs->∀b,b∈rs.flatMap (·.2)->UW H b:=
   fun cs rs=>Ky (fun x r bs h b hb=>CO H n x r bs h b hb) cs rs
  have here:∀(st:qW) (cs:List AV) (b:Nat),H[b]?=some (.cells st cs)->st≠ .dead->UW H b:=fun st cs b h1 h2=>
   ⟨_,h1,h2,by cases st<;>first|rfl|exact absurd rfl h2⟩
  cases av<;>simp only[fz]at h
  case bK b off=>
   split at h
   case h_2=>cases h
   rename_i st cs GW;split at h
   ·cases h
   rename_i dx;rw[aLs]at h;obtain⟨⟨c',Vh⟩,h1,h2⟩:=h;rw[aLs]at h1;obtain⟨rs,h1,h3⟩:=h1;cases h3;cases h2
   rcases aNe.1 Ip with rfl|hb
   ·exact here _ _ _ GW dx
   ·exact Kw _ _ h1 _ hb
  case aI b off len esz kc=>
   split at h
   case h_2=>cases h
   rename_i st cs GW;split at h
   ·cases h
   rename_i dx;simp only[aL0,decide_eq_true_eq,not_or,aMk]at dx;rw[aLs]at h;obtain⟨⟨c',Vh⟩,h1,h2⟩:=h;rw[aLs]at h1;obtain⟨rs,h1,h3⟩:=h1;cases h3;cases h2
   rcases aNe.1 Ip with rfl|hb
   ·exact here _ _ _ GW dx.1
   ·exact Kw _ _ h1 _ hb
  case eR b=>
   split at h
   case h_2=>cases h
   rename_i st ks vs GW;split at h
   ·cases h
   rename_i dx;split at h
   case h_2=>cases h
   rename_i k b1 v' b2 hk hv;cases h;rw[aLs]at hk hv;obtain⟨rk,hk,Be⟩:=hk;obtain⟨rv,hv,G5⟩:=hv;cases Be;cases G5
   rcases aNe.1 Ip with rfl|hb
   ·exact⟨_,GW,dx,by cases st<;>first|rfl|exact absurd rfl dx⟩
   ·rcases aM7.1 hb with hb|hb
    ·exact Kw _ _ hk _ hb
    ·exact Kw _ _ hv _ hb
  case agg cs=>
   rw[aLs]at h;obtain⟨⟨c',Vh⟩,h1,h2⟩:=h;rw[aLs]at h1;obtain⟨rs,h1,h3⟩:=h1;cases h3;cases h2
   exact Kw _ _ h1 _ Ip
  case tuple cs=>
   rw[aLs]at h;obtain⟨⟨c',Vh⟩,h1,h2⟩:=h;rw[aLs]at h1;obtain⟨rs,h1,h3⟩:=h1;cases h3;cases h2
   exact Kw _ _ h1 _ Ip
  case iface t x=>
   rw[aLs]at h;obtain⟨⟨c',Vh⟩,h1,h2⟩:=h;cases h2;exact CO H n _ _ _ h1 _ Ip
  case func f a c=>
   split at h
   case h_2=>cases h
   rename_i a' b1 c' b2 hk hv;cases h;rw[aLs]at hk hv;obtain⟨rk,hk,Be⟩:=hk;obtain⟨rv,hv,G5⟩:=hv;cases Be;cases G5
   rcases aM7.1 Ip with hb|hb
   ·exact Kw _ _ hk _ hb
   ·exact Kw _ _ hv _ hb
  case yield l=>cases h
  all_goals
   cases h;simp at Ip
def qb(S:fT E Lo w0 ι H w){vs a_:List AV}{PQ:List Value}{bs:List Nat}(hr:Rs ι w (Live Lo ι H) vs PQ)(h:bX H vs=some (a_,bs)):
  Rs cg w (Live Lo ι (mark H bs)) a_ PQ:=by
 have M:=S.mark bs;have hL:∀c,Live Lo ι (mark H bs) c->Live Lo ι H c:=by
  rintro c (hc|⟨b,bk,co,h1,h2,h3⟩)
  ·exact .inl hc
  ·rw[kF]at h1;split at h1
   ·rw[aLs]at h1;obtain⟨k,h4,rfl⟩:=h1;rcases DZ k with⟨h5,_⟩|⟨_,h5,_⟩
    ·rw[h5]at h2;exact .inr ⟨b,k,co,h4,h2,h3⟩
    ·rw[h2]at h5;cases h5
   ·exact .inr ⟨b,bk,co,h1,h2,h3⟩
 unfold bX at h;split at h
 ·rename_i hp;cases h;exact uv hL _ _ hp hr
 split at h
 ·cases h
 rename_i r hm;cases h;refine Hr (J:=fun b=>b∈r.flatMap (·.2)) (f:=fz H 40) (fun x v rr bs h1 h2 h3=>Jh S hL 40 x v rr bs h1 h2 fun b hb cb co hi=>?_) vs PQ r hr hm (fun b hb=>hb);obtain⟨dI,g1,g2,g3⟩:=CO H 40 x rr bs h2 b hb;have g4:(mark H (r.flatMap (·.2)))[b]?=some dI.j8:=by rw[kF,if_pos (h3 b hb),g1];rfl
 obtain⟨D9,co',o,k1,k2,k3,k4,k5⟩:=M.1.obj b _ g4 (by rw[g3];simp);rw[hi]at k1;cases k1
 exact k5 g3
end
structure Ei(w:World)(L:Nat->Prop)(w':World)(L':Nat->Prop):Prop where
 QZ:∀{c:Nat} {cs:Array Value} {e:TypeId} {f:Nat×Nat},w.heap[c]?=some (.cells cs e f)->¬L c->w'.heap[c]?=some (.cells cs e f)/\¬L' c
 aul:∀{c:Nat} {es:Array MapEntry} {k:Nat},w.heap[c]?=some (.map es k)->¬L c->w'.heap[c]?=some (.map es k)/\¬L' c
 shape:∀(c:Nat) (cs:Array Value) (e:TypeId) (f:Nat×Nat),w.heap[c]?=some (Obj.cells cs e f)->∃(As:Array Value) (f':Nat×Nat),w'.heap[c]?=some (Obj.cells As e f')/\As.size=cs.size
def Ext.k{w w':World}{L L':Nat->Prop}(h:Ext w L w' L'):Ei w L w' L':=⟨fun h1 h2=>h.keep h1 h2,fun h1 h2=>h.keep h1 h2,h.shape⟩
mutual
def R.k7{w w':World}{L L':Nat->Prop}(he:Ei w L w' L'):∀(av:AV) (ι ι':cT) (v:Value),ι.le ι'->R ι w L av v->R ι' w' L' av v
 |.bool _,_,_,_,_,h=>by simpa[R]using h
 |.int _ _,_,_,_,_,h=>by simpa[R]using h
 |.str _,_,_,_,_,h=>by simpa[R]using h
 |.gQ,_,_,_,_,h=>by simpa[R]using h
 |.bK _ _,_,_,_,hi,h=>by
  simp only[R]at h⊢;obtain⟨cb,co,h1,h2⟩:=h;exact⟨cb,co,hi _ _ h1,h2⟩
 |.cS cs _,_,_,_,_,h=>by
  simp only[R]at h⊢;obtain⟨cb,o,c,e,f,h1,h2,h3,h4⟩:=h
  have:=he.QZ h2 h3
  exact⟨cb,o,c,e,f,h1,this.1,this.2,iH.k7 he cs cg cg c o (cT.le_refl _) h4⟩
 |.ie _ _,_,_,_,_,h=>by simpa[R]using h
 |.aH,_,_,_,_,h=>by simpa[R]using h
 |.dw,_,_,_,_,h=>by simpa[R]using h
 |.aI _ _ _ _ _,_,_,_,hi,h=>by
  simp only[R]at h⊢;obtain⟨cb,co,cap,c,e,f,h1,h2,h3,h4,h5,h6⟩:=h;obtain⟨c',f',g1,g2⟩:=he.shape cb c e f h5;exact⟨cb,co,cap,c',e,f',hi _ _ h1,h2,h3,h4,g1,by omega⟩
 |.aK cs _,_,_,_,_,h=>by
  simp only[R]at h⊢;obtain⟨cb,o,cap,c,e,f,h1,h2,h3,h4,h5⟩:=h
  have:=he.QZ h3 h4
  exact⟨cb,o,cap,c,e,f,h1,h2,this.1,this.2,iH.k7 he cs cg cg c o (cT.le_refl _) h5⟩
 |.gb,_,_,_,_,h=>by simpa[R]using h
 |.eR _,_,_,_,hi,h=>by
  simp only[R]at h⊢;obtain⟨cb,co,h1,h2⟩:=h;exact⟨cb,co,hi _ _ h1,h2⟩
 |.vV ks vs,_,_,_,_,h=>by
  simp only[R]at h⊢;obtain⟨cb,es,clock,h1,h2,h3,h4,h5⟩:=h
  have:=he.aul h2 h3
  exact⟨cb,es,clock,h1,this.1,this.2,Rs.k7 he ks cg cg _ (cT.le_refl _) h4,Rs.k7 he vs cg cg _ (cT.le_refl _) h5⟩
 |.fR,_,_,_,_,h=>by simpa[R]using h
 |.func _ a b,ι,ι',_,hi,h=>by
  simp only[R]at h⊢;obtain⟨x,y,h1,h2,h3⟩:=h;exact⟨x,y,h1,Rs.k7 he a ι ι' _ hi h2,Rs.k7 he b ι ι' _ hi h3⟩
 |.nilIface,_,_,_,_,h=>by simpa[R]using h
 |.iface _ x,ι,ι',_,hi,h=>by
  simp only[R]at h⊢;obtain⟨y,h1,h2⟩:=h;exact⟨y,h1,R.k7 he x ι ι' y hi h2⟩
 |.agg cs,ι,ι',_,hi,h=>by
  simp only[R]at h⊢;obtain⟨y,h1,h2⟩:=h;exact⟨y,h1,Rs.k7 he cs ι ι' _ hi h2⟩
 |.tuple cs,ι,ι',_,hi,h=>by
  simp only[R]at h⊢;obtain⟨y,h1,h2⟩:=h;exact⟨y,h1,Rs.k7 he cs ι ι' _ hi h2⟩
 |.yield _,_,_,_,hi,h=>by
  simp only[R]at h⊢;obtain⟨cb,co,h1,h2⟩:=h;exact⟨cb,co,hi _ _ h1,h2⟩
def Rs.k7{w w':World}{L L':Nat->Prop}(he:Ei w L w' L'):∀(xs:List AV) (ι ι':cT) (vs:List Value),ι.le ι'->Rs ι w L xs vs->Rs ι' w' L' xs vs
 |[],_,_,_,_,h=>by simpa[Rs]using h
 |x::xs,ι,ι',_,hi,h=>by
  simp only[Rs]at h⊢;obtain⟨y,ys,h1,h2,h3⟩:=h;exact⟨y,ys,h1,R.k7 he x ι ι' y hi h2,Rs.k7 he xs ι ι' ys hi h3⟩
def iH.k7{w w':World}{L L':Nat->Prop}(he:Ei w L w' L'):∀(xs:List AV) (ι ι':cT) (c:Array Value) (o:Nat),ι.le ι'->iH ι w L c o xs->iH ι' w' L' c o xs
 |[],_,_,_,_,_,_=>by simp[iH]
 |x::xs,ι,ι',c,o,hi,h=>by
  simp only[iH]at h⊢;obtain⟨⟨y,h1,h2⟩,h3⟩:=h;exact⟨⟨y,h1,R.k7 he x ι ι' y hi h2⟩,iH.k7 he xs ι ι' c (o+1) hi h3⟩
end
section
variable{E:Env}{P:Program}{ι:cT}{w:World}{L L':Nat->Prop}{Lo:Nat->Prop}{w0:World}{H:Hp}
def Dz{k:Nat}{o o':Obj}(h:w.heap[k]?=some o)(h1:∀cs e f,o≠ .cells cs e f:=by simp)(h2:∀es c,o≠ .map es c:=by simp):Ei w L (jO w k o') L:=by
 have key:∀(c:Nat) (ob:Obj),w.heap[c]?=some ob->c≠k->(jO w k o').heap[c]?=some ob:=fun c ob hc hn=>by
  simp only[jO];rw[aNa (fun e=>hn e.symm)];exact hc
 refine⟨fun{c cs e f} hc hl=>⟨key c _ hc fun q=>?_,hl⟩,fun{c es n} hc hl=>⟨key c _ hc fun q=>?_,hl⟩,fun c cs e f hc=>⟨cs,f,key c _ hc fun q=>?_,rfl⟩⟩
 ·subst q;rw[h]at hc;cases hc;exact h1 _ _ _ rfl
 ·subst q;rw[h]at hc;cases hc;exact h2 _ _ rfl
 ·subst q;rw[h]at hc;cases hc;exact h1 _ _ _ rfl
def fY.k7{w':World}(he:Ei w L w' L'){ι':cT}(hi:ι.le ι'){co:Nat}{dI:cE}{o:Obj}(h:fY ι w L co dI o):fY ι' w' L' co dI o:=by
 cases dI<;>simp only[fY]at h⊢
 case cells=>obtain⟨c,e,f,h1,h2,h3⟩:=h;exact⟨c,e,f,h1,iH.k7 he _ _ _ _ _ hi h2,h3⟩
 case map=>obtain⟨es,k,h1,h2,h3,h4⟩:=h;exact⟨es,k,h1,Rs.k7 he _ _ _ _ hi h2,Rs.k7 he _ _ _ _ hi h3,h4⟩
 case iF=>exact h
 case loop=>obtain⟨l,h1,h2,h3,h4,h5⟩:=h;exact⟨l,h1,h2,h3,Rs.k7 he _ _ _ _ hi h4,h5⟩
def fT.other(S:fT E Lo w0 ι H w){k:Nat}{ds:Option (List Deferred)}{o':Obj}(h:w.heap[k]?=some (.deferred ds))(hk:w0.heap.size<=k):
  fT E Lo w0 ι H (jO w k o')/\Ei w (Live Lo ι H) (jO w k o') (Live Lo ι H):=by
 have X:Ei w (Live Lo ι H) (jO w k o') (Live Lo ι H):=Dz h;have O:=kR (o:=o') (w1:=w) rfl rfl rfl rfl h;have ne:∀(c:Nat) (ob:Obj),w.heap[c]?=some ob->(∀ds,ob≠ .deferred ds)->(jO w k o').heap[c]?=some ob:=fun c ob hc hd=>by
  rw[O.there c (fun q=>by subst q;rw[h]at hc;cases hc;exact hd _ rfl)];exact hc
 refine⟨⟨S.below.trans (O.below hk),S.lo,?_,?_,S.inj,?_,S.qa,S.res⟩,X⟩
 ·intro b p hp
  have:=S.Ik b p hp
  exact⟨this.1,by rw[O.size];exact this.2⟩
 ·intro b dI hb hd;obtain⟨cb,co,ob,g1,g2,g3,g4,g5⟩:=S.obj b dI hb hd;refine⟨cb,co,ob,g1,ne cb ob g2 ?_,g3.k7 X (cT.le_refl _),g4,g5⟩;intro ds' q;subst q;cases dI<;>simp only[fY]at g3
  case cells=>obtain⟨_,_,_,q,_⟩:=g3;cases q
  case map=>obtain⟨_,_,q,_⟩:=g3;cases q
  case iF=>cases g3.2
  case loop=>obtain⟨_,q,_⟩:=g3;cases q
 ·intro g cs hg;obtain⟨c,e,f,h1,h2,h3,hz⟩:=S.glob g cs hg;exact⟨c,e,f,(X.QZ h1 h2).1,h2,iH.k7 X _ _ _ _ _ (cT.le_refl _) h3,hz⟩
end
end Dv
