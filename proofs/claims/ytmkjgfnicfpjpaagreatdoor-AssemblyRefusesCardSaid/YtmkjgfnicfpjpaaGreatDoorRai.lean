/- Lemmas for AssemblyRefuses; no condition. -/
import Derived.Test.YtmkjgfnicfpjpaaGreatDoorRag
import Derived.WalkKit
import Derived.Shelf.Spec.SlicesInsert
set_option linter.all false
set_option maxHeartbeats 100000000
set_option maxRecDepth 100000
noncomputable section
open List renaming getElem?_eq_some_iff->aLq,length_drop->aPj,getElem?_append_left->aOr,length_append->aL9,take_of_length_le->aPk,length_take->aPl,take->aPn,take_length->aPo,all_eq_true->aMf,drop->aPp,drop_eq_nil_of_le->aPq,take_append_drop->aPr,mem_of_mem_drop->aPs,getElem?_append->aLw
open Nat renaming mul_le_mul_right->aLZ,le_refl->aLt,add_zero->aPm
open Option renaming some->aLS,isSome_iff_exists->aNb,map_eq_some_iff->aLs
namespace Go.Proofs.YtmkjgfnicfpjpaaGreatDoor
open Go Go.RowKit Dv
section
variable{P:Program}{w:World}
def Ar{t e ty:TypeId}{esz cb o dl dc sb so sl sc m:Nat}{c c2:Array Value}{d d2:TypeId}{f f2:Nat×Nat}(eC:P.underlying t=some (.slice e))(mh:∀w,(Go.sizeOf e).run P w=.ok esz w)
  (hm:min sl dl=m) (hc:w.heap[cb]?=some (.cells c d f)) (hs:w.heap[sb]?=some (.cells c2 d2 f2)) (h1:o+m*esz<=c.size) (h2:so+m*esz<=c2.size)
  (hf:∀k,k<c.size->¬(f.1<=k/\k<f.2)) (vO:∀v∈(c2.extract so (so+m*esz)).toList,v.oneCell'=true):
  (Builtin.copy_ #[t,t] ty #[.slice (some ⟨cb,o,none⟩) dl dc,.slice (some ⟨sb,so,none⟩) sl sc]).run P w=.ok (goInt m) (w.setCells cb o (c2.extract so (so+m*esz)).toList):=by
 have hu:=run_underlying (P:=P) eC w;have hlen:(c2.extract so (so+m*esz)).toList.length=m*esz:=by simp;omega
 have x1:(Builtin.lenOf (.slice (some ⟨sb,so,none⟩) sl sc)).run P w=.ok sl w:=by simp[Builtin.lenOf]
 have xm:=ou (P:=P) (w:=w) (cb:=sb) (o:=so) (m:=m) (esz:=esz) (len:=sl) (cap:=sc) hs h2;have T:=run_storeCells_cells (P:=P) cb o (c2.extract so (so+m*esz)).toList 0 w (fun j hj=>by
   rw[hlen]at hj;rw[pJ hc,Array.getElem?_eq_getElem (show o+0+j<c.size by omega)];rfl) (fun j hj=>by
   rw[hlen]at hj
   have:=hf (o+0+j) (by omega)
   simp only[World.frozen?,hc];simpa using this) vO
 rw[aPm]at T;have MZ:Nat.min sl dl=m:=hm;simp only[Builtin.copy_,List.getElem?_toArray,List.getElem?_cons_zero,List.getElem?_cons_succ,Sem.run_bind,hu,Result.andThen_ok,x1,mh w,MZ,xm,T,Sem.run_pure,goInt]
end
def auf(i:sk)(e:Nat):Bool:=match i.cD with|.slice f=>f==e|_=>false
def tyS:∃i,E0.ty 135=some i/\i.cD=.slice 62:=by
 have h:(E0.ty 135).map (auf · 62)=some true:=by kernel_rfl
 obtain⟨i,h1,h2⟩:=aLs.1 h;refine⟨i,h1,?_⟩;unfold auf at h2;split at h2
 ·rename_i f hf;rw[hf,eq_of_beq h2]
 ·cases h2
def tyE:∃ei,E0.ty 62=some ei/\ei.size=12/\ei.bytes<=1000/\0<ei.bytes/\ei.zero.isSome=true:=by
 have h:(E0.ty 62).map (fun i=>decide (i.size=12)&&decide (i.bytes<=1000)&&decide (0<i.bytes)&&i.zero.isSome)=some true:=by kernel_rfl
 cases hi:E0.ty 62 with
 |none=>rw[hi]at h;cases h
 |some i=>
  rw[hi]at h;have h:=aLS.inj h;simp only[Bool.and_eq_true,decide_eq_true_eq]at h;exact⟨i,rfl,h.1.1.1,h.1.1.2,h.1.2,h.2⟩
section
variable{Lo:Nat->Prop}{w0:World}{ι:cT}{H:Hp}{w:World}
def ye(S:fT E0 Lo w0 ι H w):mG ι H H.length:=by
 refine⟨?_,.inl rfl⟩;cases h:ι H.length with
 |none=>rfl
 |some p=>exact absurd (S.Ik _ _ h).1 (Nat.lt_irrefl _)
def U9{c:Nat}{x:List AV}(hx:H[c]?=some (.cells .live x))(hl:x.length=12)(ho:x.all cN=true):
  er E0 H H.length false 135 .aH (.aI c 0 1 12 1)=some (.aI H.length 0 1 12 1,[(H.length,.cells .live x)]):=by
 obtain⟨i,h1,h2⟩:=tyS;obtain⟨ei,h3,h4,h5,h6,h7⟩:=tyE;obtain⟨cD,jA,jS,jB,jZ,dK⟩:=i;simp only at h2;subst h2
 have hz:ei.zero.isNone=false:=by cases hh:ei.zero<;>simp_all
 have ph:sD H ei false (.aI c 0 1 12 1)=some (1,x):=by
  have ht:aPn 12 x=x:=by rw[<-hl,aPo]
  simp[sD,mU,oM,iI,hx,h4,hl,ht]
 unfold er;simp only[h1,h3,ph];rw[if_neg (by omega),if_neg (by rw[ho,hz,h4];simp),if_pos ⟨by unfold fH;omega,by omega⟩,h4]
def U8{b c n:Nat}{x cs:List AV}(hx:H[c]?=some (.cells .live x))(hl:x.length=12)(ho:x.all cN=true)(hb:H[b]?=some (.cells .live cs))(oB:cs.length=n*12)(hn:0<n)(zO:n<1000):
  er E0 H H.length false 135 (.aI b 0 n 12 n) (.aI c 0 1 12 1)=some (.aI H.length 0 (n+1) 12 (n+1),[(b,.cells .dead []),(H.length,.cells .live (cs++x))]):=by
 obtain⟨i,h1,h2⟩:=tyS;obtain⟨ei,h3,h4,h5,h6,h7⟩:=tyE;obtain⟨cD,jA,jS,jB,jZ,dK⟩:=i;simp only at h2;subst h2
 have hz:ei.zero.isNone=false:=by cases hh:ei.zero<;>simp_all
 have ph:sD H ei false (.aI c 0 1 12 1)=some (1,x):=by
  have ht:aPn 12 x=x:=by rw[<-hl,aPo]
  simp[sD,mU,oM,iI,hx,h4,hl,ht]
 have hm:=Nat.mul_le_mul_left (n+1) h5;unfold er;simp only[h1,h3,ph];rw[if_neg (by omega),if_neg (by rw[ho,hz,h4];simp)];simp only[hb];rw[if_neg (by omega),if_pos ⟨h4.symm,by omega,by unfold fH;omega,by omega⟩,List.drop_zero,<-oB,aPo]
def Rn{f:Nat}{vs:Array Value}{post:Ending->World->Prop}{Rr:Value->World->Prop}(h:(E0.fn f).isSome=true)(hc:Calls Tryz.prog f vs w post)(hm:∀e w',post e w'->LK Rr e w'):lQ Tryz.prog ((callFunc f vs).run Tryz.prog w) Rr:=by obtain⟨fi,lT⟩:=aNb.1 h;exact .inr (.inl ⟨f,vs,w,jR fq lT vs w,callsIn_wide.2 (hc.mono hm)⟩)
def Qu{s v:AV}{st:List (Nat×cE)}{base:Option Addr}{n cap xb xo qn:Nat}(S:fT E0 Lo w0 ι H w){c:Nat}(hs:R ι w (Live Lo ι H) s (.slice base n cap))(hn:n<=cap)(C0:base=none->n=0)(hx:R ι w (Live Lo ι H) (.aI c 0 1 12 1) (.slice (some ⟨xb,xo,none⟩) 1 qn))
  (h:er E0 H H.length false 135 s (.aI c 0 1 12 1)=some (v,st)):
  Calls Tryz.prog 215 #[.slice base n cap,.int .i64 n,.slice (some ⟨xb,xo,none⟩) 1 qn] w fun e w'=>∃cv,e=.returned cv/\Dv.gn E0 Lo w0 ι H w v (.bJ st) cv w':=by
 obtain⟨i,h1,h2⟩:=tyS;have key:∀ty,∃cv w',(Builtin.append_ #[135,135] ty #[.slice base n cap,.slice (some ⟨xb,xo,none⟩) 1 qn]).run Tryz.prog w=.ok cv w'/\Dv.gn E0 Lo w0 ι H w v (.bJ st) cv w':=fun ty=>
  Cb (ty:=ty) (ats:=#[135,135]) (args:=#[.slice base n cap,.slice (some ⟨xb,xo,none⟩) 1 qn]) fq S (ye S) rfl rfl rfl rfl h1 (by rw[h2];intro k hk;cases hk) hs hx h
 obtain⟨cv,w',gy,FE⟩:=key 135;have mixed:=uE
 go_enter Tryz.func215,Tryz.ntmps215
 cases base with
 |none=>
  obtain rfl:=C0 rfl
  go_wp2_with (at_builtin;refine Lib.wpList_append_run _ rfl _ _ _ _ rfl _ _ rfl rfl _ _ gy ?_)
  go_ret
  exact⟨_,rfl,FE⟩
 |some a=>
  obtain⟨ab,ao,asp⟩:=a
  go_wp2_with (at_builtin;refine Lib.wpList_append_run _ rfl _ _ _ _ rfl _ _ rfl rfl _ _ gy ?_)
  all_goals (go_ret;exact⟨_,rfl,FE⟩)
end
section
variable{w:World}
def T6{cb o n cap i xb xo qn N G:Nat}{W1 W2 W3:World}(hi:i<n)(hn:n<=cap)(hc:cap<n+1)(zO:n<1000)(hG:n+1<=G)(ast:G<=9223372036854775807)
  (h1:∀ty,(Builtin.append_ #[135,3] ty #[.slice (some ⟨cb,o,none⟩) i cap,.int .i64 ((n:Int)+1-(i:Int))]).run Tryz.prog w=.ok (.slice (some ⟨N,0,none⟩) (n+1) G) W1)
  (h2:∃c2,(Builtin.copy_ #[135,135] 3 #[.slice (some ⟨N,i*12,none⟩) (n+1-i) (G-i),.slice (some ⟨xb,xo,none⟩) 1 qn]).run Tryz.prog W1=.ok c2 W2)
  (h3:∃c3,(Builtin.copy_ #[135,135] 3 #[.slice (some ⟨N,(i+1)*12,none⟩) (n+1-(i+1)) (G-(i+1)),.slice (some ⟨cb,o+i*12,none⟩) (n-i) (cap-i)]).run Tryz.prog W2.drew=.ok c3 W3):
  Calls Tryz.prog 215 #[.slice (some ⟨cb,o,none⟩) n cap,.int .i64 i,.slice (some ⟨xb,xo,none⟩) 1 qn] w fun e w'=>
   e=.returned (.slice (some ⟨N,0,none⟩) (n+1) G)/\w'=W3:=by
 obtain⟨c2,h2⟩:=h2;obtain⟨c3,h3⟩:=h3;have mixed:=uE;have Uu:¬((1:Int)=0):=by omega
 have Uv:¬((i:Int)=(n:Int)):=by omega
 have hz3:(cap:Int)<(n:Int)+1:=by omega
 have yq:IntKind.i64.wrap ((i:Int)+1)=(i:Int)+1:=by rw[IntKind.wrap_i64];omega
 have Bj:IntKind.i64.wrap ((n:Int)+1)=(n:Int)+1:=by rw[IntKind.wrap_i64];omega
 have mP:(0:Int)<=(i:Int)+1:=by omega
 have LM:i<=n:=by omega
 have M9:((i:Int)+1).toNat=i+1:=by omega
 have hb3:(i:Int)<=(n:Int):=by omega
 go_enter Tryz.func215,Tryz.ntmps215
 go_wp2_with (first
  |(at_builtin;refine Lib.wpList_append_run _ rfl _ _ _ _ rfl _ _ rfl rfl _ _ (h1 _) ?_)
  |(at_builtin;refine wpList_copy_runI _ rfl _ _ 135 135 rfl _ _ rfl rfl h2 ?_))
 go_region_law_o (refine step_copy_runI rfl _ _ 135 135 rfl (.slice (some ⟨N,(i+1)*12,none⟩) (n+1-(i+1)) (G-(i+1))) (.slice (some ⟨cb,o+i*12,none⟩) (n-i) (cap-i)) (by simp[Act.eval,Act.put];omega) (by simp[Act.eval,Act.put];omega) h3 ?_)
 go_wp2
 go_ret
 exact⟨rfl,rfl⟩
def T7{cb o n cap i xb xo qn:Nat}{W2 W3:World}(hi:i<n)(hn:n+1<=cap)(zO:n<1000)
  (h1:∀lb kb,(callFunc 259 #[.slice (some ⟨xb,xo,none⟩) 1 qn,.slice (some ⟨cb,o+(i+1)*12,none⟩) lb kb]).run Tryz.prog w=.ok (.value (.bool false)) w)
  (h2:∃c2,(Builtin.copy_ #[135,135] 3 #[.slice (some ⟨cb,o+(i+1)*12,none⟩) (n+1-(i+1)) (cap-(i+1)),.slice (some ⟨cb,o+i*12,none⟩) (n+1-i) (cap-i)]).run Tryz.prog w.drew=.ok c2 W2)
  (h3:∃c3,(Builtin.copy_ #[135,135] 3 #[.slice (some ⟨cb,o+i*12,none⟩) (n+1-i) (cap-i),.slice (some ⟨xb,xo,none⟩) 1 qn]).run Tryz.prog W2=.ok c3 W3):
  Calls Tryz.prog 215 #[.slice (some ⟨cb,o,none⟩) n cap,.int .i64 i,.slice (some ⟨xb,xo,none⟩) 1 qn] w fun e w'=>
   e=.returned (.slice (some ⟨cb,o,none⟩) (n+1) cap)/\w'=W3:=by
 obtain⟨c2,h2⟩:=h2;obtain⟨c3,h3⟩:=h3;have mixed:=uE;have Uu:¬((1:Int)=0):=by omega
 have Uv:¬((i:Int)=(n:Int)):=by omega
 have hz3:¬((cap:Int)<(n:Int)+1):=by omega
 have yq:IntKind.i64.wrap ((i:Int)+1)=(i:Int)+1:=by rw[IntKind.wrap_i64];omega
 have Bj:IntKind.i64.wrap ((n:Int)+1)=(n:Int)+1:=by rw[IntKind.wrap_i64];omega
 have mP:(0:Int)<=(i:Int)+1:=by omega
 have LM:i<=n:=by omega
 have M9:((i:Int)+1).toNat=i+1:=by omega
 have vN:¬(cap=i+1):=by omega
 have hb3:(i:Int)<=(n:Int)+1:=by omega
 have hb4:¬(cap=i):=by omega
 go_enter Tryz.func215,Tryz.ntmps215
 go_wp2_with (simp only[h1])
 go_region_law_o (refine step_copy_runI rfl _ _ 135 135 rfl (.slice (some ⟨cb,o+(i+1)*12,none⟩) (n+1-(i+1)) (cap-(i+1))) (.slice (some ⟨cb,o+i*12,none⟩) (n+1-i) (cap-i)) (by simp[Act.eval,Act.put]) (by simp[Act.eval,Act.put]) h2 ?_)
 go_wp2_with (at_builtin;refine wpList_copy_runI _ rfl _ _ 135 135 rfl _ _ rfl rfl h3 ?_)
 go_ret
 exact⟨rfl,rfl⟩
end
def aBN:∃ui,E0.ty 3=some ui/\ui.cD=.int .i64:=by
 have h:(E0.ty 3).map (fun i=>match i.cD with|.int .i64=>true|_=>false)=some true:=by kernel_rfl
 obtain⟨i,h1,h2⟩:=aLs.1 h;refine⟨i,h1,?_⟩;split at h2
 ·assumption
 ·cases h2
section
variable{Lo:Nat->Prop}{w0:World}{ι:cT}{H:Hp}{w:World}
def DS{A B X:List AV}{a:Nat}(h:A.length=a):dA (A++B) a X=A++X++B.drop X.length:=by subst h;simp[dA,List.drop_append]
def Wf(S:fT E0 Lo w0 ι H w){b c off o2 dl xl kd kx m:Nat}{cs xs:List AV}{vd vx:Value}(hb:H[b]?=some (.cells .live cs))(hx:H[c]?=some (.cells .live xs))(hm:min xl dl=m)(hm0:m≠0)
  (h1:off+m*12<=cs.length) (h2:o2+xl*12<=xs.length) (ho:xs.all cN=true) (hd:R ι w (Live Lo ι H) (.aI b off dl 12 kd) vd) (hxr:R ι w (Live Lo ι H) (.aI c o2 xl 12 kx) vx) (ty:TypeId):
  ∃cv w',(Builtin.copy_ #[135,135] ty #[vd,vx]).run Tryz.prog w=.ok cv w'/\∃ι':cT,ι.le ι'/\fT E0 Lo w0 ι' (H.set b (.cells .live (dA cs off (((xs.drop o2).take (xl*12)).take (m*12))))) w'/\
   Ext w (Live Lo ι H) w' (Live Lo ι' (H.set b (.cells .live (dA cs off (((xs.drop o2).take (xl*12)).take (m*12)))))):=by
 obtain⟨i,t1,t2⟩:=tyS;obtain⟨ei,h3,h4,h5,h6,h7⟩:=tyE;obtain⟨cD,jA,jS,jB,jZ,dK⟩:=i;simp only at t2;subst t2
 have qd:(((xs.drop o2).take (xl*12)).all cN)=true:=by
  rw[aMf]at ho⊢;exact fun y hy=>ho y (aPs (List.mem_of_mem_take hy))
 have hc:td E0 H 135 (.aI b off dl 12 kd) (.aI c o2 xl 12 kx)=some (.int .i64 m,[(b,.cells .live (dA cs off (((xs.drop o2).take (xl*12)).take (m*12))))]):=by
  have hs:oM H 12 (.aI c o2 xl 12 kx)=some ((xs.drop o2).take (xl*12)):=by
   simp only[oM,iI,hx];rw[if_neg (by simp),if_neg (by simp;omega)]
  unfold td;simp only[t1,h3,mU,h4,hs,hm];rw[if_neg hm0];simp only[hb];rw[if_pos ⟨trivial,h1,qd⟩]
 obtain⟨cv,w',g1,ι',g2,g3,g4,-⟩:=IZ (ats:=#[135,135]) (args:=#[vd,vx]) (ty:=ty) fq S rfl rfl rfl hd hxr hc;rw[jT hb]at g3 g4;exact⟨cv,w',g1,ι',g2,g3,g4⟩
def wP{ι:cT}{w:World}{L:Nat->Prop}{b n cap cb o:Nat}(h:R ι w L (.aI b 0 n 12 n) (.slice (some ⟨cb,o,none⟩) n cap)){i k:Nat}(hi:i+k=n:=by omega):
  R ι w L (.aI b (i*12) k 12 k) (.slice (some ⟨cb,o+i*12,none⟩) k (cap-i)):=by
 simp only[R]at h⊢;obtain⟨D9,co,aqq,c,e,f,h1,q,h2,h3,h4,h5⟩:=h;simp only[Value.slice.injEq,aLS.injEq,Addr.mk.injEq,true_and,and_true]at q;obtain⟨⟨rfl,rfl⟩,rfl⟩:=q;refine⟨cb,o,cap-i,c,e,f,h1,by simp,aLt _,by omega,h4,?_⟩
 have:(cap-i)*12=cap*12-i*12:=Nat.sub_mul ..
 have:i*12<=cap*12:=aLZ _ (by omega)
 omega
def X0{b c n cap i cb o xb xo qn:Nat}{x cs:List AV}(S:fT E0 Lo w0 ι H w)(hb:H[b]?=some (.cells .live cs))(oB:cs.length=n*12)(GY:cs.all cN=true)(hx:H[c]?=some (.cells .live x))(hl:x.length=12)(ho:x.all cN=true)
  (hs:R ι w (Live Lo ι H) (.aI b 0 n 12 n) (.slice (some ⟨cb,o,none⟩) n cap)) (hxr:R ι w (Live Lo ι H) (.aI c 0 1 12 1) (.slice (some ⟨xb,xo,none⟩) 1 qn)) (hi:i<n) (zO:n<1000) (sy:cap<n+1):
  Calls Tryz.prog 215 #[.slice (some ⟨cb,o,none⟩) n cap,.int .i64 i,.slice (some ⟨xb,xo,none⟩) 1 qn] w fun e w'=>
   ∃cv,e=.returned cv/\sR E0 Lo w0 ι H w (.aI H.length 0 (n+1) 12 (n+1)) (H.set b (.cells .dead [])++[.cells .live (cs.take (i*12)++x++cs.drop (i*12))]) cv w':=by
 obtain⟨ti,t1,t2⟩:=tyS;obtain⟨ui,u1,u2⟩:=aBN;obtain⟨ei,h3,h4,h5,h6,h7⟩:=tyE;obtain⟨zc,hzc⟩:=aNb.1 h7;have CW:=(aLq.1 hb).1;have azu:=(aLq.1 hx).1;have C1:=hs;simp only[R]at hs;obtain⟨D9,co,aqq,c1,e1,f1,i1,q,i2,i3,i4,i5⟩:=hs;simp only[Value.slice.injEq,aLS.injEq,Addr.mk.injEq,true_and,and_true,aPm]at q i5;obtain⟨⟨rfl,rfl⟩,rfl⟩:=q;obtain rfl:cap=n:=by omega
 obtain⟨D9,co',oo,g1,g2,g3,g4,_⟩:=S.obj b _ hb (by simp[cE.st]);rw[i1]at g1;cases g1
 rw[i4]at g2;cases g2
 simp only[fY]at g3;obtain⟨c2,e2,f2,q1,q2,q3⟩:=g3;cases q1;obtain⟨z,XR,hz⟩:=D7 fq h3 hzc;obtain⟨zv,z1,z2,z3,_,_⟩:=uu fq h3 hzc ι w (Live Lo ι H);have G6:zv.cells=z:=by obtain⟨zv',g1,g2⟩:=hz w;rw[z1]at g1;cases g1;exact g2
 have hm:((cap:Int)+1-(i:Int)).toNat=cap+1-i:=by omega
 have Eb:i+(cap+1-i)=cap+1:=by omega
 have aHi:i*12<=cap*12:=aLZ _ (by omega);have hold:(Builtin.firstCells ei.size i (.slice (some ⟨cb,o,none⟩) i cap)).run Tryz.prog w.drew=.ok (c1.extract o (o+i*12)) w.drew:=by rw[h4];exact ou (w:=w.drew) i4 (by omega)
 have gy:∀ty,_:=fun ty=>sW (ty:=ty) (ats:=#[135,3]) (args:=#[.slice (some ⟨cb,o,none⟩) i cap,.int .i64 ((cap:Int)+1-(i:Int))]) (ui:=ui) (k:=.i64) fq rfl rfl rfl rfl (by rw[<-t2];exact bt fq t1 w) h3 (bt fq u1 w) u2
  (by omega) (by omega) (by rw[hm];have:=Nat.mul_le_mul (show cap+1-i<=1000 by omega) h5;omega) (by rw[hm,h4];omega) (by rw[hm];omega) (by rw[hm,Eb];have:=Nat.mul_le_mul (show cap+1<=1000 by omega) h5;omega) (by rw[hm];omega) (by omega) hz hold
 rw[hm,Eb]at gy;have hrz:Rs ι w (Live Lo ι H) (gJ zc (cap+1-i)) (Builtin.zeroCells z (cap+1-i)).toList:=by
  rw[<-G6]
  have:=Ri z2 (by omega) (cap+1-i)
  unfold Builtin.zeroCells;have e1:zv.cells.size=zc.length:=by have:=z2.length;simpa using this
  rw[e1];rw[e1]at this;exact this
 have XG:Rs ι w (Live Lo ι H) (cs.take (i*12)) (c1.extract o (o+i*12)).toList:=by
  have:=(q2.take (i*12)).list
  have hlen:(cs.take (i*12)).length=i*12:=by rw[aPl];omega
  rwa[hlen]at this
 have Ef:(gJ zc (cap+1-i)).length=(cap+1-i)*12:=by rw[uj,z3,h4]
 have hzo:(gJ zc (cap+1-i)).length=12+(cap-i)*12:=by rw[Ef];omega
 have azv:Rs ι w (Live Lo ι H) (cs.take (i*12)++gJ zc (cap+1-i)) (c1.extract o (o+i*12)++Builtin.zeroCells z (cap+1-i)).toList:=by rw[Array.toList_append];exact XG.append hrz
 have Uo:(cs.take (i*12)++gJ zc (cap+1-i)).length=(cap+1)*12:=by rw[aL9,aPl,Ef];omega
 obtain⟨G,hG⟩:∃G,G=grownCap w (cap+1) cap 62:=⟨_,rfl⟩;have hGn:cap+1<=G:=by rw[hG];exact grownCap_ge w _ _ _
 have ast:G<=9223372036854775807:=by
  have:=grownCap_le_maxLen w (cap+1) cap 62 (by unfold maxLen;omega)
  rw[<-hG]at this;unfold maxLen at this;omega
 rw[<-hG]at gy;obtain⟨ι1,l1,S1,x1,r1⟩:=uJ S (ye S) (e:=62) (n:=cap+1) (esz:=12) (cap:=G) (rest:=Builtin.zeroCells z (G-(cap+1))) azv Uo hGn (by rw[lM,XR,h4]);have hA:(cF.bJ [(H.length,cE.cells .live (cs.take (i*12)++gJ zc (cap+1-i)))]).app H=H++[cE.cells .live (cs.take (i*12)++gJ zc (cap+1-i))]:=by simp[cF.app,cO]
 rw[hA]at S1 x1 r1;generalize hW1:w.drew.alloc _=W1 at S1 x1 r1 gy;obtain⟨N,hN⟩:∃N,N=w.heap.size:=⟨_,rfl⟩;rw[<-hN]at r1 gy;have hbN:(H++[cE.cells .live (cs.take (i*12)++gJ zc (cap+1-i))])[H.length]?=some (.cells .live (cs.take (i*12)++gJ zc (cap+1-i))):=by simp
 have hcN:(H++[cE.cells .live (cs.take (i*12)++gJ zc (cap+1-i))])[c]?=some (.cells .live x):=by rw[aOr azu];exact hx
 have rd1:=wP r1 (i:=i) (k:=cap+1-i);rw[Nat.zero_add]at rd1;have rx1:=R.ext x1 _ _ _ _ l1 hxr;have akb:(cs.take (i*12)).length=i*12:=by rw[aPl];omega
 obtain⟨c2,W2,k2,ι2,l2,S2,x2⟩:=Wf S1 hbN hcN (m:=1) (by omega) (by omega) (by rw[Uo];omega) (by omega) ho rd1 rx1 3;have hX:aPn (1*12) (aPn (1*12) (aPp 0 x))=x:=by rw[List.drop_zero,List.take_take,Nat.min_self,aPk (by omega)]
 rw[hX,DS akb,hl]at S2 x2;have SD:∀y z:cE,(H++[y]).set H.length z=H++[z]:=fun y z=>by simp
 rw[SD]at S2 x2;have azs:∀y:cE,(H++[y])[H.length]?=some y:=fun y=>by simp
 have vN:∀y:cE,(H++[y])[b]?=some (.cells .live cs):=fun y=>by rw[aOr CW];exact hb
 have l12:=cT.le_trans l1 l2;have x12:=x1.trans x2;have rd2:=(R.ext x2 _ _ _ _ l2 (wP r1 (i:=i+1) (k:=cap+1-(i+1)))).dr;rw[Nat.zero_add]at rd2;have rx2:=(R.ext x12 _ _ _ _ l12 (wP C1 (i:=i) (k:=cap-i))).dr;obtain⟨c3,W3,k3,ι3,l3,S3,x3⟩:=Wf S2.dr (azs _) (vN _) (m:=cap-i) (by omega) (by omega) (by simp only[aL9,aPj,akb,hl,hzo];omega) (by omega) GY rd2 rx2 3;have hD:aPn ((cap-i)*12) (aPn ((cap-i)*12) (aPp (i*12) cs))=cs.drop (i*12):=by rw[List.take_take,Nat.min_self,aPk (by rw[aPj,oB,Nat.sub_mul];exact aLt _)]
 have hZ:aPp (aPp (i*12) cs).length (aPp 12 (gJ zc (cap+1-i)))=[]:=aPq (by rw[aPj,aPj,hzo,oB];omega);rw[hD,SD,DS (by rw[aL9,akb,hl];omega),hZ,List.append_nil]at S3 x3;obtain⟨S4,x4⟩:=S3.kill (b:=b) [] (by simp);rw[List.set_append_left _ _ CW]at S4 x4;refine(T6 hi (aLt _) sy zO hGn ast gy ⟨c2,k2⟩ ⟨c3,k3⟩).mono ?_;rintro e w' ⟨rfl,rfl⟩;have l23:=cT.le_trans l12 l3;have x23:=(x2.trans ((CC (w:=W2) (w':=W2.drew) rfl).trans x3)).trans x4;exact⟨_,rfl,ι3,l23,S4,x1.trans x23,R.ext x23 _ _ _ _ (cT.le_trans l2 l3) r1⟩
def aeK{A B:List AV}{X:List AV}{n i o:Nat}{c c2 c3:Array Value}{P:AV->Value->Prop}{ext xs:List Value}(hA:(A++B).length=n*12)(hi:i<n)(hAl:A.length=i*12)(hX:X.length=12)
  (h1:∀(j:Nat) (y:AV),(A++B)[j]?=some y->∃v,c[o+j]?=some v/\P y v) (hx:∀(j:Nat) (y:AV),X[j]?=some y->∃v,xs[j]?=some v/\P y v) (hxl:xs.length=12) (sd:ext.length=(n-i)*12) (he:∀j:Nat,j<(n-i)*12->ext[j]?=c[o+i*12+j]?)
  (h2:∀k:Nat,c2[k]?=if o+(i+1)*12<=k/\k<o+(i+1)*12+ext.length then ext[k-(o+(i+1)*12)]? else c[k]?)
  (h3:∀k:Nat,c3[k]?=if o+i*12<=k/\k<o+i*12+xs.length then xs[k-(o+i*12)]? else c2[k]?):
  ∀(j:Nat) (y:AV),(A++X++B)[j]?=some y->∃v,c3[o+j]?=some v/\P y v:=by
 intro j y hy;rw[aL9]at hA;rw[h3];rw[List.append_assoc,aLw]at hy;by_cases g1:j<A.length
 ·rw[if_pos g1]at hy;rw[if_neg (by omega),h2,if_neg (by omega)];exact h1 j y (by rw[aOr g1];exact hy)
 ·rw[if_neg g1,aLw]at hy;by_cases g2:j-A.length<X.length
  ·rw[if_pos g2]at hy;rw[if_pos (by omega)]
   have:=hx _ y hy
   rwa[show j-A.length=o+j-(o+i*12)by omega]at this
  ·rw[if_neg g2]at hy;have hj:=(aLq.1 hy).1;rw[if_neg (by omega),h2,if_pos (by omega),he _ (by omega)]
   have:=h1 (j-12) y (by rw[List.getElem?_append_right (by omega)];rwa[show j-12-A.length=j-A.length-X.length by omega])
   rwa[show o+(j-12)=o+i*12+(o+j-(o+(i+1)*12))by omega]at this
def ash{o:Nat×Nat}{c:Array Value}{e:TypeId}{cb k:Nat}(h:w.heap[cb]?=some (.cells c e o))(hf:¬(o.1<=k/\k<o.2)):w.frozen? ⟨cb,k,none⟩=false:=by
 simp only[World.frozen?,h];simpa using hf
def shp{o:Nat×Nat}{c:Array Value}{e:TypeId}{cb:Nat}(h:w.heap[cb]?=some (.cells c e o)):w.shape? cb=some (e,c.size):=by simp only[World.shape?,h]
def fov:∃fn,Tryz.prog.funcs[259]?=some fn/\(fn.name== "runtime.NumGoroutine")=false/\fn.body.isNone=true/\Extern.findNext fn=none/\Extern.find fn=some (Extern.SlicesOverlaps.overlaps #[135,135] #[4]):=
 ⟨Tryz.f259,Tryz.func259,by kernel_rfl,by kernel_rfl,by kernel_rfl,by kernel_rfl⟩
def X4{b c n cap i cb o xb xo qn:Nat}{x cs:List AV}(S:fT E0 Lo w0 ι H w)(hb:H[b]?=some (.cells .live cs))(oB:cs.length=n*12)(GY:cs.all cN=true)(hx:H[c]?=some (.cells .live x))(hl:x.length=12)(ho:x.all cN=true)(hbc:b≠c)
  (hs:R ι w (Live Lo ι H) (.aI b 0 n 12 n) (.slice (some ⟨cb,o,none⟩) n cap)) (hxr:R ι w (Live Lo ι H) (.aI c 0 1 12 1) (.slice (some ⟨xb,xo,none⟩) 1 qn)) (hi:i<n) (zO:n<1000) (sy:n+1<=cap):
  Calls Tryz.prog 215 #[.slice (some ⟨cb,o,none⟩) n cap,.int .i64 i,.slice (some ⟨xb,xo,none⟩) 1 qn] w fun e w'=>
   ∃cv,e=.returned cv/\sR E0 Lo w0 ι H w (.aI H.length 0 (n+1) 12 (n+1)) (H.set b (.cells .dead [])++[.cells .live (cs.take (i*12)++x++cs.drop (i*12))]) cv w':=by
 obtain⟨ti,t1,t2⟩:=tyS;obtain⟨ei,h3,h4,h5,h6,h7⟩:=tyE;have hu:Tryz.prog.underlying 135=some (.slice 62):=by rw[<-t2];exact(fq.ty _ _ t1).cD
 have mh:∀w,(Go.sizeOf 62).run Tryz.prog w=.ok 12 w:=fun w=>by rw[<-h4];exact cH fq h3 w
 have CW:=(aLq.1 hb).1;simp only[R]at hs hxr;obtain⟨D9,co,aqq,c1,e1,f1,i1,q,i2,i3,i4,i5⟩:=hs;simp only[Value.slice.injEq,aLS.injEq,Addr.mk.injEq,true_and,and_true,aPm]at q i5;obtain⟨⟨rfl,rfl⟩,rfl⟩:=q;obtain⟨xb',xo',aE9,cx,ex,fx,j1,q,j2,j3,j4,j5⟩:=hxr;simp only[Value.slice.injEq,aLS.injEq,Addr.mk.injEq,true_and,and_true,aPm]at q j5;obtain⟨⟨rfl,rfl⟩,rfl⟩:=q;have ej:xb≠cb:=fun e=>by subst e;exact hbc (S.inj b c _ _ _ _ _ hb rfl hx rfl i1 j1)
 obtain⟨D9,co',oo,g1,g2,g3,g4,_⟩:=S.obj b _ hb (by simp[cE.st]);rw[i1]at g1;cases g1
 rw[i4]at g2;cases g2
 simp only[fY]at g3;obtain⟨c2,e2,f2,q1,q2,q3⟩:=g3;cases q1;obtain⟨D9,co',oo,g1,g2,g3,g5,_⟩:=S.obj c _ hx (by simp[cE.st]);rw[j1]at g1;cases g1
 rw[j4]at g2;cases g2
 simp only[fY]at g3;obtain⟨c2,e2,f2,q1,p2,p3⟩:=g3;cases q1;have LM:(i+1)*12<=n*12:=aLZ _ hi;have nh:(n+1)*12<=cap*12:=aLZ _ sy;have kh:∀lb kb,(callFunc 259 #[.slice (some ⟨xb,xo,none⟩) 1 qn,.slice (some ⟨cb,o+(i+1)*12,none⟩) lb kb]).run Tryz.prog w=.ok (.value (.bool false)) w:=fun lb kb=>by
  obtain⟨fn,a1,a2,a3,a4,a5⟩:=fov;rw[run_callFunc_extern a1 a2 a3 a4 a5,Lib.run_overlaps_apart w 135 4 62 hu 12 mh ⟨xb,xo,none⟩ ⟨cb,o+(i+1)*12,none⟩ 1 qn lb kb ej _ _ _ _ (shp j4) (shp i4) (by omega) (ash j4 (p3 trivial _ (by omega))) (ash j4 (p3 trivial _ (aLt _)))];rfl
 have vO:∀{l:List AV} {vs:List Value},Rs ι w (Live Lo ι H) l vs->l.all cN=true->∀v∈vs,v.oneCell'=true:=fun{l vs} hr ha v hv=>by
  obtain⟨k,hk⟩:=List.getElem?_of_mem hv;have hkl:k<l.length:=by have:=(aLq.1 hk).1;rw[hr.length]at this;exact this
  obtain⟨v',k1,k2⟩:=hr.get k _ (List.getElem?_eq_getElem hkl);rw[hk]at k1;cases k1
  exact z8 k2 (aMf.1 ha _ (List.getElem_mem hkl))
 have hrd:Rs ι w (Live Lo ι H) (cs.drop (i*12)) (c1.extract (o+i*12) (o+i*12+(n-i)*12)).toList:=by
  have:=(q2.drop (i*12)).list
  have hlen:(cs.drop (i*12)).length=(n-i)*12:=by rw[aPj];omega
  rwa[hlen]at this
 have hrx:Rs ι w (Live Lo ι H) x (cx.extract xo (xo+1*12)).toList:=by
  have:=p2.list
  rwa[hl]at this
 have hdl:(c1.extract (o+i*12) (o+i*12+(n-i)*12)).toList.length=(n-i)*12:=by simp;omega
 have hxl:(cx.extract xo (xo+1*12)).toList.length=12:=by simp;omega
 have FA:(cs.drop (i*12)).all cN=true:=by
  rw[aMf]at GY⊢;exact fun y hy=>GY y (aPs hy)
 have k2:=Ar (w:=w.drew) (ty:=3) (dc:=cap-(i+1)) (sc:=cap-i) (sl:=n+1-i) (dl:=n+1-(i+1)) (m:=n-i) (o:=o+(i+1)*12) (so:=o+i*12) hu mh (by omega) i4 i4 (by omega) (by omega) (fun k hk=>q3 trivial k (by omega)) (vO hrd FA);obtain⟨c2,o1,o2,o3⟩:=kI (c1.extract (o+i*12) (o+i*12+(n-i)*12)).toList w.drew cb (o+(i+1)*12) c1 e1 f1 i4 (by omega);generalize Bd:w.drew.setCells cb (o+(i+1)*12) _=W2 at k2 o1;have hx2:W2.heap[xb]?=some (.cells cx ex fx):=by rw[o1.there _ ej];exact j4
 have k3:=Ar (w:=W2) (ty:=3) (dc:=cap-i) (sc:=qn) (sl:=1) (dl:=n+1-i) (m:=1) (o:=o+i*12) (so:=xo) hu mh (by omega) o1.here hx2 (by omega) (by omega) (fun k hk=>q3 trivial k (by omega)) (vO hrx ho);obtain⟨c3,r1,r2,r3⟩:=kI (cx.extract xo (xo+1*12)).toList W2 cb (o+i*12) c2 e1 f1 o1.here (by omega);generalize nS:W2.setCells cb (o+i*12) _=W3 at k3 r1;have hO:Ej w W3 cb (.cells c3 e1 f1):=⟨r1.os.trans o1.os,r1.tape.trans o1.tape,r1.output.trans o1.output,r1.size.trans o1.size,r1.here,fun k hk=>(r1.there k hk).trans (o1.there k hk)⟩;have akP:c3.size=c1.size:=r2.trans o2;have se:jP (.cells c1 e1 f1) (.cells c3 e1 f1):=fun cs e f q=>by cases q;exact⟨c3,_,rfl,akP⟩
 have nL:Live Lo ι H cb:=.inr ⟨b,_,o,hb,rfl,i1⟩;have AD:=hO.ext (L:=Live Lo ι H) (L':=Live Lo ι H) i4 se nL (fun _ h=>h);have EE:=cT.wT (p:=(cb,o)) (ye S).1;have G:=S.ZI (cs0:=[]) (co':=o) (blk':=.cells .live (cs.take (i*12)++x++cs.drop (i*12))) hb rfl rfl (ye S) i1 i4 se hO (by
  simp only[fY];refine⟨c3,e1,f1,rfl,iH.gR (aeK (n:=n) (i:=i) (P:=fun y v=>R (ι.put H.length (cb,o)) W3 (Live Lo ι H) y v) (A:=cs.take (i*12)) (by rw[aPr];exact oB) hi (by rw[aPl];omega) hl
   (fun j y hy=>?_) (fun j y hy=>?_) hxl hdl (fun j hj=>?_) o3 r3),fun _=>by rw[akP];exact q3 trivial⟩
  ·rw[aPr]at hy;obtain⟨v,k1,k2⟩:=q2.get j y hy;exact⟨v,k1,R.ext AD _ _ _ _ EE k2⟩
  ·obtain⟨v,k1,k2⟩:=hrx.get j y hy;exact⟨v,k1,R.ext AD _ _ _ _ EE k2⟩
  ·rw[Array.getElem?_toList,Array.getElem?_extract,if_pos (by omega)]) (by simp)
 have lD:cO (H.set b (.cells .dead [])) H.length (.cells .live (cs.take (i*12)++x++cs.drop (i*12)))=H.set b (.cells .dead [])++[.cells .live (cs.take (i*12)++x++cs.drop (i*12))]:=by simp[cO]
 rw[lD]at G;refine(T7 hi sy zO kh ⟨_,k2⟩ ⟨_,k3⟩).mono ?_;rintro e w' ⟨rfl,rfl⟩;refine⟨_,rfl,_,EE,G.1,G.2,?_⟩;simp only[R];exact⟨cb,o,cap,c3,e1,f1,by simp[cT.put],by simp,aLt _,sy,r1.here,by rw[akP];omega⟩
end
def ahX{ι:cT}{w:World}{L:Nat->Prop}{vs:Array Value}{a b c:AV}(h:Rs ι w L [a,b,c] vs.toList):∃v u x,vs=#[v,u,x]/\R ι w L a v/\R ι w L b u/\R ι w L c x:=by simp only[Rs]at h;obtain⟨v1,l1,e1,h1,v2,l2,rfl,h2,v3,l3,rfl,h3,rfl⟩:=h;exact⟨v1,v2,v3,Array.toList_inj.1 e1,h1,h2,h3⟩
def adG:qt E0 Tryz.prog EV:=by
 intro f al H v H2 h Lo w0 ι w vs S ha;unfold EV at h;split at h
 case isFalse=>cases h
 rename_i hf;subst hf;unfold Ju at h;split at h
 case h_2=>cases h
 rename_i s z c;split at h
 case h_2=>cases h
 rename_i x hx;split at h
 case isFalse=>cases h
 rename_i hxx;obtain⟨hl,ho⟩:=hxx;obtain⟨vs1,vz,vx,rfl,r1,r2,r3⟩:=ahX ha;obtain rfl:vz=.int .i64 z:=by simpa[R]using r2
 have r3':=r3;simp only[R]at r3';obtain⟨xb,xo,qn,cx,ex,fx,j1,rfl,-⟩:=r3';have fC:(E0.fn 215).isSome=true:=by kernel_rfl
 split at h
 ·split at h
  case isFalse=>cases h
  rename_i hz;subst hz;cases h;have r1':=r1;simp only[R]at r1';subst r1';refine Rn fC (Qu S r1 (aLt 0) (fun _=>rfl) r3 (U9 hx hl ho)) ?_;rintro e w' ⟨cv,rfl,ι',g1,g2,g3,g4⟩;have lD:(cF.bJ [(H.length,cE.cells .live x)]).app H=H++[.cells .live x]:=by simp[cF.app,cO]
  rw[lD]at g2 g3 g4;exact⟨ι',g1,g2,g3,g4⟩
 ·split at h
  case h_2=>cases h
  rename_i b n k _ cs hb;split at h
  case isFalse=>cases h
  rename_i hc;obtain⟨rfl,oB,GY,hn,zO,hi0,LM,hbc⟩:=hc;cases h;have r1':=r1;simp only[R]at r1';obtain⟨cb,co,cap,c1,e1,f1,i1,rfl,i2,i3,i4,i5⟩:=r1';obtain⟨i,rfl⟩:∃i:Nat,z=i:=⟨z.toNat,by omega⟩;rw[Int.toNat_natCast];rw[aPm]at r1 r3⊢;by_cases hi:i=n
  ·subst hi;refine Rn fC (Qu S r1 i3 (fun q=>by cases q) r3 (U8 hx hl ho hb oB hn zO)) ?_;rintro e w' ⟨cv,rfl,ι',g1,g2,g3,g4⟩;have CW:=(aLq.1 hb).1;have lD:(cF.bJ [(b,.cells .dead []),(H.length,cE.cells .live (cs++x))]).app H=H.set b (.cells .dead [])++[.cells .live (cs.take (i*12)++x++cs.drop (i*12))]:=by rw[aPk (by omega),aPq (by omega),List.append_nil];simp[cF.app,cO,CW]
   rw[lD]at g2 g3 g4;exact⟨ι',g1,g2,g3,g4⟩
  ·have eh:i<n:=by omega
   by_cases sy:cap<n+1
   ·refine Rn fC (X0 S hb oB GY hx hl ho r1 r3 eh zO sy) ?_;rintro e w' ⟨cv,rfl,g⟩;exact g
   ·refine Rn fC (X4 S hb oB GY hx hl ho hbc r1 r3 eh zO (by omega)) ?_;rintro e w' ⟨cv,rfl,g⟩;exact g
 ·cases h
end Go.Proofs.YtmkjgfnicfpjpaaGreatDoor
