/- Lemmas for AssemblyChecks; no condition. -/
import Derived.Test.YtmkjgfnicfpjpaaGreatDoorTag
import Derived.WalkKit
import Derived.Shelf.Spec.SlicesInsert
set_option linter.all false
set_option maxHeartbeats 100000000
set_option maxRecDepth 100000
noncomputable section
open List renaming getElem?_eq_some_iff->aKB,length_drop->aOu,getElem?_append_left->aNB,length_append->aLk,take_of_length_le->aOv,length_take->aOw,take->aOy,take_length->aOz,all_eq_true->aLq,drop->aOA,drop_eq_nil_of_le->aOB,take_append_drop->aOC,mem_of_mem_drop->aOD,getElem?_append->aKH
open Nat renaming mul_le_mul_right->aLa,le_refl->aKE,add_zero->aOx
open Option renaming some->aK3,isSome_iff_exists->aMm,map_eq_some_iff->aKD
namespace Go.Proofs.YtmkjgfnicfpjpaaGreatDoor
open Go Go.RowKit Dv
section
variable{P:Program}{w:World}
def Av{t e ty:TypeId}{esz cb o dl dc sb so sl sc m:Nat}{c c2:Array Value}{d d2:TypeId}{f f2:Nat×Nat}(eD:P.underlying t=some (.slice e))(l8:∀w,(Go.sizeOf e).run P w=.ok esz w)
  (hm:min sl dl=m) (hc:w.heap[cb]?=some (.cells c d f)) (hs:w.heap[sb]?=some (.cells c2 d2 f2)) (h1:o+m*esz<=c.size) (h2:so+m*esz<=c2.size)
  (hf:∀k,k<c.size->¬(f.1<=k/\k<f.2)) (vF:∀v∈(c2.extract so (so+m*esz)).toList,v.oneCell'=true):
  (Builtin.copy_ #[t,t] ty #[.slice (some ⟨cb,o,none⟩) dl dc,.slice (some ⟨sb,so,none⟩) sl sc]).run P w=.ok (goInt m) (w.setCells cb o (c2.extract so (so+m*esz)).toList):=by
 have hu:=run_underlying (P:=P) eD w;have hlen:(c2.extract so (so+m*esz)).toList.length=m*esz:=by simp;omega
 have x1:(Builtin.lenOf (.slice (some ⟨sb,so,none⟩) sl sc)).run P w=.ok sl w:=by simp[Builtin.lenOf]
 have xm:=ot (P:=P) (w:=w) (cb:=sb) (o:=so) (m:=m) (esz:=esz) (len:=sl) (cap:=sc) hs h2;have T:=run_storeCells_cells (P:=P) cb o (c2.extract so (so+m*esz)).toList 0 w (fun j hj=>by
   rw[hlen]at hj;rw[pz hc,Array.getElem?_eq_getElem (show o+0+j<c.size by omega)];rfl) (fun j hj=>by
   rw[hlen]at hj
   have:=hf (o+0+j) (by omega)
   simp only[World.frozen?,hc];simpa using this) vF
 rw[aOx]at T;have MU:Nat.min sl dl=m:=hm;simp only[Builtin.copy_,List.getElem?_toArray,List.getElem?_cons_zero,List.getElem?_cons_succ,Sem.run_bind,hu,Result.andThen_ok,x1,l8 w,MU,xm,T,Sem.run_pure,goInt]
end
def auc(i:sO)(e:Nat):Bool:=match i.cD with|.slice f=>f==e|_=>false
def tyS:∃i,E0.ty 135=some i/\i.cD=.slice 62:=by
 have h:(E0.ty 135).map (auc · 62)=some true:=by kernel_rfl
 obtain⟨i,h1,h2⟩:=aKD.1 h;refine⟨i,h1,?_⟩;unfold auc at h2;split at h2
 ·rename_i f hf;rw[hf,eq_of_beq h2]
 ·cases h2
def tyE:∃ei,E0.ty 62=some ei/\ei.size=12/\ei.bytes<=1000/\0<ei.bytes/\ei.zero.isSome=true:=by
 have h:(E0.ty 62).map (fun i=>decide (i.size=12)&&decide (i.bytes<=1000)&&decide (0<i.bytes)&&i.zero.isSome)=some true:=by kernel_rfl
 cases hi:E0.ty 62 with
 |none=>rw[hi]at h;cases h
 |some i=>
  rw[hi]at h;have h:=aK3.inj h;simp only[Bool.and_eq_true,decide_eq_true_eq]at h;exact⟨i,rfl,h.1.1.1,h.1.1.2,h.1.2,h.2⟩
section
variable{Lo:Nat->Prop}{w0:World}{ι:cS}{H:Hp}{w:World}
def yd(S:fR E0 Lo w0 ι H w):mD ι H H.length:=by
 refine⟨?_,.inl rfl⟩;cases h:ι H.length with
 |none=>rfl
 |some p=>exact absurd (S.Ih _ _ h).1 (Nat.lt_irrefl _)
def U1{c:Nat}{x:List AV}(hx:H[c]?=some (.cells .live x))(hl:x.length=12)(ho:x.all cL=true):
  dT E0 H H.length false 135 .aH (.aI c 0 1 12 1)=some (.aI H.length 0 1 12 1,[(H.length,.cells .live x)]):=by
 obtain⟨i,h1,h2⟩:=tyS;obtain⟨ei,h3,h4,h5,h6,h7⟩:=tyE;obtain⟨cD,jA,jS,jB,jZ,dQ⟩:=i;simp only at h2;subst h2
 have hz:ei.zero.isNone=false:=by cases hh:ei.zero<;>simp_all
 have o6:qM H ei false (.aI c 0 1 12 1)=some (1,x):=by
  have ht:aOy 12 x=x:=by rw[<-hl,aOz]
  simp[qM,l9,mX,gO,hx,h4,hl,ht]
 unfold dT;simp only[h1,h3,o6];rw[if_neg (by omega),if_neg (by rw[ho,hz,h4];simp),if_pos ⟨by unfold eU;omega,by omega⟩,h4]
def U0{b c n:Nat}{x cs:List AV}(hx:H[c]?=some (.cells .live x))(hl:x.length=12)(ho:x.all cL=true)(hb:H[b]?=some (.cells .live cs))(vQ:cs.length=n*12)(hn:0<n)(xh:n<1000):
  dT E0 H H.length false 135 (.aI b 0 n 12 n) (.aI c 0 1 12 1)=some (.aI H.length 0 (n+1) 12 (n+1),[(b,.cells .dead []),(H.length,.cells .live (cs++x))]):=by
 obtain⟨i,h1,h2⟩:=tyS;obtain⟨ei,h3,h4,h5,h6,h7⟩:=tyE;obtain⟨cD,jA,jS,jB,jZ,dQ⟩:=i;simp only at h2;subst h2
 have hz:ei.zero.isNone=false:=by cases hh:ei.zero<;>simp_all
 have o6:qM H ei false (.aI c 0 1 12 1)=some (1,x):=by
  have ht:aOy 12 x=x:=by rw[<-hl,aOz]
  simp[qM,l9,mX,gO,hx,h4,hl,ht]
 have hm:=Nat.mul_le_mul_left (n+1) h5;unfold dT;simp only[h1,h3,o6];rw[if_neg (by omega),if_neg (by rw[ho,hz,h4];simp)];simp only[hb];rw[if_neg (by omega),if_pos ⟨h4.symm,by omega,by unfold eU;omega,by omega⟩,List.drop_zero,<-vQ,aOz]
def Ri{f:Nat}{vs:Array Value}{post:Ending->World->Prop}{Rr:Value->World->Prop}(h:(E0.fn f).isSome=true)(hc:Calls Tryz.prog f vs w post)(hm:∀e w',post e w'->LI Rr e w'):lL Tryz.prog ((callFunc f vs).run Tryz.prog w) Rr:=by obtain⟨fi,lQ⟩:=aMm.1 h;exact .inr (.inl ⟨f,vs,w,jQ fq lQ vs w,callsIn_wide.2 (hc.mono hm)⟩)
def Qo{s v:AV}{st:List (Nat×ct)}{base:Option Addr}{n cap xb xo qe:Nat}(S:fR E0 Lo w0 ι H w){c:Nat}(hs:R ι w (Live Lo ι H) s (.slice base n cap))(hn:n<=cap)(tB:base=none->n=0)(hx:R ι w (Live Lo ι H) (.aI c 0 1 12 1) (.slice (some ⟨xb,xo,none⟩) 1 qe))
  (h:dT E0 H H.length false 135 s (.aI c 0 1 12 1)=some (v,st)):
  Calls Tryz.prog 215 #[.slice base n cap,.int .i64 n,.slice (some ⟨xb,xo,none⟩) 1 qe] w fun e w'=>∃cv,e=.returned cv/\Dv.gq E0 Lo w0 ι H w v (.bJ st) cv w':=by
 obtain⟨i,h1,h2⟩:=tyS;have key:∀ty,∃cv w',(Builtin.append_ #[135,135] ty #[.slice base n cap,.slice (some ⟨xb,xo,none⟩) 1 qe]).run Tryz.prog w=.ok cv w'/\Dv.gq E0 Lo w0 ι H w v (.bJ st) cv w':=fun ty=>
  Cf (ty:=ty) (ats:=#[135,135]) (args:=#[.slice base n cap,.slice (some ⟨xb,xo,none⟩) 1 qe]) fq S (yd S) rfl rfl rfl rfl h1 (by rw[h2];intro k hk;cases hk) hs hx h
 obtain⟨cv,w',gy,FF⟩:=key 135;have mixed:=uz
 go_enter Tryz.func215,Tryz.ntmps215
 cases base with
 |none=>
  obtain rfl:=tB rfl
  go_wp2_with (at_builtin;refine Lib.wpList_append_run _ rfl _ _ _ _ rfl _ _ rfl rfl _ _ gy ?_)
  go_ret
  exact⟨_,rfl,FF⟩
 |some a=>
  obtain⟨ab,ao,asp⟩:=a
  go_wp2_with (at_builtin;refine Lib.wpList_append_run _ rfl _ _ _ _ rfl _ _ rfl rfl _ _ gy ?_)
  all_goals (go_ret;exact⟨_,rfl,FF⟩)
end
section
variable{w:World}
def TV{cb o n cap i xb xo qe N G:Nat}{W1 W2 W3:World}(hi:i<n)(hn:n<=cap)(hc:cap<n+1)(xh:n<1000)(hG:n+1<=G)(asm:G<=9223372036854775807)
  (h1:∀ty,(Builtin.append_ #[135,3] ty #[.slice (some ⟨cb,o,none⟩) i cap,.int .i64 ((n:Int)+1-(i:Int))]).run Tryz.prog w=.ok (.slice (some ⟨N,0,none⟩) (n+1) G) W1)
  (h2:∃c2,(Builtin.copy_ #[135,135] 3 #[.slice (some ⟨N,i*12,none⟩) (n+1-i) (G-i),.slice (some ⟨xb,xo,none⟩) 1 qe]).run Tryz.prog W1=.ok c2 W2)
  (h3:∃c3,(Builtin.copy_ #[135,135] 3 #[.slice (some ⟨N,(i+1)*12,none⟩) (n+1-(i+1)) (G-(i+1)),.slice (some ⟨cb,o+i*12,none⟩) (n-i) (cap-i)]).run Tryz.prog W2.drew=.ok c3 W3):
  Calls Tryz.prog 215 #[.slice (some ⟨cb,o,none⟩) n cap,.int .i64 i,.slice (some ⟨xb,xo,none⟩) 1 qe] w fun e w'=>
   e=.returned (.slice (some ⟨N,0,none⟩) (n+1) G)/\w'=W3:=by
 obtain⟨c2,h2⟩:=h2;obtain⟨c3,h3⟩:=h3;have mixed:=uz;have Um:¬((1:Int)=0):=by omega
 have Uo:¬((i:Int)=(n:Int)):=by omega
 have hz3:(cap:Int)<(n:Int)+1:=by omega
 have vS:IntKind.i64.wrap ((i:Int)+1)=(i:Int)+1:=by rw[IntKind.wrap_i64];omega
 have y7:IntKind.i64.wrap ((n:Int)+1)=(n:Int)+1:=by rw[IntKind.wrap_i64];omega
 have mN:(0:Int)<=(i:Int)+1:=by omega
 have Ir:i<=n:=by omega
 have M5:((i:Int)+1).toNat=i+1:=by omega
 have hb3:(i:Int)<=(n:Int):=by omega
 go_enter Tryz.func215,Tryz.ntmps215
 go_wp2_with (first
  |(at_builtin;refine Lib.wpList_append_run _ rfl _ _ _ _ rfl _ _ rfl rfl _ _ (h1 _) ?_)
  |(at_builtin;refine wpList_copy_runI _ rfl _ _ 135 135 rfl _ _ rfl rfl h2 ?_))
 go_region_law_o (refine step_copy_runI rfl _ _ 135 135 rfl (.slice (some ⟨N,(i+1)*12,none⟩) (n+1-(i+1)) (G-(i+1))) (.slice (some ⟨cb,o+i*12,none⟩) (n-i) (cap-i)) (by simp[Act.eval,Act.put];omega) (by simp[Act.eval,Act.put];omega) h3 ?_)
 go_wp2
 go_ret
 exact⟨rfl,rfl⟩
def TW{cb o n cap i xb xo qe:Nat}{W2 W3:World}(hi:i<n)(hn:n+1<=cap)(xh:n<1000)
  (h1:∀lb kb,(callFunc 259 #[.slice (some ⟨xb,xo,none⟩) 1 qe,.slice (some ⟨cb,o+(i+1)*12,none⟩) lb kb]).run Tryz.prog w=.ok (.value (.bool false)) w)
  (h2:∃c2,(Builtin.copy_ #[135,135] 3 #[.slice (some ⟨cb,o+(i+1)*12,none⟩) (n+1-(i+1)) (cap-(i+1)),.slice (some ⟨cb,o+i*12,none⟩) (n+1-i) (cap-i)]).run Tryz.prog w.drew=.ok c2 W2)
  (h3:∃c3,(Builtin.copy_ #[135,135] 3 #[.slice (some ⟨cb,o+i*12,none⟩) (n+1-i) (cap-i),.slice (some ⟨xb,xo,none⟩) 1 qe]).run Tryz.prog W2=.ok c3 W3):
  Calls Tryz.prog 215 #[.slice (some ⟨cb,o,none⟩) n cap,.int .i64 i,.slice (some ⟨xb,xo,none⟩) 1 qe] w fun e w'=>
   e=.returned (.slice (some ⟨cb,o,none⟩) (n+1) cap)/\w'=W3:=by
 obtain⟨c2,h2⟩:=h2;obtain⟨c3,h3⟩:=h3;have mixed:=uz;have Um:¬((1:Int)=0):=by omega
 have Uo:¬((i:Int)=(n:Int)):=by omega
 have hz3:¬((cap:Int)<(n:Int)+1):=by omega
 have vS:IntKind.i64.wrap ((i:Int)+1)=(i:Int)+1:=by rw[IntKind.wrap_i64];omega
 have y7:IntKind.i64.wrap ((n:Int)+1)=(n:Int)+1:=by rw[IntKind.wrap_i64];omega
 have mN:(0:Int)<=(i:Int)+1:=by omega
 have Ir:i<=n:=by omega
 have M5:((i:Int)+1).toNat=i+1:=by omega
 have sn:¬(cap=i+1):=by omega
 have hb3:(i:Int)<=(n:Int)+1:=by omega
 have hb4:¬(cap=i):=by omega
 go_enter Tryz.func215,Tryz.ntmps215
 go_wp2_with (simp only[h1])
 go_region_law_o (refine step_copy_runI rfl _ _ 135 135 rfl (.slice (some ⟨cb,o+(i+1)*12,none⟩) (n+1-(i+1)) (cap-(i+1))) (.slice (some ⟨cb,o+i*12,none⟩) (n+1-i) (cap-i)) (by simp[Act.eval,Act.put]) (by simp[Act.eval,Act.put]) h2 ?_)
 go_wp2_with (at_builtin;refine wpList_copy_runI _ rfl _ _ 135 135 rfl _ _ rfl rfl h3 ?_)
 go_ret
 exact⟨rfl,rfl⟩
end
def aBp:∃ui,E0.ty 3=some ui/\ui.cD=.int .i64:=by
 have h:(E0.ty 3).map (fun i=>match i.cD with|.int .i64=>true|_=>false)=some true:=by kernel_rfl
 obtain⟨i,h1,h2⟩:=aKD.1 h;refine⟨i,h1,?_⟩;split at h2
 ·assumption
 ·cases h2
section
variable{Lo:Nat->Prop}{w0:World}{ι:cS}{H:Hp}{w:World}
def DQ{A B X:List AV}{a:Nat}(h:A.length=a):cV (A++B) a X=A++X++B.drop X.length:=by subst h;simp[cV,List.drop_append]
def Wa(S:fR E0 Lo w0 ι H w){b c off o2 dl xl kd kx m:Nat}{cs xs:List AV}{vd vx:Value}(hb:H[b]?=some (.cells .live cs))(hx:H[c]?=some (.cells .live xs))(hm:min xl dl=m)(hm0:m≠0)
  (h1:off+m*12<=cs.length) (h2:o2+xl*12<=xs.length) (ho:xs.all cL=true) (hd:R ι w (Live Lo ι H) (.aI b off dl 12 kd) vd) (hxr:R ι w (Live Lo ι H) (.aI c o2 xl 12 kx) vx) (ty:TypeId):
  ∃cv w',(Builtin.copy_ #[135,135] ty #[vd,vx]).run Tryz.prog w=.ok cv w'/\∃ι':cS,ι.le ι'/\fR E0 Lo w0 ι' (H.set b (.cells .live (cV cs off (((xs.drop o2).take (xl*12)).take (m*12))))) w'/\
   Ext w (Live Lo ι H) w' (Live Lo ι' (H.set b (.cells .live (cV cs off (((xs.drop o2).take (xl*12)).take (m*12)))))):=by
 obtain⟨i,t1,t2⟩:=tyS;obtain⟨ei,h3,h4,h5,h6,h7⟩:=tyE;obtain⟨cD,jA,jS,jB,jZ,dQ⟩:=i;simp only at t2;subst t2
 have pY:(((xs.drop o2).take (xl*12)).all cL)=true:=by
  rw[aLq]at ho⊢;exact fun y hy=>ho y (aOD (List.mem_of_mem_take hy))
 have hc:s7 E0 H 135 (.aI b off dl 12 kd) (.aI c o2 xl 12 kx)=some (.int .i64 m,[(b,.cells .live (cV cs off (((xs.drop o2).take (xl*12)).take (m*12))))]):=by
  have hs:mX H 12 (.aI c o2 xl 12 kx)=some ((xs.drop o2).take (xl*12)):=by
   simp only[mX,gO,hx];rw[if_neg (by simp),if_neg (by simp;omega)]
  unfold s7;simp only[t1,h3,l9,h4,hs,hm];rw[if_neg hm0];simp only[hb];rw[if_pos ⟨trivial,h1,pY⟩]
 obtain⟨cv,w',g1,ι',g2,g3,g4,-⟩:=I2 (ats:=#[135,135]) (args:=#[vd,vx]) (ty:=ty) fq S rfl rfl rfl hd hxr hc;rw[jR hb]at g3 g4;exact⟨cv,w',g1,ι',g2,g3,g4⟩
def wJ{ι:cS}{w:World}{L:Nat->Prop}{b n cap cb o:Nat}(h:R ι w L (.aI b 0 n 12 n) (.slice (some ⟨cb,o,none⟩) n cap)){i k:Nat}(hi:i+k=n:=by omega):
  R ι w L (.aI b (i*12) k 12 k) (.slice (some ⟨cb,o+i*12,none⟩) k (cap-i)):=by
 simp only[R]at h⊢;obtain⟨D8,co,aqj,c,e,f,h1,q,h2,h3,h4,h5⟩:=h;simp only[Value.slice.injEq,aK3.injEq,Addr.mk.injEq,true_and,and_true]at q;obtain⟨⟨rfl,rfl⟩,rfl⟩:=q;refine⟨cb,o,cap-i,c,e,f,h1,by simp,aKE _,by omega,h4,?_⟩
 have:(cap-i)*12=cap*12-i*12:=Nat.sub_mul ..
 have:i*12<=cap*12:=aLa _ (by omega)
 omega
def X0{b c n cap i cb o xb xo qe:Nat}{x cs:List AV}(S:fR E0 Lo w0 ι H w)(hb:H[b]?=some (.cells .live cs))(vQ:cs.length=n*12)(GX:cs.all cL=true)(hx:H[c]?=some (.cells .live x))(hl:x.length=12)(ho:x.all cL=true)
  (hs:R ι w (Live Lo ι H) (.aI b 0 n 12 n) (.slice (some ⟨cb,o,none⟩) n cap)) (hxr:R ι w (Live Lo ι H) (.aI c 0 1 12 1) (.slice (some ⟨xb,xo,none⟩) 1 qe)) (hi:i<n) (xh:n<1000) (sq:cap<n+1):
  Calls Tryz.prog 215 #[.slice (some ⟨cb,o,none⟩) n cap,.int .i64 i,.slice (some ⟨xb,xo,none⟩) 1 qe] w fun e w'=>
   ∃cv,e=.returned cv/\sM E0 Lo w0 ι H w (.aI H.length 0 (n+1) 12 (n+1)) (H.set b (.cells .dead [])++[.cells .live (cs.take (i*12)++x++cs.drop (i*12))]) cv w':=by
 obtain⟨ti,t1,t2⟩:=tyS;obtain⟨ui,u1,u2⟩:=aBp;obtain⟨ei,h3,h4,h5,h6,h7⟩:=tyE;obtain⟨zc,hzc⟩:=aMm.1 h7;have CV:=(aKB.1 hb).1;have azb:=(aKB.1 hx).1;have zS:=hs;simp only[R]at hs;obtain⟨D8,co,aqj,c1,e1,f1,i1,q,i2,i3,i4,i5⟩:=hs;simp only[Value.slice.injEq,aK3.injEq,Addr.mk.injEq,true_and,and_true,aOx]at q i5;obtain⟨⟨rfl,rfl⟩,rfl⟩:=q;obtain rfl:cap=n:=by omega
 obtain⟨D8,co',oo,g1,g2,g3,g4,_⟩:=S.obj b _ hb (by simp[ct.st]);rw[i1]at g1;cases g1
 rw[i4]at g2;cases g2
 simp only[fZ]at g3;obtain⟨c2,e2,f2,q1,q2,q3⟩:=g3;cases q1;obtain⟨z,XS,hz⟩:=D4 fq h3 hzc;obtain⟨zv,z1,z2,z3,_,_⟩:=ug fq h3 hzc ι w (Live Lo ι H);have C2:zv.cells=z:=by obtain⟨zv',g1,g2⟩:=hz w;rw[z1]at g1;cases g1;exact g2
 have hm:((cap:Int)+1-(i:Int)).toNat=cap+1-i:=by omega
 have Eb:i+(cap+1-i)=cap+1:=by omega
 have aGs:i*12<=cap*12:=aLa _ (by omega);have hold:(Builtin.firstCells ei.size i (.slice (some ⟨cb,o,none⟩) i cap)).run Tryz.prog w.drew=.ok (c1.extract o (o+i*12)) w.drew:=by rw[h4];exact ot (w:=w.drew) i4 (by omega)
 have gy:∀ty,_:=fun ty=>sS (ty:=ty) (ats:=#[135,3]) (args:=#[.slice (some ⟨cb,o,none⟩) i cap,.int .i64 ((cap:Int)+1-(i:Int))]) (ui:=ui) (k:=.i64) fq rfl rfl rfl rfl (by rw[<-t2];exact bg fq t1 w) h3 (bg fq u1 w) u2
  (by omega) (by omega) (by rw[hm];have:=Nat.mul_le_mul (show cap+1-i<=1000 by omega) h5;omega) (by rw[hm,h4];omega) (by rw[hm];omega) (by rw[hm,Eb];have:=Nat.mul_le_mul (show cap+1<=1000 by omega) h5;omega) (by rw[hm];omega) (by omega) hz hold
 rw[hm,Eb]at gy;have hrz:Rs ι w (Live Lo ι H) (gD zc (cap+1-i)) (Builtin.zeroCells z (cap+1-i)).toList:=by
  rw[<-C2]
  have:=Rd z2 (by omega) (cap+1-i)
  unfold Builtin.zeroCells;have e1:zv.cells.size=zc.length:=by have:=z2.length;simpa using this
  rw[e1];rw[e1]at this;exact this
 have XG:Rs ι w (Live Lo ι H) (cs.take (i*12)) (c1.extract o (o+i*12)).toList:=by
  have:=(q2.take (i*12)).list
  have hlen:(cs.take (i*12)).length=i*12:=by rw[aOw];omega
  rwa[hlen]at this
 have Eh:(gD zc (cap+1-i)).length=(cap+1-i)*12:=by rw[tX,z3,h4]
 have hzo:(gD zc (cap+1-i)).length=12+(cap-i)*12:=by rw[Eh];omega
 have azc:Rs ι w (Live Lo ι H) (cs.take (i*12)++gD zc (cap+1-i)) (c1.extract o (o+i*12)++Builtin.zeroCells z (cap+1-i)).toList:=by rw[Array.toList_append];exact XG.append hrz
 have Ue:(cs.take (i*12)++gD zc (cap+1-i)).length=(cap+1)*12:=by rw[aLk,aOw,Eh];omega
 obtain⟨G,hG⟩:∃G,G=grownCap w (cap+1) cap 62:=⟨_,rfl⟩;have hGn:cap+1<=G:=by rw[hG];exact grownCap_ge w _ _ _
 have asm:G<=9223372036854775807:=by
  have:=grownCap_le_maxLen w (cap+1) cap 62 (by unfold maxLen;omega)
  rw[<-hG]at this;unfold maxLen at this;omega
 rw[<-hG]at gy;obtain⟨ι1,l1,S1,x1,r1⟩:=uE S (yd S) (e:=62) (n:=cap+1) (esz:=12) (cap:=G) (rest:=Builtin.zeroCells z (G-(cap+1))) azc Ue hGn (by rw[lJ,XS,h4]);have hA:(cC.bJ [(H.length,ct.cells .live (cs.take (i*12)++gD zc (cap+1-i)))]).app H=H++[ct.cells .live (cs.take (i*12)++gD zc (cap+1-i))]:=by simp[cC.app,cJ]
 rw[hA]at S1 x1 r1;generalize hW1:w.drew.alloc _=W1 at S1 x1 r1 gy;obtain⟨N,hN⟩:∃N,N=w.heap.size:=⟨_,rfl⟩;rw[<-hN]at r1 gy;have hbN:(H++[ct.cells .live (cs.take (i*12)++gD zc (cap+1-i))])[H.length]?=some (.cells .live (cs.take (i*12)++gD zc (cap+1-i))):=by simp
 have hcN:(H++[ct.cells .live (cs.take (i*12)++gD zc (cap+1-i))])[c]?=some (.cells .live x):=by rw[aNB azb];exact hx
 have rd1:=wJ r1 (i:=i) (k:=cap+1-i);rw[Nat.zero_add]at rd1;have rx1:=R.ext x1 _ _ _ _ l1 hxr;have aj7:(cs.take (i*12)).length=i*12:=by rw[aOw];omega
 obtain⟨c2,W2,k2,ι2,l2,S2,x2⟩:=Wa S1 hbN hcN (m:=1) (by omega) (by omega) (by rw[Ue];omega) (by omega) ho rd1 rx1 3;have hX:aOy (1*12) (aOy (1*12) (aOA 0 x))=x:=by rw[List.drop_zero,List.take_take,Nat.min_self,aOv (by omega)]
 rw[hX,DQ aj7,hl]at S2 x2;have Jw:∀y z:ct,(H++[y]).set H.length z=H++[z]:=fun y z=>by simp
 rw[Jw]at S2 x2;have ay8:∀y:ct,(H++[y])[H.length]?=some y:=fun y=>by simp
 have sn:∀y:ct,(H++[y])[b]?=some (.cells .live cs):=fun y=>by rw[aNB CV];exact hb
 have l12:=cS.le_trans l1 l2;have x12:=x1.trans x2;have rd2:=(R.ext x2 _ _ _ _ l2 (wJ r1 (i:=i+1) (k:=cap+1-(i+1)))).dr;rw[Nat.zero_add]at rd2;have rx2:=(R.ext x12 _ _ _ _ l12 (wJ zS (i:=i) (k:=cap-i))).dr;obtain⟨c3,W3,k3,ι3,l3,S3,x3⟩:=Wa S2.dr (ay8 _) (sn _) (m:=cap-i) (by omega) (by omega) (by simp only[aLk,aOu,aj7,hl,hzo];omega) (by omega) GX rd2 rx2 3;have hD:aOy ((cap-i)*12) (aOy ((cap-i)*12) (aOA (i*12) cs))=cs.drop (i*12):=by rw[List.take_take,Nat.min_self,aOv (by rw[aOu,vQ,Nat.sub_mul];exact aKE _)]
 have hZ:aOA (aOA (i*12) cs).length (aOA 12 (gD zc (cap+1-i)))=[]:=aOB (by rw[aOu,aOu,hzo,vQ];omega);rw[hD,Jw,DQ (by rw[aLk,aj7,hl];omega),hZ,List.append_nil]at S3 x3;obtain⟨S4,x4⟩:=S3.kill (b:=b) [] (by simp);rw[List.set_append_left _ _ CV]at S4 x4;refine(TV hi (aKE _) sq xh hGn asm gy ⟨c2,k2⟩ ⟨c3,k3⟩).mono ?_;rintro e w' ⟨rfl,rfl⟩;have l23:=cS.le_trans l12 l3;have x23:=(x2.trans ((CD (w:=W2) (w':=W2.drew) rfl).trans x3)).trans x4;exact⟨_,rfl,ι3,l23,S4,x1.trans x23,R.ext x23 _ _ _ _ (cS.le_trans l2 l3) r1⟩
def aeE{A B:List AV}{X:List AV}{n i o:Nat}{c c2 c3:Array Value}{P:AV->Value->Prop}{ext xs:List Value}(hA:(A++B).length=n*12)(hi:i<n)(hAl:A.length=i*12)(hX:X.length=12)
  (h1:∀(j:Nat) (y:AV),(A++B)[j]?=some y->∃v,c[o+j]?=some v/\P y v) (hx:∀(j:Nat) (y:AV),X[j]?=some y->∃v,xs[j]?=some v/\P y v) (hxl:xs.length=12) (rZ:ext.length=(n-i)*12) (he:∀j:Nat,j<(n-i)*12->ext[j]?=c[o+i*12+j]?)
  (h2:∀k:Nat,c2[k]?=if o+(i+1)*12<=k/\k<o+(i+1)*12+ext.length then ext[k-(o+(i+1)*12)]? else c[k]?)
  (h3:∀k:Nat,c3[k]?=if o+i*12<=k/\k<o+i*12+xs.length then xs[k-(o+i*12)]? else c2[k]?):
  ∀(j:Nat) (y:AV),(A++X++B)[j]?=some y->∃v,c3[o+j]?=some v/\P y v:=by
 intro j y hy;rw[aLk]at hA;rw[h3];rw[List.append_assoc,aKH]at hy;by_cases g1:j<A.length
 ·rw[if_pos g1]at hy;rw[if_neg (by omega),h2,if_neg (by omega)];exact h1 j y (by rw[aNB g1];exact hy)
 ·rw[if_neg g1,aKH]at hy;by_cases g2:j-A.length<X.length
  ·rw[if_pos g2]at hy;rw[if_pos (by omega)]
   have:=hx _ y hy
   rwa[show j-A.length=o+j-(o+i*12)by omega]at this
  ·rw[if_neg g2]at hy;have hj:=(aKB.1 hy).1;rw[if_neg (by omega),h2,if_pos (by omega),he _ (by omega)]
   have:=h1 (j-12) y (by rw[List.getElem?_append_right (by omega)];rwa[show j-12-A.length=j-A.length-X.length by omega])
   rwa[show o+(j-12)=o+i*12+(o+j-(o+(i+1)*12))by omega]at this
def ar8{o:Nat×Nat}{c:Array Value}{e:TypeId}{cb k:Nat}(h:w.heap[cb]?=some (.cells c e o))(hf:¬(o.1<=k/\k<o.2)):w.frozen? ⟨cb,k,none⟩=false:=by
 simp only[World.frozen?,h];simpa using hf
def shp{o:Nat×Nat}{c:Array Value}{e:TypeId}{cb:Nat}(h:w.heap[cb]?=some (.cells c e o)):w.shape? cb=some (e,c.size):=by simp only[World.shape?,h]
def fov:∃fn,Tryz.prog.funcs[259]?=some fn/\(fn.name== "runtime.NumGoroutine")=false/\fn.body.isNone=true/\Extern.findNext fn=none/\Extern.find fn=some (Extern.SlicesOverlaps.overlaps #[135,135] #[4]):=
 ⟨Tryz.f259,Tryz.func259,by kernel_rfl,by kernel_rfl,by kernel_rfl,by kernel_rfl⟩
def X4{b c n cap i cb o xb xo qe:Nat}{x cs:List AV}(S:fR E0 Lo w0 ι H w)(hb:H[b]?=some (.cells .live cs))(vQ:cs.length=n*12)(GX:cs.all cL=true)(hx:H[c]?=some (.cells .live x))(hl:x.length=12)(ho:x.all cL=true)(MN:b≠c)
  (hs:R ι w (Live Lo ι H) (.aI b 0 n 12 n) (.slice (some ⟨cb,o,none⟩) n cap)) (hxr:R ι w (Live Lo ι H) (.aI c 0 1 12 1) (.slice (some ⟨xb,xo,none⟩) 1 qe)) (hi:i<n) (xh:n<1000) (sq:n+1<=cap):
  Calls Tryz.prog 215 #[.slice (some ⟨cb,o,none⟩) n cap,.int .i64 i,.slice (some ⟨xb,xo,none⟩) 1 qe] w fun e w'=>
   ∃cv,e=.returned cv/\sM E0 Lo w0 ι H w (.aI H.length 0 (n+1) 12 (n+1)) (H.set b (.cells .dead [])++[.cells .live (cs.take (i*12)++x++cs.drop (i*12))]) cv w':=by
 obtain⟨ti,t1,t2⟩:=tyS;obtain⟨ei,h3,h4,h5,h6,h7⟩:=tyE;have hu:Tryz.prog.underlying 135=some (.slice 62):=by rw[<-t2];exact(fq.ty _ _ t1).cD
 have l8:∀w,(Go.sizeOf 62).run Tryz.prog w=.ok 12 w:=fun w=>by rw[<-h4];exact cF fq h3 w
 have CV:=(aKB.1 hb).1;simp only[R]at hs hxr;obtain⟨D8,co,aqj,c1,e1,f1,i1,q,i2,i3,i4,i5⟩:=hs;simp only[Value.slice.injEq,aK3.injEq,Addr.mk.injEq,true_and,and_true,aOx]at q i5;obtain⟨⟨rfl,rfl⟩,rfl⟩:=q;obtain⟨xb',xo',aEj,cx,ex,fx,j1,q,j2,j3,j4,j5⟩:=hxr;simp only[Value.slice.injEq,aK3.injEq,Addr.mk.injEq,true_and,and_true,aOx]at q j5;obtain⟨⟨rfl,rfl⟩,rfl⟩:=q;have eQ:xb≠cb:=fun e=>by subst e;exact MN (S.inj b c _ _ _ _ _ hb rfl hx rfl i1 j1)
 obtain⟨D8,co',oo,g1,g2,g3,g4,_⟩:=S.obj b _ hb (by simp[ct.st]);rw[i1]at g1;cases g1
 rw[i4]at g2;cases g2
 simp only[fZ]at g3;obtain⟨c2,e2,f2,q1,q2,q3⟩:=g3;cases q1;obtain⟨D8,co',oo,g1,g2,g3,g5,_⟩:=S.obj c _ hx (by simp[ct.st]);rw[j1]at g1;cases g1
 rw[j4]at g2;cases g2
 simp only[fZ]at g3;obtain⟨c2,e2,f2,q1,p2,p3⟩:=g3;cases q1;have Ir:(i+1)*12<=n*12:=aLa _ hi;have nu:(n+1)*12<=cap*12:=aLa _ sq;have ke:∀lb kb,(callFunc 259 #[.slice (some ⟨xb,xo,none⟩) 1 qe,.slice (some ⟨cb,o+(i+1)*12,none⟩) lb kb]).run Tryz.prog w=.ok (.value (.bool false)) w:=fun lb kb=>by
  obtain⟨fn,a1,a2,a3,a4,a5⟩:=fov;rw[run_callFunc_extern a1 a2 a3 a4 a5,Lib.run_overlaps_apart w 135 4 62 hu 12 l8 ⟨xb,xo,none⟩ ⟨cb,o+(i+1)*12,none⟩ 1 qe lb kb eQ _ _ _ _ (shp j4) (shp i4) (by omega) (ar8 j4 (p3 trivial _ (by omega))) (ar8 j4 (p3 trivial _ (aKE _)))];rfl
 have vF:∀{l:List AV} {vs:List Value},Rs ι w (Live Lo ι H) l vs->l.all cL=true->∀v∈vs,v.oneCell'=true:=fun{l vs} hr ha v hv=>by
  obtain⟨k,hk⟩:=List.getElem?_of_mem hv;have hkl:k<l.length:=by have:=(aKB.1 hk).1;rw[hr.length]at this;exact this
  obtain⟨v',k1,k2⟩:=hr.get k _ (List.getElem?_eq_getElem hkl);rw[hk]at k1;cases k1
  exact Ac k2 (aLq.1 ha _ (List.getElem_mem hkl))
 have hrd:Rs ι w (Live Lo ι H) (cs.drop (i*12)) (c1.extract (o+i*12) (o+i*12+(n-i)*12)).toList:=by
  have:=(q2.drop (i*12)).list
  have hlen:(cs.drop (i*12)).length=(n-i)*12:=by rw[aOu];omega
  rwa[hlen]at this
 have hrx:Rs ι w (Live Lo ι H) x (cx.extract xo (xo+1*12)).toList:=by
  have:=p2.list
  rwa[hl]at this
 have hdl:(c1.extract (o+i*12) (o+i*12+(n-i)*12)).toList.length=(n-i)*12:=by simp;omega
 have hxl:(cx.extract xo (xo+1*12)).toList.length=12:=by simp;omega
 have FB:(cs.drop (i*12)).all cL=true:=by
  rw[aLq]at GX⊢;exact fun y hy=>GX y (aOD hy)
 have k2:=Av (w:=w.drew) (ty:=3) (dc:=cap-(i+1)) (sc:=cap-i) (sl:=n+1-i) (dl:=n+1-(i+1)) (m:=n-i) (o:=o+(i+1)*12) (so:=o+i*12) hu l8 (by omega) i4 i4 (by omega) (by omega) (fun k hk=>q3 trivial k (by omega)) (vF hrd FB);obtain⟨c2,o1,o2,o3⟩:=kG (c1.extract (o+i*12) (o+i*12+(n-i)*12)).toList w.drew cb (o+(i+1)*12) c1 e1 f1 i4 (by omega);generalize Bg:w.drew.setCells cb (o+(i+1)*12) _=W2 at k2 o1;have hx2:W2.heap[xb]?=some (.cells cx ex fx):=by rw[o1.there _ eQ];exact j4
 have k3:=Av (w:=W2) (ty:=3) (dc:=cap-i) (sc:=qe) (sl:=1) (dl:=n+1-i) (m:=1) (o:=o+i*12) (so:=xo) hu l8 (by omega) o1.here hx2 (by omega) (by omega) (fun k hk=>q3 trivial k (by omega)) (vF hrx ho);obtain⟨c3,r1,r2,r3⟩:=kG (cx.extract xo (xo+1*12)).toList W2 cb (o+i*12) c2 e1 f1 o1.here (by omega);generalize nQ:W2.setCells cb (o+i*12) _=W3 at k3 r1;have hO:El w W3 cb (.cells c3 e1 f1):=⟨r1.os.trans o1.os,r1.tape.trans o1.tape,r1.output.trans o1.output,r1.size.trans o1.size,r1.here,fun k hk=>(r1.there k hk).trans (o1.there k hk)⟩;have akM:c3.size=c1.size:=r2.trans o2;have r8:jO (.cells c1 e1 f1) (.cells c3 e1 f1):=fun cs e f q=>by cases q;exact⟨c3,_,rfl,akM⟩
 have nK:Live Lo ι H cb:=.inr ⟨b,_,o,hb,rfl,i1⟩;have AH:=hO.ext (L:=Live Lo ι H) (L':=Live Lo ι H) i4 r8 nK (fun _ h=>h);have EH:=cS.wN (p:=(cb,o)) (yd S).1;have G:=S.ZJ (cs0:=[]) (co':=o) (blk':=.cells .live (cs.take (i*12)++x++cs.drop (i*12))) hb rfl rfl (yd S) i1 i4 r8 hO (by
  simp only[fZ];refine⟨c3,e1,f1,rfl,iI.gR (aeE (n:=n) (i:=i) (P:=fun y v=>R (ι.put H.length (cb,o)) W3 (Live Lo ι H) y v) (A:=cs.take (i*12)) (by rw[aOC];exact vQ) hi (by rw[aOw];omega) hl
   (fun j y hy=>?_) (fun j y hy=>?_) hxl hdl (fun j hj=>?_) o3 r3),fun _=>by rw[akM];exact q3 trivial⟩
  ·rw[aOC]at hy;obtain⟨v,k1,k2⟩:=q2.get j y hy;exact⟨v,k1,R.ext AH _ _ _ _ EH k2⟩
  ·obtain⟨v,k1,k2⟩:=hrx.get j y hy;exact⟨v,k1,R.ext AH _ _ _ _ EH k2⟩
  ·rw[Array.getElem?_toList,Array.getElem?_extract,if_pos (by omega)]) (by simp)
 have lB:cJ (H.set b (.cells .dead [])) H.length (.cells .live (cs.take (i*12)++x++cs.drop (i*12)))=H.set b (.cells .dead [])++[.cells .live (cs.take (i*12)++x++cs.drop (i*12))]:=by simp[cJ]
 rw[lB]at G;refine(TW hi sq xh ke ⟨_,k2⟩ ⟨_,k3⟩).mono ?_;rintro e w' ⟨rfl,rfl⟩;refine⟨_,rfl,_,EH,G.1,G.2,?_⟩;simp only[R];exact⟨cb,o,cap,c3,e1,f1,by simp[cS.put],by simp,aKE _,sq,r1.here,by rw[akM];omega⟩
end
def ahT{ι:cS}{w:World}{L:Nat->Prop}{vs:Array Value}{a b c:AV}(h:Rs ι w L [a,b,c] vs.toList):∃v u x,vs=#[v,u,x]/\R ι w L a v/\R ι w L b u/\R ι w L c x:=by simp only[Rs]at h;obtain⟨v1,l1,e1,h1,v2,l2,rfl,h2,v3,l3,rfl,h3,rfl⟩:=h;exact⟨v1,v2,v3,Array.toList_inj.1 e1,h1,h2,h3⟩
def adz:qn E0 Tryz.prog EY:=by
 intro f al H v H2 h Lo w0 ι w vs S ha;unfold EY at h;split at h
 case isFalse=>cases h
 rename_i hf;subst hf;unfold JA at h;split at h
 case h_2=>cases h
 rename_i s z c;split at h
 case h_2=>cases h
 rename_i x hx;split at h
 case isFalse=>cases h
 rename_i hxx;obtain⟨hl,ho⟩:=hxx;obtain⟨vs1,vz,vx,rfl,r1,r2,r3⟩:=ahT ha;obtain rfl:vz=.int .i64 z:=by simpa[R]using r2
 have r3':=r3;simp only[R]at r3';obtain⟨xb,xo,qe,cx,ex,fx,j1,rfl,-⟩:=r3';have fB:(E0.fn 215).isSome=true:=by kernel_rfl
 split at h
 ·split at h
  case isFalse=>cases h
  rename_i hz;subst hz;cases h;have r1':=r1;simp only[R]at r1';subst r1';refine Ri fB (Qo S r1 (aKE 0) (fun _=>rfl) r3 (U1 hx hl ho)) ?_;rintro e w' ⟨cv,rfl,ι',g1,g2,g3,g4⟩;have lB:(cC.bJ [(H.length,ct.cells .live x)]).app H=H++[.cells .live x]:=by simp[cC.app,cJ]
  rw[lB]at g2 g3 g4;exact⟨ι',g1,g2,g3,g4⟩
 ·split at h
  case h_2=>cases h
  rename_i b n k _ cs hb;split at h
  case isFalse=>cases h
  rename_i hc;obtain⟨rfl,vQ,GX,hn,xh,hi0,Ir,MN⟩:=hc;cases h;have r1':=r1;simp only[R]at r1';obtain⟨cb,co,cap,c1,e1,f1,i1,rfl,i2,i3,i4,i5⟩:=r1';obtain⟨i,rfl⟩:∃i:Nat,z=i:=⟨z.toNat,by omega⟩;rw[Int.toNat_natCast];rw[aOx]at r1 r3⊢;by_cases hi:i=n
  ·subst hi;refine Ri fB (Qo S r1 i3 (fun q=>by cases q) r3 (U0 hx hl ho hb vQ hn xh)) ?_;rintro e w' ⟨cv,rfl,ι',g1,g2,g3,g4⟩;have CV:=(aKB.1 hb).1;have lB:(cC.bJ [(b,.cells .dead []),(H.length,ct.cells .live (cs++x))]).app H=H.set b (.cells .dead [])++[.cells .live (cs.take (i*12)++x++cs.drop (i*12))]:=by rw[aOv (by omega),aOB (by omega),List.append_nil];simp[cC.app,cJ,CV]
   rw[lB]at g2 g3 g4;exact⟨ι',g1,g2,g3,g4⟩
  ·have ek:i<n:=by omega
   by_cases sq:cap<n+1
   ·refine Ri fB (X0 S hb vQ GX hx hl ho r1 r3 ek xh sq) ?_;rintro e w' ⟨cv,rfl,g⟩;exact g
   ·refine Ri fB (X4 S hb vQ GX hx hl ho MN r1 r3 ek xh (by omega)) ?_;rintro e w' ⟨cv,rfl,g⟩;exact g
 ·cases h
end Go.Proofs.YtmkjgfnicfpjpaaGreatDoor
