/- Lemmas for AssemblyChecks; no condition. -/
import Derived.Test.YtmkjgfnicfpjpaaGreatDoorTau
set_option linter.all false
set_option maxHeartbeats 100000000
set_option maxRecDepth 100000
noncomputable section
open List renaming getElem?_append_left->aNB,getElem?_set_ne->aNt,length_append->aLk,getElem?_eq_getElem->aLh,getD_eq_getElem?_getD->aTc,getElem?_set_self->aNv,mem_map->aMr,length_set->aPI,append_assoc->aTs,length_map->aOY,range->aN1,getElem?_eq_some_iff->aKB,getElem_mem->aLr,mem_singleton->aMs,getElem?_map->aMf,mem_flatten->aVG,getElem?_eq_none->aKG,set_append_left->aVt,ext_getElem?->aNA,flatten_cons->aO8,not_mem_nil->aVd
open Nat renaming lt_of_le_of_lt->aR1,gcd_dvd_left->aVC,gcd->aVD,gcd_eq_zero_iff->aVE,mul_comm->aR0,le_trans->aM7,gcd_pos_of_pos_left->aVH,le_of_dvd->aUa,pos_of_ne_zero->aSr,gcd_zero_left->aVI,reduceLT->aa,reduceEqDiff->ae,reduceAdd->ah,reduceLeDiff->ai,reduceBEq->aj,reduceMul->ak
open Int renaming natAbs_natCast->aTT,natAbs_eq_zero->aVF,reduceLE->an,reduceLT->aq,reduceToNat->ar,reduceAdd->aA,reduceBNe->aE
open Rat renaming divInt->aTR
open Option renaming getD_some->aMv,map_some->aLt
namespace Go.Proofs.YtmkjgfnicfpjpaaGreatDoor
open Go Dv
variable{E:Env}[C:Ctx E]
def IC{E:Env}{ts:List AV}{H:Hp}{Q:Ex->List AV->Hp->Prop}{g:Operand}{ps:Array Nat}{assign body code:Code}{f nt:Nat}{first cap:List AV}{results:List ResultVar}{pu du:Bool}
  (hg:bT ts g=some (.func f first cap)) (fB:E.fn f=some {code:=code,ntmps:=nt,results:=results,pure:=pu,eE:=du})
  (h:∀(ac bd:Code) (tr:List AV),ac=assign->bd=body->tr=ts->∀Ej:List AV,Ej=first++[.yield H.length]++cap++List.replicate (nt-(first++[AV.yield H.length]++cap).length) bS->V E code Ej (H++[.loop .ready none tr ps.toList ac bd]) (pO E results fun _ H2=>LZ E H.length ts Q H2)):
  V E (.rangeFunc g ps assign body) ts H Q:=abb hg fB (fun Ej e=>h assign body ts rfl rfl rfl Ej e)
def Jb{ts:List AV}:bT ts (.const .nilFunc)=some .fQ:=by unfold bT;exact(by rfl:anY .nilFunc=some .fQ)
def OM{cs:List AV}{n:Nat}(hp:aV cs=true):aR E 167 [.aK cs n]=some (.func 211 [] [.cU [.aK cs n] 0]):=by
 suffices hh:∃r,aR E 167 [.aK cs n]=some r/\r=.func 211 [] [.cU [.aK cs n] 0]by obtain⟨r,h1,rfl⟩:=hh;exact h1
 obtain⟨u,fY⟩:∃u,qR false [.cells .live [.aK cs n]] [.func 211 [] [.bI 0 0]]=some ([.func 211 [] [.cU [.aK cs n] 0]],u):=
  ⟨_,k8 (m:=3) (eu.cons (Fr.func (eu.cons (Fr.hp (st:=.live) rfl (by decide) (eu.flat (fun c hc=>by simp only[List.mem_cons,aVd,or_false]at hc;subst hc;exact BG))) eu.nil)) eu.nil) (by omega) (by simp[aV,aU])⟩
 refine qj aq8 ?_;intro ts hl g0;unfold aoH;simp only[↓aL,aM,aa,ae,Tryz.f167,hl,g0,Cm,Jb,fY]
abbrev Ed:Type:=Nat×Nat×Nat×Nat
def PT(e:Ed):List AV:=[.int .i64 (e.1:Int),.int .i64 (e.2.1:Int),.int .i64 (e.2.2.1:Int),.int .i64 (e.2.2.2:Int)]
def rX(l:List Ed):List AV:=(l.map PT).flatten
def Cy(l:List Ed):∀r∈l.map PT,r.length=4:=by intro r hr;obtain⟨p,_,rfl⟩:=aMr.1 hr;rfl
def x6(l:List Ed):(rX l).length=l.length*4:=by unfold rX;rw[iY (Cy l),aOY]
def acd(l:List Ed)(e:Ed):rX (l++[e])=rX l++PT e:=by unfold rX;simp
def Ws(l:List Ed):∀c∈rX l,Flat c:=by
 intro c hc;obtain⟨r,hr,BJ⟩:=aVG.1 hc;obtain⟨q,_,rfl⟩:=aMr.1 hr;simp only[PT,List.mem_cons,aVd,or_false]at BJ;rcases BJ with rfl|rfl|rfl|rfl<;>exact fE
def Mv:Ed:=(0,0,0,0)
def HK(es:List Ed)(p:Nat):List AV:=PT (es.getD p Mv)
def alZ(es:List Ed):qS 4 (HK es):=⟨fun p=>rfl,fun p=>rfl,fun p=>rfl⟩
def PS(es:List Ed)(js:List Nat):(js.map (HK es)).flatten=rX (js.map fun p=>es.getD p Mv):=by unfold rX HK;rw[List.map_map];rfl
def ajm(es:List Ed):((aN1 es.length).map (HK es)).flatten=rX es:=by
 rw[PS];congr 1;refine aNA fun k=>?_
 rw[aMf];rcases Nat.lt_or_ge k es.length with h|h
 ·rw[List.getElem?_range h];simp[h,aTc]
 ·rw[aKG (by simpa using h),aKG h];rfl
def acb(es:List Ed):∃cz:Nat->Nat->Int,∀p q,p<es.length->q<es.length->aR E 169 [.agg (HK es p),.agg (HK es q)]=some (.int .i64 (cz p q)):=by
 have h:∀p q,∃z:Int,aR E 169 [.agg (HK es p),.agg (HK es q)]=some (.int .i64 z):=by intro p q;obtain⟨r,hr,z,rfl⟩:=GM (E:=E) (a:=((es.getD p Mv).1:Int)) (b:=((es.getD p Mv).2.1:Int)) (c:=((es.getD p Mv).2.2.1:Int)) (d:=((es.getD p Mv).2.2.2:Int)) (a':=((es.getD q Mv).1:Int)) (b':=((es.getD q Mv).2.1:Int)) (c':=((es.getD q Mv).2.2.1:Int)) (d':=((es.getD q Mv).2.2.2:Int));exact⟨z,hr⟩
 exact⟨fun p q=>Classical.choose (h p q),fun p q _ _=>Classical.choose_spec (h p q)⟩
def Ew(k:Nat×Nat):AV:=.agg [.int .i64 (k.1:Int),.int .i64 (k.2:Int)]
def GN(a b:Nat×Nat):qi E 20 264 (Ew a) (Ew b)=some (decide (a=b)):=by
 have h:=C6 (E:=E) (m:=18) (t:=264) (n:=2) (GQ C) (B7 C) (xs:=[(a.1:Int),(a.2:Int)]) (ys:=[(b.1:Int),(b.2:Int)]) rfl rfl;have e:decide ([(a.1:Int),(a.2:Int)]=[(b.1:Int),(b.2:Int)])=decide (a=b):=by
  obtain⟨a1,a2⟩:=a;obtain⟨b1,b2⟩:=b
  rw[decide_eq_decide];simp only[List.cons.injEq,and_true,Prod.mk.injEq];omega
 rw[e]at h;exact h
structure EI(m:Nat)(H:Hp)(v:AV)(es:List Ed):Prop where
 map:H[0]?=some (.map .live ((es.map fun e=>(e.1,e.2.1)).map Ew) ((aN1 es.length).map fun(q:Nat)=>.int .i64 (q:Int)))
 box:H[1]?=some (.cells .live [.eS 0])
 var:H[2]?=some (.cells .live [v])
 sl:uo 4 3 v H es.length (rX es)
 nd:(es.map fun e=>(e.1,e.2.1)).Nodup
 lt:∀e∈es,e.1<m/\e.2.1<m
def Ge{m:Nat}(l:List (Nat×Nat))(h:l.Nodup)(hl:∀e∈l,e.1<m/\e.2<m):l.length<=m*m:=by
 have h1:(l.map fun e=>e.1*m+e.2).Nodup:=by
  refine List.pairwise_map.2 (List.Pairwise.imp_of_mem (fun{x y} ha hc eQ e=>eQ ?_) h);obtain⟨a,b⟩:=x;obtain⟨c,d⟩:=y
  have h1:=hl _ ha;have h2:=hl _ hc
  simp only at e h1 h2;have e1:(a*m+b)/m=(c*m+d)/m:=by rw[e]
  have e2:(a*m+b)%m=(c*m+d)%m:=by rw[e]
  rw[aR0 a,aR0 c,Nat.mul_add_div (by omega),Nat.mul_add_div (by omega),Nat.div_eq_of_lt h1.2,Nat.div_eq_of_lt h2.2]at e1;rw[aR0 a,aR0 c,Nat.mul_add_mod,Nat.mul_add_mod,Nat.mod_eq_of_lt h1.2,Nat.mod_eq_of_lt h2.2]at e2;simp only[Prod.mk.injEq];omega
 have h2:=I3.Zx _ (aN1 (m*m)) h1 (by
  intro x hx;obtain⟨⟨a,b⟩,hab,rfl⟩:=aMr.1 hx
  have:=hl _ hab
  simp only at this;rw[List.mem_range];have h3:(a+1)*m<=m*m:=Nat.mul_le_mul_right _ (by omega);rw[Nat.add_mul]at h3;simp only;omega)
 simpa using h2
def ah8{E:Env}{H:Hp}{aP a b:Nat}:bB E H aP .min [3,3] [.int .i64 (a:Int),.int .i64 (b:Int)]=some (.int .i64 ((min a b:Nat):Int),[]):=by
 simp only[bB,qw,KG,if_true,aLt];congr 3
 split<;>omega
def Vd{E:Env}{H:Hp}{aP a b:Nat}:bB E H aP .max [3,3] [.int .i64 (a:Int),.int .i64 (b:Int)]=some (.int .i64 ((max a b:Nat):Int),[]):=by
 simp only[bB,qw,AP,if_true,aLt];congr 3
 split<;>omega
def aao(e:Ed)(z:Nat):Ed:=(e.1,e.2.1,e.2.2.1,z)
def Fu(z:Nat):∀(es:List Ed) (q:Nat),q<es.length->(rX es).take (q*4+3)++ .int .i64 (z:Int)::(rX es).drop (q*4+4)=rX (es.set q (aao (es.getD q Mv) z))
 |[],q,h=>by cases h
 |e::es,0,h=>by simp[rX,PT,aao]
 |e::es,q+1,h=>by
  have ih:=Fu z es q (by simpa using h);have e1:rX (e::es)=PT e++rX es:=by simp[rX]
  have e2:(q+1)*4+3=(q*4+3)+4:=by omega
  have e3:(q+1)*4+4=(q*4+4)+4:=by omega
  rw[e1,e2,e3];simp only[PT,List.cons_append,List.nil_append,List.take_succ_cons,List.drop_succ_cons,List.set_cons_succ,List.getD_cons_succ];rw[ih];simp[rX,PT]
def aqH{H:Hp}{b q z:Nat}{es:List Ed}(h:H[b]?=some (.cells .live (rX es)))(hq:q<es.length):gT 1 [.int .i64 (z:Int)] H b (q*4+3)=some (.cells .live (rX (es.set q (aao (es.getD q Mv) z)))):=by
 have hl:=x6 es;rw[dX,h]
 dsimp only
 rw[if_pos (by simp[cL];omega)];congr 2;rw[<-Fu z es q hq];unfold cV
 simp
def ace{es:List Ed}{q z:Nat}:((es.set q (aao (es.getD q Mv) z)).map fun e=>(e.1,e.2.1))=es.map fun e=>(e.1,e.2.1):=by
 rw[List.map_set];rcases Nat.lt_or_ge q es.length with h|h
 ·refine aNA fun k=>?_
  rw[List.getElem?_set]
  split
  ·subst_vars;rw[if_pos (by simpa using h),aMf,aLh h,aTc,aLh h];rfl
  ·rfl
 ·rw[List.set_eq_of_length_le (by simpa using h)]
abbrev Fk:Type:=List AV×List Nat
def Ey(f:Fk):List AV:=f.1++[.aK (nA f.2) f.2.length]
def xf(l:List Fk):List AV:=(l.map Ey).flatten
structure xz(m:Nat)(f:Fk):Prop where
 len:f.1.length=16
 pure:aV f.1=true
 one:f.1.all cL=true
 ne:f.2≠[]
 len8:f.2.length<=8
 lt:∀x∈f.2,x<m
def iB{a b:List AV}:aV (a++b)=(aV a&&aV b):=by
 induction a with
 |nil=>simp[aV]
 |cons x a ih=>simp[aV,ih,Bool.and_assoc]
def xz.k17{m:Nat}{f:Fk}(h:xz m f):(Ey f).length=17:=by unfold Ey;rw[aLk,h.len];rfl
def xz.kp{m:Nat}{f:Fk}(h:xz m f):aV (Ey f)=true:=by unfold Ey;rw[iB,h.pure];simp[aV,aU]
def xz.ko{m:Nat}{f:Fk}(h:xz m f):(Ey f).all cL=true:=by unfold Ey;rw[List.all_append,h.one];rfl
def xz.k16{m:Nat}{f:Fk}(h:xz m f):(Ey f)[16]?=some (.aK (nA f.2) f.2.length):=by unfold Ey;rw[List.getElem?_append_right (by rw[h.len];omega),h.len];rfl
def CI{m:Nat}{l:List Fk}(h:∀f∈l,xz m f):∀r∈l.map Ey,r.length=17:=by intro r hr;obtain⟨p,hp,rfl⟩:=aMr.1 hr;exact(h p hp).k17
def P7{m:Nat}{l:List Fk}(h:∀f∈l,xz m f):(xf l).length=l.length*17:=by unfold xf;rw[iY (CI h),aOY]
def af6{m:Nat}{l:List Fk}(h:∀f∈l,xz m f){i:Nat}(hi:i<l.length):fG true 17 (xf l) (i*17)=some (.agg (Ey l[i])):=by
 have h1:(l.map Ey)[i]?=some (Ey l[i]):=by rw[aMf,aLh hi];rfl
 have h2:=jz (CI h) h1;have h3:=iM (CI h) (j:=i) (by simpa using hi);unfold xf;rw[jd (s:=17) h3,h2]
def Mw{m:Nat}(hm:m<=8){fs:List Fk}(hF:∀f∈fs,xz m f)(hn:fs.length<=100):
  ∃r,aR E 127 [lR (xf fs) fs.length]=some r/\∃es:List Ed,r=lR (rX es) es.length/\(∀e∈es,e.1<m/\e.2.1<m)/\es.length<=64:=by
 have chm:(AV.eS 0).cells=[.eS 0]:=rfl;have cnm:AV.gd.cells=[.gd]:=rfl;have ohm:cL (.eS 0)=true:=rfl;have mkm:=fun aP=>adQ (E:=E) (aP:=aP)
 have hlen:kC (lR (xf fs) fs.length)=some ((fs.length:Nat):Int):=nU;obtain⟨fv,hfv⟩:∃fv,fv=lR (xf fs) fs.length:=⟨_,rfl⟩;rw[<-hfv]at hlen;rw[<-hfv];refine qj aqR ?_;intro ts hl g0;unfold aop;simp only[↓aL,aM,aJ,↓reduceIte,aa,ah,ae,Tryz.f127,hl,g0,mkm,hlen,chm,cnm,ohm];refine cE (fun k_ ts H=>∃i:Nat,∃v,∃es,∃H1,k_=(fs.length-i:Nat)/\ts.length=64/\gt ts 3=.bI 1 0/\gt ts 4=.bI 2 0/\gt ts 13=fv/\gt ts 14=.int .i64 (fs.length:Int)/\gt ts 15=.int .i64 (i:Int)/\H=H1/\(i<=fs.length)/\(EI m H1 v es)) (fs.length) ?_ ?_
 rotate_left
 ·refine⟨0,.aH,[],[.map .live [] [],.cells .live [.eS 0],.cells .live [.aH]],(by first|omega|rfl|simp),(by simp[bc,hl]),?_⟩;simp only[aZ,hl,aa,ae]
  iterate 6 refine cG ?_
  refine⟨?_,?_⟩
  ·first|omega|trivial
  ·first|exact⟨rfl,rfl,rfl,.inl ⟨rfl,rfl,rfl⟩,List.nodup_nil,fun e he=>by cases he⟩|trivial
 clear hl g0 ts;rintro k_ ts H ⟨i,v,es,H1,rfl,hl,g3,g4,g13,g14,g15,rfl,hi,hE⟩;refine VS ?_;by_cases hd:i<fs.length
 rotate_left
 ·have d1:decide ((i:Int)<(fs.length:Int))=false:=bj;have h64:es.length<=64:=by
   have:=Ge (m:=m) _ hE.nd (by
    intro e he;obtain⟨d,hd,rfl⟩:=aMr.1 he;exact hE.lt d hd)
   rw[aOY]at this;exact aM7 this (aM7 (Nat.mul_le_mul hm hm) (by decide))
  have c2:cellAt H 2 0=some v:=by rw[bX,hE.var];rfl
  rcases hE.sl with⟨e0,-,rfl⟩|⟨AF,b,mN,sn,rfl,hb3⟩
  ·obtain⟨r1,H1,e1,rfl,rfl⟩:=AI (E:=E) .x0 (g:=169) (H0:=H);obtain rfl:es=[]:=List.length_eq_zero_iff.1 e0;simp only[↓aL,aM,↓aT,aJ,↓reduceIte,aa,ae,hl,g4,g14,g15,d1,c2,e1];exact⟨[],rfl,(fun e he=>by cases he),by simp⟩
  obtain⟨cz,hcz⟩:=acb (E:=E) es;obtain⟨r1,H1,e1,rfl,hW,js,hS,hp⟩:=Da (E:=E) .x0 (b:=b) (n:=es.length) (kc:=es.length) (g:=169) (row:=HK es) (cz:=cz) (H0:=H) (alZ es) (bM C) hcz (by omega) (by unfold SR;rw[ajm];exact hb3);have c2':cellAt H1 2 0=some (.aI b 0 es.length 4 es.length):=by rw[bX,hW.get 2 (aKB.1 hE.var).1 (by omega),hE.var];rfl
  obtain⟨Ii,MP⟩:∃Ii,Ii=js.map fun p=>es.getD p Mv:=⟨_,rfl⟩
  have oU:Ii.length=es.length:=by rw[MP,aOY];exact SR.tQ hp
  unfold SR at hS;rw[PS,<-MP]at hS;have fY:=yf (m:=es.length) (s:=4) hS (by decide) (by rw[x6,oU]) (Ws Ii);simp only[↓aL,aM,↓aT,aJ,↓reduceIte,aa,ae,hl,g4,g14,g15,d1,c2,c2',e1,fY];refine⟨Ii,by rw[gf,oU],?_,by omega⟩;intro e he;rw[MP]at he;obtain⟨p,hpm,rfl⟩:=aMr.1 he
  have:=List.mem_range.1 (hp.mem_iff.1 hpm)
  rw[aTc,aLh this];exact hE.lt _ (aLr this)
 have d1:decide ((i:Int)<(fs.length:Int))=true:=bh;have hfx:AV.aK (xf fs) fs.length=fv:=by rw[hfv];exact(gf).symm
 rw[<-hfx]at g13;have ci:=eT (i:=i) (n:=fs.length) hd;have mZ:=wz (z:=(i:Int)+1) (m:=i+1);have pa:=af6 hF hd;have EF:=hF _ (aLr hd);generalize fs[i]=f at pa EF;have K17:=EF.k17;have Kp:=EF.kp;have Ko:=EF.ko;have K16:=EF.k16;have zP:=EF.lt;have eQ:=EF.ne;have hl8:=EF.len8;generalize Ey f=K at pa K17 Kp Ko K16;generalize f.2=out at K16 zP eQ hl8;have np:=adT out;have hsd:=OM (E:=E) (cs:=nA out) (n:=out.length) np;simp only[↓aL,aM,↓aT,aJ,cH,↓reduceIte,aa,ah,ae,hl,g13,g14,g15,ci,pa,K17,Ko,K16,hsd,aTs,aLk];obtain⟨HO,rfl⟩:∃HO,HO=H:=⟨H,rfl⟩;obtain⟨tsO,rfl⟩:∃tsO,tsO=ts:=⟨ts,rfl⟩;have Uf:=hl;have gO3:=g3;have gO4:=g4;have ayK:=g13;have ayL:=g14;have ayM:=g15;clear hl g3 g4 g13 g14 g15;refine IC (f:=211) (first:=[]) (cap:=[.cU [.aK (nA out) out.length] 0]) (by simp only[aZ,aQ,Uf,aa]) (by rw[C.fn];exact arA) ?_;intro ac bd tr EC Xd Su ts Bl;have tl:tr.length=64:=by rw[Su];simp only[bc,Uf]
 have t3:gt tr 3=.bI 1 0:=by rw[Su];simp only[aZ,ae,gO3]
 have t4:gt tr 4=.bI 2 0:=by rw[Su];simp only[aZ,ae,gO4]
 have t5:gt tr 5=.bI HO.length 0:=by rw[Su];simp only[aZ,Uf,aa,ae]
 have key:∀(H:Hp) (v:AV) (es:List Ed) (a b:Nat),a<m->b<m->EI m H v es->H[HO.length]?=some (.cells .live [.int .i64 (i:Int)])->H[HO.length+2]?=some (.loop .ready none tr [23,24] ac bd)->3<=HO.length->
   ∃r H',nE E (HO.length+2) [.int .i64 (a:Int),.int .i64 (b:Int)] H=some (r,H')/\(r=.bool true/\∃v' Ii,EI m H' v' Ii/\H'[HO.length]?=some (.cells .live [.int .i64 (i:Int)])/\H'[HO.length+2]?=some (.loop .ready none tr [23,24] ac bd)):=by
  intro H v es a b ha hb hE hbx yY h3;refine D0 (G:=fun r H'=>r=.bool true/\∃v' Ii,EI m H' v' Ii/\H'[HO.length]?=some (.cells .live [.int .i64 (i:Int)])/\H'[HO.length+2]?=some (.loop .ready none tr [23,24] ac bd)) yY (ts':=(tr.set 23 (.int .i64 (a:Int))).set 24 (.int .i64 (b:Int))) rfl ?_;obtain⟨tz,EO⟩:∃tz,tz=(tr.set 23 (.int .i64 (a:Int))).set 24 (.int .i64 (b:Int)):=⟨_,rfl⟩;rw[<-EO];have hl:tz.length=64:=by rw[EO];simp only[aPI,tl]
  have g3:gt tz 3=.bI 1 0:=by rw[EO];simp only[aY,ne_eq,ae,not_false_eq_true,t3]
  have g4:gt tz 4=.bI 2 0:=by rw[EO];simp only[aY,ne_eq,ae,not_false_eq_true,t4]
  have g5:gt tz 5=.bI HO.length 0:=by rw[EO];simp only[aY,ne_eq,ae,not_false_eq_true,t5]
  have g23:gt tz 23=.int .i64 (a:Int):=by rw[EO];simp only[aY,aN,tl,aa,ne_eq,ae,not_false_eq_true]
  have g24:gt tz 24=.int .i64 (b:Int):=by rw[EO];simp only[aN,aPI,tl,aa]
  rw[EC];refine VS ?_;simp only[↓aL,aM,ae,g23,g24];refine⟨none,tr,[23,24],ac,bd,yY,?_⟩;obtain⟨HB,hHB⟩:∃HB,HB=H.set (HO.length+2) (.loop .busy none tr [23,24] ac bd):=⟨_,rfl⟩;rw[<-hHB,Xd];have hLl:HO.length+2<H.length:=(aKB.1 yY).1;have hBl:HB.length=H.length:=by rw[hHB];simp
  have W8:∀k,k≠HO.length+2->HB[k]?=H[k]?:=fun k hk=>by rw[hHB,aNt (Ne.symm hk)]
  have hBL:HB[HO.length+2]?=some (.loop .busy none tr [23,24] ac bd):=by rw[hHB,aNv hLl]
  have b0:HB[0]?=some (.map .live ((es.map fun e=>(e.1,e.2.1)).map Ew) ((aN1 es.length).map fun(q:Nat)=>.int .i64 (q:Int))):=by rw[W8 0 (by omega)];exact hE.map
  have b1:HB[1]?=some (.cells .live [.eS 0]):=by rw[W8 1 (by omega)];exact hE.box
  have b2:HB[2]?=some (.cells .live [v]):=by rw[W8 2 (by omega)];exact hE.var
  have b5:HB[HO.length]?=some (.cells .live [.int .i64 (i:Int)]):=by rw[W8 _ (by omega)];exact hbx
  have c1:∀{T:Hp},cellAt (HB++T) 1 0=some (.eS 0):=by intro T;rw[bX,aNB (by omega),b1];rfl
  have c2:∀{T:Hp},cellAt (HB++T) 2 0=some v:=by intro T;rw[bX,aNB (by omega),b2];rfl
  have c5:∀{T:Hp},cellAt (HB++T) HO.length 0=some (.int .i64 (i:Int)):=by intro T;rw[bX,aNB (by omega),b5];rfl
  have mn:=fun{H:Hp} {aP:Nat}=>ah8 (E:=E) (H:=H) (aP:=aP) (a:=a) (b:=b)
  have mx:=fun{H:Hp} {aP:Nat}=>Vd (E:=E) (H:=H) (aP:=aP) (a:=a) (b:=b)
  have hkx:min a b<m:=by omega
  have hky:max a b<m:=by omega
  generalize min a b=x at mn hkx;generalize max a b=y at mx hky;have Qh:pJ E 260 264 3=true:=BN C;have Il:(HB++[ct.cells .live [.int .i64 (x:Int),.int .i64 (y:Int)]])[0]?=some (.map .live ((es.map fun e=>(e.1,e.2.1)).map Ew) ((aN1 es.length).map fun(q:Nat)=>.int .i64 (q:Int))):=by rw[aNB (by omega)];exact b0
  have h64:es.length<=64:=by
   have:=Ge (m:=m) _ hE.nd (by
    intro e he;obtain⟨d,hd,rfl⟩:=aMr.1 he;exact hE.lt d hd)
   rw[aOY]at this;exact aM7 this (aM7 (Nat.mul_le_mul hm hm) (by decide))
  by_cases hf:(x,y)∈es.map fun e=>(e.1,e.2.1)
  ·obtain⟨q,hq,yk⟩:=rq (ok:=true) Qh (fun a b=>GN (E:=E) a b) Il (by simp) hf;rw[aOY]at hq;rw[show((aN1 es.length).map fun(q:Nat)=>AV.int .i64 (q:Int)).getD q bS=.int .i64 (q:Int)by simp[aTc,hq]]at yk;simp only[Ew,if_true]at yk;rcases hE.sl with⟨e0,-,-⟩|⟨-,bb,bb1,bb2,hv,Fg⟩
   ·omega
   subst hv;have cq:=eT (i:=q) (n:=es.length) hq;have asF:=aqH (H:=HB++[ct.cells .live [.int .i64 (x:Int),.int .i64 (y:Int)]]) (b:=bb) (q:=q) (z:=i) (es:=es) (by rw[aNB (by omega),W8 bb (by rintro rfl;rw[yY]at Fg;cases Fg)];exact Fg) hq;obtain⟨Ii,MP⟩:∃Ii,Ii=es.set q (aao (es.getD q Mv) i):=⟨_,rfl⟩;rw[<-MP]at asF;have Xm:(Ii.map fun e=>(e.1,e.2.1))=es.map fun e=>(e.1,e.2.1):=by rw[MP,ace]
   have Xp:Ii.length=es.length:=by rw[MP];simp
   obtain⟨H3,pE⟩:∃H3,H3=HB.set bb (.cells .live (rX Ii)):=⟨_,rfl⟩;have lN:∀{l:Hp},cJ (HB++l) bb (.cells .live (rX Ii))=H3++l:=by
    intro l;rw[dk (by rw[aLk];omega),aVt _ _ (by omega),pE]
   have GZ:H3.length=HB.length:=by rw[pE];simp
   have hbb:bb≠HO.length+2:=by rintro rfl;rw[yY]at Fg;cases Fg
   have hbo:bb≠HO.length:=by
    rintro rfl;rw[hbx]at Fg
    injection Fg with e;injection e with _ e
    have:=congrArg List.length e
    rw[x6]at this;simp at this;omega
   have h3g:∀k,k≠bb->H3[k]?=HB[k]?:=fun k hk=>by rw[pE,aNt (Ne.symm hk)]
   simp only[↓aL,aM,aJ,cH,↓reduceIte,aa,ah,ae,an,aq,ar,ai,hl,g3,g4,g5,mn,mx,c1,c2,c5,yk,cq,asF,lN,Nat.add_assoc,aLk];refine⟨.busy,none,tr,[23,24],ac,bd,?_,rfl,.aI bb 0 es.length 4 es.length,Ii,⟨?_,?_,?_,?_,?_,?_⟩,?_,?_⟩
   ·rw[aNB (by omega),h3g _ (Ne.symm hbb)];exact hBL
   ·rw[aNt (by omega),aNB (by omega),h3g _ (by omega),b0,Xm,Xp]
   ·rw[aNt (by omega),aNB (by omega),h3g _ (by omega),b1]
   ·rw[aNt (by omega),aNB (by omega),h3g _ (by omega),b2]
   ·rw[Xp];exact .inr ⟨by omega,bb,bb1,by rw[aPI,aLk];omega,rfl,by rw[aNt (Ne.symm hbb),aNB (by omega),pE,aNv (by omega)]⟩
   ·rw[Xm];exact hE.nd
   ·intro e he;have h1:(e.1,e.2.1)∈Ii.map fun e=>(e.1,e.2.1):=List.mem_map_of_mem he
    rw[Xm]at h1;obtain⟨d,hd,hde⟩:=aMr.1 h1
    have:=hE.lt d hd
    simp only[Prod.mk.injEq]at hde;rw[<-hde.1,<-hde.2];exact this
   ·rw[aNt (by omega),aNB (by omega),h3g _ (Ne.symm hbo),b5]
   ·rw[aNv (by rw[aLk];omega),EC,Xd]
  have yk:=uG (ok:=true) Qh (fun a b=>GN (E:=E) a b) Il (by simp) hf (amB (E:=E));have hup:=wZ (v:=.int .i64 ((es.length:Nat):Int)) Qh (fun a b=>GN (E:=E) a b) Il (by simp) hf;have qA:=hE.sl.len;simp only[Ew,if_true]at yk hup;obtain⟨H2,yW⟩:∃H2,H2=HB.set 0 (.map .live ((es.map (fun e=>(e.1,e.2.1))++[(x,y)]).map Ew) ((aN1 es.length).map (fun(q:Nat)=>AV.int .i64 (q:Int))++[.int .i64 ((es.length:Nat):Int)])):=⟨_,rfl⟩;have G2:∀{l:Hp},cJ (HB++l) 0 (.map .live ((es.map (fun e=>(e.1,e.2.1))++[(x,y)]).map Ew) ((aN1 es.length).map (fun(q:Nat)=>AV.int .i64 (q:Int))++[.int .i64 ((es.length:Nat):Int)]))=H2++l:=by
   intro l;rw[dk (by rw[aLk];omega),aVt _ _ (by omega),yW]
  have yj:H2.length=HB.length:=by rw[yW];simp
  have h2g:∀k,k≠0->H2[k]?=HB[k]?:=fun k hk=>by rw[yW,aNt (Ne.symm hk)]
  have d2:∀{T:Hp},cellAt (H2++T) 2 0=some v:=by intro T;rw[bX,aNB (by omega),h2g _ (by omega),b2];rfl
  have d5:∀{T:Hp},cellAt (H2++T) HO.length 0=some (.int .i64 (i:Int)):=by intro T;rw[bX,aNB (by omega),h2g _ (by omega),b5];rfl
  have Jv:uo 4 0 v (H2++[ct.cells .live [.int .i64 (x:Int),.int .i64 (y:Int)],ct.cells .live [.int .i64 (x:Int),.int .i64 (y:Int),.int .i64 (i:Int),.int .i64 (i:Int)]]) es.length (rX es):=by
   rcases hE.sl with h|⟨a0,bb,bb1,bb2,hv,Fg⟩
   ·exact .inl h
   ·have hbb:bb≠HO.length+2:=by rintro rfl;rw[yY]at Fg;cases Fg
    exact .inr ⟨a0,bb,by omega,by rw[aLk];omega,hv,by rw[aNB (by omega),h2g _ (by omega),W8 _ hbb];exact Fg⟩
  have D9:∀aP,bQ E aP 137 1 [(0,AV.agg [.int .i64 (x:Int),.int .i64 (y:Int),.int .i64 (i:Int),.int .i64 (i:Int)])]=some (.aI aP 0 1 4 1,[(aP,.cells .live [.int .i64 (x:Int),.int .i64 (y:Int),.int .i64 (i:Int),.int .i64 (i:Int)])]):=fun aP=>jJ Le rfl (by decide) (by decide) rfl
  obtain⟨bJ,H3,lB,pE,h3n,h3l,h3g⟩:=ahS (E:=E) (G:=H2++[ct.cells .live [.int .i64 (x:Int),.int .i64 (y:Int)],ct.cells .live [.int .i64 (x:Int),.int .i64 (y:Int),.int .i64 (i:Int),.int .i64 (i:Int)]]) (d:=H2.length+1) (aP:=H2.length+2) (x:=[.int .i64 (x:Int),.int .i64 (y:Int),.int .i64 (i:Int),.int .i64 (i:Int)]) (st:=.live) Le (by decide) Jv (x6 es) (by simp) (by decide) (by simp) rfl rfl (by unfold eU;omega) (by omega);rw[yj]at lB h3n h3l h3g;have h3k:∀k,k<HB.length->(∀m,v≠ .aI k 0 m 4 m)->H3[k]?=H2[k]?:=fun k hk hv=>by
   rw[h3g k (by omega) hv,aNB (by omega)]
  have G5:∀k,(∀cs,H[k]?≠some (.cells .live cs))∨k<3->∀m,v≠ .aI k 0 m 4 m:=by
   intro k hk m0 hv;rcases hE.sl with⟨_,_,h⟩|⟨a0,bb,bb1,bb2,hv',Fg⟩
   ·rw[hv]at h;cases h
   ·rw[hv]at hv';injection hv' with e;subst e
    rcases hk with hk|hk
    ·exact hk _ Fg
    ·omega
  have h30:H3[0]?=some (.map .live (((es++[(x,y,i,i)]).map fun e=>(e.1,e.2.1)).map Ew) ((aN1 (es++[(x,y,i,i)]).length).map fun(q:Nat)=>.int .i64 (q:Int))):=by
   rw[h3k 0 (by omega) (G5 0 (.inr (by omega))),yW,aNv (by omega)];congr 2
   ·simp
   ·rw[aLk,List.length_cons,List.length_nil,List.range_succ,List.map_append];rfl
  have h31:H3[1]?=some (.cells .live [.eS 0]):=by rw[h3k 1 (by omega) (G5 1 (.inr (by omega))),h2g _ (by omega),b1]
  have h32:H3[2]?=some (.cells .live [v]):=by rw[h3k 2 (by omega) (G5 2 (.inr (by omega))),h2g _ (by omega),b2]
  have h35:H3[HO.length]?=some (.cells .live [.int .i64 (i:Int)]):=by
   have hvo:∀m,v≠ .aI HO.length 0 m 4 m:=by
    intro m0 hv;rcases hE.sl with⟨_,_,h⟩|⟨a0,bb,bb1,bb2,hv',Fg⟩
    ·rw[hv]at h;cases h
    ·rw[hv]at hv';injection hv' with e;subst e
     rw[hbx]at Fg;injection Fg with e;injection e with _ e
     have:=congrArg List.length e
     rw[x6]at this;simp at this;omega
   rw[h3k _ (by omega) hvo,h2g _ (by omega),b5]
  have h3L:H3[HO.length+2]?=some (.loop .busy none tr [23,24] ac bd):=by
   rw[h3k _ (by omega) (G5 _ (.inl (fun cs h=>by rw[yY]at h;cases h))),h2g _ (by omega),hBL]
  have dp:gT 1 [AV.aI (HB.length+2) 0 (es.length+1) 4 (es.length+1)] H3 2 0=some (.cells .live [AV.aI (HB.length+2) 0 (es.length+1) 4 (es.length+1)]):=by rw[dX,h32];rfl
  have xi:cJ H3 2 (.cells .live [AV.aI (HB.length+2) 0 (es.length+1) 4 (es.length+1)])=H3.set 2 (.cells .live [AV.aI (HB.length+2) 0 (es.length+1) 4 (es.length+1)]):=dk;simp only[↓aL,aM,aJ,cH,↓reduceIte,aa,ah,ae,an,aq,ar,ai,hl,g3,g4,g5,mn,mx,c1,c2,yk,hup,qA,G2,yj,d2,d5,D9,lB,pE,dp,xi,aTs,aLk];refine⟨.busy,none,tr,[23,24],ac,bd,?_,rfl,.aI (HB.length+2) 0 (es.length+1) 4 (es.length+1),es++[(x,y,i,i)],⟨?_,?_,?_,?_,?_,?_⟩,?_,?_⟩
  ·rw[aNt (by omega),h3L]
  ·rw[aNt (by omega),aNt (by omega),h30]
  ·rw[aNt (by omega),aNt (by omega),h31]
  ·rw[aNt (by omega),aNv (by omega)]
  ·rw[aLk,acd];exact .inr ⟨by simp,HB.length+2,by omega,by rw[aPI,aPI];omega,rfl,by rw[aNt (by omega),aNt (by omega),h3n];rfl⟩
  ·rw[List.map_append,List.nodup_append];refine⟨hE.nd,by simp,?_⟩;intro u hu w hw e;simp only[List.map_cons,List.map_nil,aMs]at hw;subst hw;subst e;exact hf hu
  ·intro e he;rcases List.mem_append.1 he with he|he
   ·exact hE.lt e he
   ·rw[aMs]at he;subst he;exact⟨hkx,hky⟩
  ·rw[aNt (by omega),aNt (by omega),h35]
  ·rw[aNv (by rw[aPI];omega),EC,Xd]
 have h3:3<=HO.length:=by have:=(aKB.1 hE.var).1;omega
 have hll:(HO++[ct.cells .live [.int .i64 (i:Int)],.cells .live K]).length=HO.length+2:=by simp
 rw[hll]at Bl⊢;have hl:ts.length=25:=by rw[Bl];rfl
 have g0:gt ts 0=.yield (HO.length+2):=by rw[Bl];rfl
 have g1:gt ts 1=.cU [.aK (nA out) out.length] 0:=by rw[Bl];rfl
 clear Bl;obtain⟨HS,hHS⟩:∃HS,HS=HO++[ct.cells .live [.int .i64 (i:Int)],.cells .live K]++[.loop .ready none tr (#[23,24]:Array Nat).toList ac bd]:=⟨_,rfl⟩;rw[<-hHS];have s0:∀k,k<HO.length->HS[k]?=HO[k]?:=fun k hk=>by rw[hHS,aTs,aNB hk]
 have sE:EI m HS v es:=by refine⟨by rw[s0 _ (by omega)];exact hE.map,by rw[s0 _ (by omega)];exact hE.box,by rw[s0 _ (by omega)];exact hE.var,?_,hE.nd,hE.lt⟩;rw[hHS,aTs];exact hE.sl.app
 have sx:HS[HO.length]?=some (.cells .live [.int .i64 (i:Int)]):=by rw[hHS,aTs];simp
 have sL:HS[HO.length+2]?=some (.loop .ready none tr [23,24] ac bd):=by rw[hHS,aTs];simp
 clear hHS s0;unfold apd;refine VS ?_;simp only[↓aL,aM,aJ,aa,Tryz.f211,hl,g1];obtain⟨es0,rfl⟩:∃es0,es0=es:=⟨es,rfl⟩;obtain⟨v0,rfl⟩:∃v0,v0=v:=⟨v,rfl⟩;refine cE (fun k_ ts H=>∃j:Nat,∃v,∃es,∃H1,k_=(out.length-j:Nat)/\ts.length=25/\gt ts 0=.yield (HO.length+2)/\gt ts 1=.cU [.aK (nA out) out.length] 0/\gt ts 5=.aK (nA out) out.length/\gt ts 6=.int .i64 (out.length:Int)/\gt ts 7=.int .i64 (j:Int)/\H=H1/\(j<=out.length)/\(EI m H1 v es)/\(H1[HO.length]?=some (.cells .live [.int .i64 (i:Int)]))/\(H1[HO.length+2]?=some (.loop .ready none tr [23,24] ac bd))) (out.length) ?_ ?_
 rotate_left
 ·refine⟨0,v0,es0,HS,(by first|omega|rfl|simp),(by simp[bc,hl]),?_⟩;simp only[aZ,hl,aa,ae,g0,g1]
  iterate 6 refine cG ?_
  refine⟨?_,?_,?_,?_⟩
  ·first|omega|trivial
  ·first|exact sE|trivial
  ·first|exact sx|trivial
  ·first|exact sL|trivial
 clear hl g0 g1 ts;rintro k_ ts H ⟨j,v,es,H1,rfl,hl,g0,g1,g5,g6,g7,rfl,hj,hE2,hbx,yY⟩;refine VS ?_;by_cases lK:j<out.length
 ·have d2:decide ((j:Int)<(out.length:Int))=true:=bh;have cj:=eT (i:=j) (n:=out.length) lK;have na:=QX lK;have wj1:=wz (z:=(j:Int)+1) (m:=j+1);have Js:(j+1)%out.length<out.length:=Nat.mod_lt _ (by omega);have cm:=eT (i:=(j+1)%out.length) (n:=out.length) Js;have nb:=QX Js;have Ee:∀{c:Bool} {t:Nat},cd E c .rem t (.int .i64 ((j+1:Nat):Int)) (.int .i64 (out.length:Int))=some (.int .i64 (((j+1)%out.length:Nat):Int)):=fun{c t}=>mw (E:=E) (c:=c) (t:=t)
  have ha:out.getD j 0<m:=by rw[aTc,aLh lK,aMv];exact zP _ (aLr lK)
  have hb:out.getD ((j+1)%out.length) 0<m:=by rw[aTc,aLh Js,aMv];exact zP _ (aLr Js)
  obtain⟨r,H2,hy,rfl,v2,es2,hE3,ay9,azx⟩:=key H v es _ _ ha hb hE2 hbx yY h3;generalize out.getD j 0=xa at na hy;generalize out.getD ((j+1)%out.length) 0=xb at nb hy;generalize(j+1)%out.length=q at cm nb Ee;simp only[↓aL,aM,aJ,↓reduceIte,aa,ah,ae,hl,g0,g1,g5,g6,g7,cj,na,wj1,cm,nb,Ee,hy];refine bK ?_;refine⟨_,?_,j+1,v2,es2,H2,rfl,(by simp[bc,hl]),?_⟩
  ·first|omega|(simp;omega)
  simp only[aZ,hl,aa,ae,g0,g1,g5,g6]
  iterate 6 refine cG ?_
  refine⟨?_,?_,?_,?_⟩
  ·omega
  ·exact hE3
  ·exact ay9
  ·exact azx
 have d2:decide ((j:Int)<(out.length:Int))=false:=bj;simp only[↓aL,aM,↓reduceIte,aa,hl,g6,g7,d2];refine⟨.ready,none,tr,[23,24],ac,bd,yY,by decide,?_⟩
 dsimp only
 clear hl g0 g1 g5 g6 g7;obtain⟨H4,qx⟩:∃H4,H4=H.set (HO.length+2) (.loop .exhausted none tr [23,24] ac bd):=⟨_,rfl⟩;rw[<-qx];have hE4:EI m H4 v es:=by
  have h4:∀k,k≠HO.length+2->H4[k]?=H[k]?:=fun k hk=>by rw[qx,aNt (Ne.symm hk)]
  refine⟨by rw[h4 _ (by omega)];exact hE2.map,by rw[h4 _ (by omega)];exact hE2.box,by rw[h4 _ (by omega)];exact hE2.var,?_,hE2.nd,hE2.lt⟩;rcases hE2.sl with h|⟨a0,bb,bb1,bb2,hv,Fg⟩
  ·exact .inl h
  ·exact .inr ⟨a0,bb,bb1,by rw[qx,aPI];exact bb2,hv,by rw[h4 _ (by rintro rfl;rw[yY]at Fg;cases Fg)];exact Fg⟩
 clear qx;have hl:=Uf;have g3:=gO3;have g4:=gO4;have g13:=ayK;have g14:=ayL;have g15:=ayM;simp only[↓aL,aM,aa,ae,hl,g15,mZ];refine bK ?_;refine⟨_,?_,i+1,v,es,H4,rfl,(by simp[bc,hl]),?_⟩
 ·first|omega|(simp;omega)
 simp only[aZ,hl,aa,ae,g3,g4,g13,g14]
 iterate 6 refine cG ?_
 refine⟨?_,?_⟩
 ·omega
 ·exact hE4
end Go.Proofs.YtmkjgfnicfpjpaaGreatDoor
namespace Go.Proofs.YtmkjgfnicfpjpaaGreatDoor
open Go Dv Dv.dR
variable{E:Env}[C:Ctx E]
def avl{E:Env}{c:Bool}{t:Nat}:cd E c .rem t (.int .i64 1) (.int .i64 3)=some (.int .i64 1):=mw (a:=1) (b:=3)
def avm{E:Env}{c:Bool}{t:Nat}:cd E c .rem t (.int .i64 2) (.int .i64 3)=some (.int .i64 2):=mw (a:=2) (b:=3)
def avn{E:Env}{c:Bool}{t:Nat}:cd E c .rem t (.int .i64 3) (.int .i64 3)=some (.int .i64 0):=mw (a:=3) (b:=3)
def avo{E:Env}{c:Bool}{t:Nat}:cd E c .rem t (.int .i64 4) (.int .i64 3)=some (.int .i64 1):=mw (a:=4) (b:=3)
def Ml{v1 v2 v3 v4:AV}{a b c d:Rat}(h1:eA v1 a)(h2:eA v2 b)(h3:eA v3 c)(h4:eA v4 d){k l:Nat}(b1:Bq k a)(b2:Bq l b)(b3:Bq k c)(b4:Bq l d)(hk:k+l<=10000000000):
  ∃x y r,aR E 69 [v1,v2]=some x/\aR E 69 [v3,v4]=some y/\aR E 152 [x,y]=some r/\aU x=true/\aU y=true/\eA r (a*b-c*d):=by
 obtain⟨x,hx,ix⟩:=nZ (E:=E) h1 h2 b1 b2;obtain⟨y,hy,iy⟩:=nZ (E:=E) h3 h4 b3 b4;obtain⟨r,hr,ir⟩:=mi (E:=E) ix iy (b1.mul b2) (b3.mul b4);exact⟨x,y,r,hx,hy,hr,HI ix,HI iy,ir⟩
def Mm{k l:Nat}{a b:V3}(ba:BV k a)(bb:BV l b):BV (2*(k+l)+1) (O6 a b):=
 ⟨((ba.2.1.mul bb.2.2).sub (ba.2.2.mul bb.2.1)).mono (by omega),((ba.2.2.mul bb.1).sub (ba.1.mul bb.2.2)).mono (by omega),((ba.1.mul bb.2.1).sub (ba.2.1.mul bb.1)).mono (by omega)⟩
def Mn{v w:AV}{a b:V3}(h:ky v a)(h':ky w b){k l:Nat}(ba:BV k a)(bb:BV l b)(hk:k+l<=10000000000):∃r,aR E 174 [v,w]=some r/\ky r (O6 a b):=by
 obtain⟨n0,m0,n1,m1,n2,m2,n3,m3,n4,m4,n5,m5,rfl,a1,a2,a3,P,O⟩:=dC h;obtain⟨p0,q0,p1,q1,p2,q2,p3,q3,p4,q4,p5,q5,rfl,b1,b2,b3,P',O'⟩:=dC h';obtain⟨x1,y1,r1,c1,c2,c3,P1,P2,d1⟩:=Ml (E:=E) a2 b3 a3 b2 ba.2.1 bb.2.2 ba.2.2 bb.2.1 hk;obtain⟨x2,y2,r2,c4,c5,c6,P3,P4,d2⟩:=Ml (E:=E) a3 b1 a1 b3 ba.2.2 bb.1 ba.1 bb.2.2 hk;obtain⟨x3,y3,r3,c7,c8,c9,P5,P6,d3⟩:=Ml (E:=E) a1 b2 a2 b1 ba.1 bb.2.1 ba.2.1 bb.1 hk;obtain⟨i0,j0,i1,j1,_,_,rfl,-,-,-,-⟩:=db d1;obtain⟨i2,j2,i3,j3,_,_,rfl,-,-,-,-⟩:=db d2;obtain⟨i4,j4,i5,j5,_,_,rfl,-,-,-,-⟩:=db d3;have D1:=cI _ d1;have D2:=cI _ d2;have D3:=cI _ d3;refine pX are ?_;intro ts hl g0 g1;unfold aoM;simp only[↓aL,aM,aJ,ah,ae,Tryz.f174,g0,g1];refine rN 4 ?_
 simp(maxSteps:=1000000)only[↓aL,aM,↓aT,aJ,↓reduceIte,aa,ah,ak,ae,an,aq,ar,ai,aA,hl,P,P',P1,P2,P3,P4,P5,P6,D1,D2,D3,c1,c2,c3,c4,c5,c6,c7,c8,c9,qd,O9,wk3,wk4,avl,avm,avn,avo]
 exact⟨_,_,_,_,_,_,_,_,_,_,_,_,rfl,d1,d2,d3⟩
def mC{v w:AV}{a b:V3}(h:ky v a)(h':ky w b){k l:Nat}(ba:BV k a)(bb:BV l b)(hk:k+l<=100000000000:=by omega):aR E 187 [v,w]=some (.int .i64 (OZ a b)):=by
 refine rI ?_;obtain⟨n0,m0,n1,m1,n2,m2,n3,m3,n4,m4,n5,m5,rfl,a1,a2,a3,P,O⟩:=dC h;obtain⟨p0,q0,p1,q1,p2,q2,p3,q3,p4,q4,p5,q5,rfl,b1,b2,b3,P',O'⟩:=dC h';have c1:=gS (E:=E) a1 b1 ba.1 bb.1 hk;have c2:=gS (E:=E) a2 b2 ba.2.1 bb.2.1 hk;have c3:=gS (E:=E) a3 b3 ba.2.2 bb.2.2 hk;refine pX ark ?_;intro ts hl g0 g1;unfold aoQ;simp only[↓aL,aM,ae,Tryz.f187,g0,g1];refine rN 4 ?_;unfold OZ;generalize qq a.x b.x=x at*;generalize qq a.y b.y=y at*;generalize qq a.z b.z=z at*;by_cases hx:x=0
 ·subst hx;by_cases hy:y=0
  ·subst hy;by_cases hz:z=0
   ·subst hz
    simp(maxSteps:=1000000)only[↓aL,aM,↓aT,aJ,↓reduceIte,aa,ah,ak,ae,an,aq,ar,ai,aA,aE,hl,P,P',c1,c2,c3,qd,O9,wk3]
    simp
   ·have ez:(z !=0)=true:=bne_iff_ne.2 hz
    simp(maxSteps:=1000000)only[↓aL,aM,↓aT,aJ,↓reduceIte,aa,ah,ak,ae,an,aq,ar,ai,aA,aE,hl,P,P',c1,c2,c3,qd,O9,ez]
    simp
  ·have ey:(y !=0)=true:=bne_iff_ne.2 hy
   simp(maxSteps:=1000000)only[↓aL,aM,↓aT,aJ,↓reduceIte,aa,ah,ak,ae,an,aq,ar,ai,aA,aE,hl,P,P',c1,c2,qd,ey,hy]
   simp
 ·have ex:(x !=0)=true:=bne_iff_ne.2 hx
  simp(maxSteps:=1000000)only[↓aL,aM,↓aT,aJ,↓reduceIte,aa,ah,ak,ae,an,aq,ar,ai,hl,P,P',c1,ex,hx]
def BE{q p:Rat}:qq q p=0↔q=p:=by
 unfold qq;constructor
 ·intro h;by_cases h1:q<p
  ·rw[if_pos h1]at h;omega
  ·rw[if_neg h1]at h;by_cases h2:p<q
   ·rw[if_pos h2]at h;omega
   ·exact Rat.le_antisymm (Rat.not_lt.1 h2) (Rat.not_lt.1 h1)
 ·rintro rfl;rw[if_neg (Rat.lt_irrefl),if_neg (Rat.lt_irrefl)]
def Ib{a b:V3}:OZ a b=0↔a=b:=by
 obtain⟨a1,a2,a3⟩:=a;obtain⟨b1,b2,b3⟩:=b;unfold OZ;simp only[V3.mk.injEq];constructor
 ·intro h;by_cases h1:qq a1 b1=0
  ·rw[if_neg (by simpa using h1)]at h;by_cases h2:qq a2 b2=0
   ·rw[if_neg (by simpa using h2)]at h;exact⟨BE.1 h1,BE.1 h2,BE.1 h⟩
   ·rw[if_pos h2]at h;exact absurd h h2
  ·rw[if_pos h1]at h;exact absurd h h1
 ·rintro⟨rfl,rfl,rfl⟩;have e:∀q,qq q q=0:=fun q=>BE.2 rfl
  simp[e]
instance {a b:V3}:Decidable (a=b):=decidable_of_iff _ Ib
def aar{a b:V3}:(OZ a b==0)=decide (a=b):=by
 by_cases h:a=b
 ·rw[bh h,beq_iff_eq,Ib];exact h
 ·rw[bj h,beq_eq_false_iff_ne];exact fun e=>h (Ib.1 e)
def tH{v:AV}{a:V3}(h:ky v a){k:Nat}(ba:BV k a)(hk:k<=90000000000:=by omega):aR E 164 [v]=some (.bool (decide (a=v0))):=by refine rI ?_;have h1:=mC (E:=E) h O7 ba bv0;have h2:=aar (a:=a) (b:=v0);obtain⟨n0,m0,n1,m1,n2,m2,n3,m3,n4,m4,n5,m5,rfl,-,-,-,P,O⟩:=dC h;refine qj aq5 ?_;intro ts hl g0;unfold aoE;simp only[↓aL,aM,↓aT,aJ,↓reduceIte,aa,ah,ae,Tryz.f164,hl,g0,P,h1,h2]
def K9{s:List UInt8}(hs:s.length<=4611686018427387904):∃r,aR E 96 [.str s]=some (.tuple [r,.int .i64 (gm 400 s)])/\eA r (if gm 400 s=0 then DJ s else 0):=by
 obtain⟨r,hr,ir⟩:=To (E:=E) (L:=400) hs (by omega)
 suffices hh:∃u,aR E 96 [.str s]=some u/\u=.tuple [r,.int .i64 (gm 400 s)]by
  obtain⟨u,h1,rfl⟩:=hh;exact⟨r,h1,ir⟩
 obtain⟨na,ma,nb,mb,l,l',rfl,h1,hm,kq,h2⟩:=db ir;refine qj ayE ?_;intro ts hl g0;unfold c96;simp only[↓aL,aM,↓aT,aJ,↓reduceIte,aa,ah,ae,Tryz.f96,hl,g0,hr,aO hm,aO kq,(bA hm).2,(bA kq).2]
def A6(L:Int)(s0 s1 s2:List UInt8):Int:=if gm L s0≠0 then gm L s0 else if gm L s1≠0 then gm L s1 else gm L s2
def ae4(L:Int)(s0 s1 s2:List UInt8):V3:=if A6 L s0 s1 s2=0 then⟨DJ s0,DJ s1,DJ s2⟩else v0
def O8{f:Nat}{L:Int}(hf:bF E f=false){s0 s1 s2:List UInt8}(h0:s0.length<=4611686018427387904)(h1:s1.length<=4611686018427387904)(h2:s2.length<=4611686018427387904)
  (hr:∀s:List UInt8,s.length<=4611686018427387904->∃r,aR E f [.str s]=some (.tuple [r,.int .i64 (gm L s)])/\eA r (if gm L s=0 then DJ s else 0)):
  ∃r,aR E 95 [.agg [.str s0,.str s1,.str s2],.func f [] []]=some (.tuple [r,.int .i64 (A6 L s0 s1 s2)])/\ky r (ae4 L s0 s1 s2):=by
 suffices hh:∃u,aR E 95 [.agg [.str s0,.str s1,.str s2],.func f [] []]=some u/\∃r,u=.tuple [r,.int .i64 (A6 L s0 s1 s2)]/\ky r (ae4 L s0 s1 s2)by
  obtain⟨u,h1,r,rfl,h2⟩:=hh;exact⟨r,h1,h2⟩
 obtain⟨r1,c1,d1⟩:=hr s0 h0;obtain⟨r2,c2,d2⟩:=hr s1 h1;obtain⟨r3,c3,d3⟩:=hr s2 h2;obtain⟨i0,j0,i1,j1,_,_,rfl,-,-,-,-⟩:=db d1;obtain⟨i2,j2,i3,j3,_,_,rfl,-,-,-,-⟩:=db d2;obtain⟨i4,j4,i5,j5,_,_,rfl,-,-,-,-⟩:=db d3;have D1:=cI _ d1;have D2:=cI _ d2;have D3:=cI _ d3;have kU:=fun{dr st:Bool} {bl:List AV} {H:Hp} {k:AV->cC->Prop}=>kH (E:=E) (dr:=dr) (st:=st) (f:=f) (bl:=bl) (H:=H) (k:=k) hf
 refine pX ayD ?_;intro ts hl g0 g1;unfold c95 ae4 A6;generalize gm L s0=e0 at*;generalize gm L s1=e1 at*;generalize gm L s2=e2 at*;simp only[↓aL,aM,aJ,↓reduceIte,aa,ah,ae,Tryz.f95,hl,g0];refine rN 4 ?_;by_cases z0:e0=0
 ·subst z0;by_cases z1:e1=0
  ·subst z1;by_cases z2:e2=0
   ·subst z2
    simp(maxSteps:=1000000)only[↓aL,aM,aJ,↓reduceIte,aa,ah,ak,ae,an,aq,ar,ai,aA,aE,hl,g1,D1,D2,D3,kU,c1,c2,c3,qd,O9,wk3]
    refine⟨_,rfl,?_⟩;simp only[not_true_eq_false,if_false,if_true]at d1 d2 d3⊢;exact⟨_,_,_,_,_,_,_,_,_,_,_,_,rfl,d1,d2,d3⟩
   ·have ez:(e2 !=0)=true:=bne_iff_ne.2 z2
    simp(maxSteps:=1000000)only[↓aL,aM,aJ,↓reduceIte,aa,ah,ak,ae,an,aq,ar,ai,aA,aE,hl,g1,D1,D2,D3,kU,c1,c2,c3,qd,O9,ez]
    refine⟨_,rfl,?_⟩;simp only[not_true_eq_false,if_false,z2];exact O7
  ·have ey:(e1 !=0)=true:=bne_iff_ne.2 z1
   simp(maxSteps:=1000000)only[↓aL,aM,aJ,↓reduceIte,aa,ah,ak,ae,an,aq,ar,ai,aA,aE,hl,g1,D1,D2,kU,c1,c2,qd,ey]
   refine⟨_,by simp[z1];rfl,?_⟩;simp only[not_true_eq_false,if_false,z1,not_false_eq_true,if_true];exact O7
 ·have ex:(e0 !=0)=true:=bne_iff_ne.2 z0
  simp(maxSteps:=1000000)only[↓aL,aM,aJ,↓reduceIte,aa,ah,ae,an,aq,ar,hl,g1,D1,kU,c1,ex]
  refine⟨_,by simp[z0];rfl,?_⟩;simp only[if_false,z0,not_false_eq_true,if_true];exact O7
def Ly{s0 s1 s2:List UInt8}(h0:s0.length<=4611686018427387904)(h1:s1.length<=4611686018427387904)(h2:s2.length<=4611686018427387904):
  ∃r,aR E 64 [.agg [.str s0,.str s1,.str s2]]=some (.tuple [r,.int .i64 (A6 400 s0 s1 s2)])/\ky r (ae4 400 s0 s1 s2):=by
 obtain⟨r,hr,ir⟩:=O8 (E:=E) (f:=96) (L:=400) (bM C) h0 h1 h2 (fun s hs=>K9 (E:=E) hs)
 suffices hh:∃u,aR E 64 [.agg [.str s0,.str s1,.str s2]]=some u/\u=.tuple [r,.int .i64 (A6 400 s0 s1 s2)]by
  obtain⟨u,h1,rfl⟩:=hh;exact⟨r,h1,ir⟩
 obtain⟨n0,m0,n1,m1,n2,m2,n3,m3,n4,m4,n5,m5,rfl,-,-,-,P,O⟩:=dC ir;refine qj ays ?_;intro ts hl g0;unfold c64;simp only[↓aL,aM,↓aT,aJ,↓reduceIte,aa,ah,ae,Tryz.f64,hl,g0,hr,P,O]
def LC{x y z:Int}(hx: -9223372036854775808<=x)(hx':x<9223372036854775808)(hy: -9223372036854775808<=y)(hy':y<9223372036854775808)(hz: -9223372036854775808<=z)(hz':z<9223372036854775808):
  ∃r,aR E 84 [.agg [.int .i64 x,.int .i64 y,.int .i64 z]]=some r/\ky r ⟨x,y,z⟩:=by
 obtain⟨r1,c1,d1⟩:=wW (E:=E) hx hx';obtain⟨r2,c2,d2⟩:=wW (E:=E) hy hy';obtain⟨r3,c3,d3⟩:=wW (E:=E) hz hz';obtain⟨i0,j0,i1,j1,_,_,rfl,-,-,-,-⟩:=db d1;obtain⟨i2,j2,i3,j3,_,_,rfl,-,-,-,-⟩:=db d2;obtain⟨i4,j4,i5,j5,_,_,rfl,-,-,-,-⟩:=db d3;have D1:=cI _ d1;have D2:=cI _ d2;have D3:=cI _ d3;refine qj ayy ?_;intro ts hl g0;unfold c84;simp only[↓aL,aM,aJ,↓reduceIte,aa,ah,ae,Tryz.f84,hl,g0];refine rN 4 ?_
 simp(maxSteps:=1000000)only[↓aL,aM,↓aT,aJ,↓reduceIte,aa,ah,ak,ae,an,aq,ar,ai,aA,hl,D1,D2,D3,c1,c2,c3,qd,O9,wk3]
 exact⟨_,_,_,_,_,_,_,_,_,_,_,_,rfl,d1,d2,d3⟩
def F4{v w:AV}{a b:Int}(h:eB v a)(k:eB w b)(fa:Fit a)(fb:Fit b)(hb:b≠0):
  ∃r,aR E 165 [v,w]=some (.tuple [r,.int .i64 0])/\eA r (aTR a b):=by
 obtain⟨r,hr,ir⟩:=rH (E:=E) h k fa fb hb
 suffices hh:∃u,aR E 165 [v,w]=some u/\u=.tuple [r,.int .i64 0]by
  obtain⟨u,h1,rfl⟩:=hh;exact⟨r,h1,ir⟩
 have zT:=jX C k;have zS:(Rl b==0)=false:=by
  unfold Rl;rw[if_neg hb]
  split<;>rfl
 obtain⟨na,m,l,rfl,hm,-,-,-⟩:=id h;obtain⟨nb,m',l',rfl,kq,-,-,-⟩:=id k;obtain⟨i0,j0,i1,j1,_,_,rfl,-,-,-,-⟩:=db ir;have D:=cI _ ir;refine pX aq6 ?_;intro ts hl g0 g1;unfold aoF;simp only[↓aL,aM,↓aT,aJ,↓reduceIte,aa,ah,ae,Tryz.f165,hl,g0,g1,zT,zS,hr,aO hm,aO kq,D]
def lc(a b:Nat):Nat:=a/aVD a b*b
def Dc{a b:Nat}(ha:0<a)(hb:0<b):0<lc a b:=Nat.mul_pos (Nat.div_pos (aUa ha (aVC _ _)) (aVH _ ha)) hb
def yq{a b k l:Nat}(ha:a<2^k)(hb:b<2^l):lc a b<2^(k+l):=by unfold lc;rw[Nat.pow_add];exact Nat.mul_lt_mul'' (aR1 (Nat.div_le_self _ _) ha) hb
def Ad{n:Bool}{m:AV}{D:Nat}{x:AV}{q:Rat}(hD:eB (.agg [.bool n,m]) (D:Int))(hx:eA x q){k l:Nat}(b1:D<2^k)(b2:Bq l q)(hD0:0<D)(hk:k+l<=100000000000:=by omega):
  ∃d g nq mq nr mr nm mm,aR E 75 [x]=some d/\aR E 109 [.agg [.bool n,m],d]=some g/\aR E 110 [.agg [.bool n,m],g]=some (.tuple [.agg [.bool nq,mq],.agg [.bool nr,mr],.int .i64 0])/\aR E 74 [.agg [.bool nq,mq],d]=some (.agg [.bool nm,mm])/\
  aU d=true/\aU g=true/\(aU mq=true/\cL mq=true)/\(aU mr=true/\cL mr=true)/\(aU mm=true/\cL mm=true)/\eB (.agg [.bool nm,mm]) ((lc D q.den:Nat):Int):=by
 have hdp:=jK q;obtain⟨d,hd,M7⟩:=oq (E:=E) hx;have f1:=gv b1;have f2:=gv b2.2;obtain⟨g,hg,ig⟩:=tx (E:=E) hD M7 f1 f2;rw[Int.gcd_natCast_natCast]at ig;have hgp:0<aVD D q.den:=aVH _ hD0;have fg:Fit ((aVD D q.den:Nat):Int):=gv (aR1 (aUa hD0 (aVC _ _)) b1);obtain⟨y,r,Xi,iy,ir⟩:=mJ (E:=E) hD ig f1 fg (by omega) (Int.natCast_dvd_natCast.2 (aVC _ _));rw[<-Int.natCast_ediv]at iy;obtain⟨z,hz,iz⟩:=mR C iy M7 (gv (aR1 (Nat.div_le_self _ _) b1)) f2;rw[<-Int.natCast_mul]at iz;have pd:=dy M7;have pg:=dy ig;obtain⟨nq,mq,lq,rfl,hmq,-,-,-⟩:=id iy;obtain⟨nr,mr,lr,rfl,hmr,-,-,-⟩:=id ir;obtain⟨nm,mm,lm,rfl,hmm,-,-,-⟩:=id iz;exact⟨d,g,nq,mq,nr,mr,nm,mm,hd,hg,Xi,hz,pd,pg,⟨aO hmq,(bA hmq).2⟩,⟨aO hmr,(bA hmr).2⟩,⟨aO hmm,(bA hmm).2⟩,iz⟩
def CT{n:Bool}{m:AV}{D:Nat}{x:AV}{q:Rat}(hD:eB (.agg [.bool n,m]) (D:Int))(hx:eA x q){k l:Nat}(b1:D<2^k)(b2:Bq l q)(hk:k+l<=100000000000:=by omega):
  ∃d nm mm,aR E 166 [x]=some d/\aR E 109 [.agg [.bool n,m],d]=some (.agg [.bool nm,mm])/\aU d=true/\(aU mm=true/\cL mm=true)/\eB (.agg [.bool nm,mm]) ((aVD D q.num.natAbs:Nat):Int):=by
 obtain⟨d,hd,M7⟩:=Y9 (E:=E) hx;obtain⟨g,hg,ig⟩:=tx (E:=E) hD M7 (gv b1) (eF b2.1);have pd:=dy M7;obtain⟨nm,mm,lm,rfl,hmm,-,-,-⟩:=id ig;exact⟨d,nm,mm,hd,hg,pd,⟨aO hmm,(bA hmm).2⟩,ig⟩
def pD(a:V3):Nat:=lc (lc (lc 1 a.x.den) a.y.den) a.z.den
def pW(a:V3):V3:=DY (pD a:Rat) a
def pG(a:V3):Nat:=aVD (aVD (aVD 0 (pW a).x.num.natAbs) (pW a).y.num.natAbs) (pW a).z.num.natAbs
def alU(a:V3):V3:=DY (aTR 1 (pG a)) (pW a)
def BV.scale{k l:Nat}{q:Rat}{a:V3}(h:Bq k q)(ha:BV l a):BV (k+l) (DY q a):=⟨h.mul ha.1,h.mul ha.2.1,h.mul ha.2.2⟩
def Q4{k:Nat}{a:V3}(h:BV k a):pD a<2^(3*k+1):=by have h1:=yq (yq (yq (show 1<2^1 by decide) h.1.2) h.2.1.2) h.2.2.2;exact nV h1
def alI(a:V3):0<pD a:=Dc (Dc (Dc (by omega) (jK _)) (jK _)) (jK _)
def HA{k:Nat}{a:V3}(h:BV k a):BV (4*k+1) (pW a):=by have h1:Bq (3*k+1) (pD a:Rat):=Bq.int (z:=(pD a:Int)) (by rw[aTT];exact Q4 h) (by omega);exact(BV.scale h1 h).mono (by omega)
def au7{a:V3}(h:a≠v0):¬((pW a).x.num=0/\(pW a).y.num=0/\(pW a).z.num=0):=by
 rintro⟨h1,h2,h3⟩;have hd:(pD a:Rat)≠0:=by
  have:=alI a
  intro e
  have:=Rat.natCast_inj.1 (show((pD a:Nat):Rat)=((0:Nat):Rat)from e)
  omega
 have e:∀q:Rat,((pD a:Rat)*q).num=0->q=0:=by
  intro q hq;rcases Rat.mul_eq_zero.1 (Rat.num_eq_zero.1 hq)with h|h
  ·exact absurd h hd
  ·exact h
 refine h ?_;obtain⟨x,y,z⟩:=a;simp only[v0,V3.mk.injEq];exact⟨e x h1,e y h2,e z h3⟩
def Zp{a:V3}(h:a≠v0):0<pG a:=by
 refine aSr fun e=>au7 h ?_
 unfold pG at e;have e1:=aVE.1 e;have e2:=aVE.1 e1.1;have e3:=aVE.1 e2.1;exact⟨aVF.1 e3.2,aVF.1 e2.2,aVF.1 e1.2⟩
def I6(z:Int):aTR z 1=(z:Rat):=by
 have:=Rat.num_divInt_den (z:Rat)
 rw[Rat.num_intCast,Rat.den_intCast]at this;exact this
def yg{a b k:Nat}(ha:a<2^k)(hb:b<2^k):aVD a b<2^k:=by
 by_cases h:a=0
 ·subst h;rw[aVI];exact hb
 ·exact aR1 (aUa (aSr h) (aVC _ _)) ha
def Hz{k:Nat}{a:V3}(h:BV k a):pG a<2^(4*k+1):=by have b:=HA h;exact yg (yg (yg (Nat.pow_pos (by omega)) b.1.1) b.2.1.1) b.2.2.1
def Gk{k:Nat}{a:V3}(h:BV k a)(eQ:a≠v0):BV (8*k+2) (alU a):=by have h1:Bq (4*k+1) (aTR 1 (pG a)):=Bq.divInt (by have:=Zp eQ;omega) (by have:=h.1.pos;exact nV (show 1<2^1 by decide)) (by rw[aTT];exact Hz h);exact(BV.scale h1 (HA h)).mono (by omega)
def tR{v:AV}{a:V3}(h:ky v a){k:Nat}(ba:BV k a)(hk:k<=1000000000)(eQ:a≠v0):
  ∃r,aR E 126 [v]=some (.tuple [r,.int .i64 0])/\ky r (alU a):=by
 suffices hh:∃u,aR E 126 [v]=some u/\∃r,u=.tuple [r,.int .i64 0]/\ky r (alU a)by
  obtain⟨u,h1,r,rfl,h2⟩:=hh;exact⟨r,h1,h2⟩
 have hz:=tH (E:=E) h ba;rw[bj eQ]at hz;obtain⟨o,ho,io⟩:=zI C (n:=1);have po:=dy io;obtain⟨no,mo,lo,rfl,Bj,-,-,-⟩:=id io;have Mo:aU mo=true/\cL mo=true:=⟨aO Bj,(bA Bj).2⟩;obtain⟨n0,m0,n1,m1,n2,m2,n3,m3,n4,m4,n5,m5,rfl,a1,a2,a3,P,O⟩:=dC h;have b0:1<2^1:=by decide
 have b1:=yq b0 ba.1.2;have b2:=yq b1 ba.2.1.2;have p0:0<1:=by omega
 have p1:=Dc p0 (jK a.x);have p2:=Dc p1 (jK a.y);obtain⟨d1,g1,nq1,mq1,nr1,mr1,ja,mm1,e11,e12,e13,e14,sH,sA,sB,u14,u15,i1⟩:=Ad (E:=E) (D:=1) io a1 b0 ba.1 p0;obtain⟨d2,g2,nq2,mq2,nr2,mr2,jb,mm2,e21,e22,e23,e24,u21,u22,u23,u24,u25,i2⟩:=Ad (E:=E) i1 a2 b1 ba.2.1 p1;obtain⟨d3,g3,nq3,mq3,nr3,mr3,jc,mm3,e31,e32,e33,e34,u31,u32,u33,u34,u35,i3⟩:=Ad (E:=E) i2 a3 b2 ba.2.2 p2;have bD:=Q4 ba;obtain⟨w,hw,iw⟩:=F4 (E:=E) i3 io (gv bD) ⟨1,by omega,by decide⟩ (by omega);rw[show aTR ((lc (lc (lc 1 a.x.den) a.y.den) a.z.den:Nat):Int) 1=(pD a:Rat)from I6 _]at iw;have bw:Bq (3*k+1) (pD a:Rat):=Bq.int (z:=(pD a:Int)) (by rw[aTT];exact bD) (by omega);obtain⟨s,hs,is⟩:=A4 (E:=E) h iw ba bw;have bs:=HA ba;obtain⟨i0,j0,i1',j1,_,_,rfl,-,-,-,-⟩:=db iw;have W:=cI _ iw;obtain⟨s0,t0,s1,t1,s2,t2,s3,t3,s4,t4,s5,t5,rfl,x1,x2,x3,Q,S'⟩:=dC is;have aDf:=adB;obtain⟨y1,ng1,mg1,k11,k12,v11,v12,l1⟩:=CT (E:=E) (D:=0) adB x1 (show 0<2^1 by decide) bs.1;have q1:aVD 0 (pW a).x.num.natAbs<2^(4*k+1):=by rw[aVI];exact bs.1.1
 have q2:=yg q1 bs.2.1.1;obtain⟨y2,ng2,mg2,k21,k22,v21,v22,l2⟩:=CT (E:=E) l1 x2 q1 bs.2.1;obtain⟨y3,ng3,mg3,k31,k32,v31,v32,l3⟩:=CT (E:=E) l2 x3 q2 bs.2.2;have gp:=Zp eQ;obtain⟨w2,y7,iw2⟩:=F4 (E:=E) io l3 ⟨1,by omega,by decide⟩ (gv (Hz ba)) (by show((pG a:Nat):Int)≠0;omega);have bw2:Bq (4*k+1) (aTR 1 (pG a)):=Bq.divInt (by omega) (by have:=ba.1.pos;exact nV (show 1<2^1 by decide)) (by rw[aTT];exact Hz ba);obtain⟨f,hf,if'⟩:=A4 (E:=E) is iw2 bs bw2;obtain⟨i4,j4,i5,j5,_,_,rfl,-,-,-,-⟩:=db iw2;have W2:=cI _ iw2;obtain⟨f0,h0,f1,h1,f2,h2,f3,h3,f4,h4,f5,h5,rfl,-,-,-,QF,SF⟩:=dC if';refine qj af8 ?_;intro ts hl g0;unfold aib;simp only[↓aL,aM,↓aT,aJ,↓reduceIte,aa,ah,ae,Tryz.f126,hl,g0,hz,P,ho,Mo];refine rN 4 ?_
 simp(maxSteps:=2000000)only[↓aL,aM,↓aT,aJ,↓reduceIte,aa,ah,ak,ae,an,aq,ar,ai,aj,aA,hl,P,O,qd,O9,wk3,ho,po,e11,e12,e13,e14,sH,sA,sB,u14,u15,e21,e22,e23,e24,u21,u22,u23,u24,u25,e31,e32,e33,e34,u31,u32,u33,u34,u35,hw,W,hs,S']
 refine rN 4 ?_
 simp(maxSteps:=2000000)only[↓aL,aM,↓aT,aJ,↓reduceIte,aa,ah,ak,ae,an,aq,ar,ai,aj,aA,hl,qd,O9,wk3,ho,po,Q,S',k11,k12,v11,v12,k21,k22,v21,v22,k31,k32,v31,v32,y7,W2,hf,QF,SF]
 exact⟨_,rfl,if'⟩
abbrev Rws:Type:=List (List AV)
structure gK(k:Nat)(r:List AV):Prop where
 ex:∃a,ky (.agg r) a/\BV k a
def gK.mono{k l:Nat}{r:List AV}(h:gK k r)(hl:k<=l):gK l r:=by obtain⟨a,h1,h2⟩:=h.ex;exact⟨a,h1,h2.mono hl⟩
def gK.cells{k:Nat}{r:List AV}(h:gK k r):∃xp we xq wg zf y8 zg y9 zj za zk zd,r=[.bool xp,we,.bool xq,wg,.bool zf,y8,.bool zg,y9,.bool zj,za,.bool zk,zd]:=by obtain⟨a,h1,_⟩:=h.ex;obtain⟨xp,we,xq,wg,zf,y8,zg,y9,zj,za,zk,zd,e,-⟩:=dC h1;exact⟨xp,we,xq,wg,zf,y8,zg,y9,zj,za,zk,zd,by injection e⟩
def gK.len{k:Nat}{r:List AV}(h:gK k r):r.length=12:=by obtain⟨xp,we,xq,wg,zf,y8,zg,y9,zj,za,zk,zd,rfl⟩:=h.cells;rfl
def gK.one{k:Nat}{r:List AV}(h:gK k r):r.all cL=true:=by
 obtain⟨a,h1,_⟩:=h.ex;obtain⟨xp,we,xq,wg,zf,y8,zg,y9,zj,za,zk,zd,e,-,-,-,-,⟨O0,O1,O2,O3,O4,O5⟩⟩:=dC h1;injection e with e;subst e
 simp[rz,O0,O1,O2,O3,O4,O5]
def gK.pure{k:Nat}{r:List AV}(h:gK k r):aV r=true:=by
 obtain⟨a,h1,_⟩:=h.ex
 have:=LB h1
 simpa[aU]using this
def gK.flat{k:Nat}{r:List AV}(h:gK k r):∀c∈r,Flat c:=by
 obtain⟨a,h1,_⟩:=h.ex;obtain⟨xp,we,xq,wg,zf,y8,zg,y9,zj,za,zk,zd,e,-⟩:=dC h1;injection e with e;subst e
 exact yQ h1
def j8{k:Nat}{l:List (List AV)}(h:∀r∈l,gK k r):∀r∈l,r.length=12:=fun r hr=>(h r hr).len
def oM{k:Nat}{l:List (List AV)}(h:∀r∈l,gK k r):l.flatten.length=l.length*12:=iY (j8 h)
def rP{k:Nat}{l:List (List AV)}(h:∀r∈l,gK k r){i:Nat}(hi:i<l.length):fG true 12 l.flatten (i*12)=some (.agg l[i]):=by have h1:l[i]?=some l[i]:=aLh hi;rw[jd (s:=12) (iM (j8 h) (j:=i) hi),jz (j8 h) h1]
def ae7{k:Nat}{l:List (List AV)}(h:∀r∈l,gK k r){i b:Nat}{H:Hp}(hb:H[b]?=some (.cells .live l.flatten))(hi:i<l.length):eP 12 H b (i*12)=some (.agg l[i]):=by
 have h1:l[i]?=some l[i]:=aLh hi;rw[dA,hb]
 dsimp only
 rw[if_neg (by decide),if_pos (iM (j8 h) (j:=i) hi),jz (j8 h) h1]
def Ao{k:Nat}:∀{l:List (List AV)},(∀r∈l,gK k r)->aV l.flatten=true
 |[],_=>rfl
 |r::l,h=>by rw[aO8,iB,(h r (by simp)).pure,Ao (l:=l) fun x hx=>h x (by simp[hx])];rfl
def DX{k:Nat}:∀{l:List (List AV)},(∀r∈l,gK k r)->l.flatten.all cL=true
 |[],_=>rfl
 |r::l,h=>by rw[aO8,List.all_append,(h r (by simp)).one,DX (l:=l) fun x hx=>h x (by simp[hx])];rfl
def vn{k:Nat}{l:List (List AV)}(h:∀r∈l,gK k r):∀c∈l.flatten,Flat c:=by intro c hc;obtain⟨r,hr,BJ⟩:=aVG.1 hc;exact(h r hr).flat c BJ
structure Sh where
 vs:List (List AV)
 fs:List Fk
 es:List Ed
def qk(s:Sh):List AV:=[lR s.vs.flatten s.vs.length,lR (xf s.fs) s.fs.length,lR (rX s.es) s.es.length]
structure aa6(m:Nat)(f:Fk):Prop where
 ok:xz m f
 nrm:∃n o,f.1=n++o/\gK 300 n
 flat:∀c∈f.1,Flat c
structure qV(s:Sh):Prop where
 vs:∀r∈s.vs,gK 13 r
 n8:s.vs.length<=8
 fs:∀f∈s.fs,aa6 s.vs.length f
 f56:s.fs.length<=56
 es:∀e∈s.es,e.1<s.vs.length/\e.2.1<s.vs.length
 e64:s.es.length<=64
def CJ{m:Nat}:∀{l:List Fk},(∀f∈l,xz m f)->aV (xf l)=true
 |[],_=>rfl
 |f::l,h=>by
  have:xf (f::l)=Ey f++xf l:=by simp[xf]
  rw[this,iB,(h f (by simp)).kp,CJ (l:=l) fun x hx=>h x (by simp[hx])];rfl
def Cz:∀(l:List Ed),aV (rX l)=true
 |[]=>rfl
 |e::l=>by
  have:rX (e::l)=PT e++rX l:=by simp[rX]
  rw[this,iB,Cz l];rfl
def WN{m:Nat}{l:List Fk}(h:∀f∈l,aa6 m f):∀c∈xf l,Flat c:=by
 intro c hc;obtain⟨r,hr,BJ⟩:=aVG.1 hc;obtain⟨f,hf,rfl⟩:=aMr.1 hr;unfold Ey at BJ;rcases List.mem_append.1 BJ with h1|h1
 ·exact(h f hf).flat c h1
 ·rw[aMs]at h1;subst h1;exact BG
def qV.pure{s:Sh}(h:qV s):aV (qk s)=true:=by unfold qk;simp only[aV,Bool.and_true];rw[qL (Ao h.vs),qL (CJ fun f hf=>(h.fs f hf).ok),qL (Cz _)];rfl
end Go.Proofs.YtmkjgfnicfpjpaaGreatDoor
