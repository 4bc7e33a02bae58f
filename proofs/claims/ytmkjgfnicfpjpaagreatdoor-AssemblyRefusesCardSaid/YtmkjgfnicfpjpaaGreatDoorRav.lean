/- Lemmas for AssemblyRefuses; no condition. -/
import Derived.Test.YtmkjgfnicfpjpaaGreatDoorRau
set_option linter.all false
set_option maxHeartbeats 100000000
set_option maxRecDepth 100000
noncomputable section
open List renaming getElem?_append_left->aOr,length_append->aL9,getElem?_set_ne->aOj,append_assoc->aUi,getElem?_eq_some_iff->aLq,set_append_left->aWg,getElem?_set_self->aOl,mem_singleton->aNh,mem_append->aM7,getElem_mem->aMg,getElem?_eq_getElem->aL6,flatten_append->aWV,flatten_cons->aPX,length_pos_iff->aS1,getElem?_modify->aWW,mem_of_mem_take->aRC,mem_of_mem_drop->aPs,getElem?_map->aM4,mem_flatten->aWX
open Nat renaming add_assoc->aLU,reduceLT->aa,reduceEqDiff->ae,reduceAdd->ah,reduceLeDiff->ai,reduceBEq->aj
open Bool renaming and_eq_true->aM6
open Int renaming reduceLE->an,reduceToNat->ar
namespace Go.Proofs.YtmkjgfnicfpjpaaGreatDoor
open Go Dv Dv.dk
variable{E:Env}[C:Ctx E]
abbrev Rws:Type:=List (List AV)
structure gL(k:Nat)(r:List AV):Prop where
 ex:∃a,kD (.agg r) a/\BV k a
def gL.mono{k l:Nat}{r:List AV}(h:gL k r)(hl:k<=l):gL l r:=by obtain⟨a,h1,h2⟩:=h.ex;exact⟨a,h1,h2.mono hl⟩
def gL.cells{k:Nat}{r:List AV}(h:gL k r):∃xt wk xu wo zg y9 zj za zk zd zm zf,r=[.bool xt,wk,.bool xu,wo,.bool zg,y9,.bool zj,za,.bool zk,zd,.bool zm,zf]:=by obtain⟨a,h1,_⟩:=h.ex;obtain⟨xt,wk,xu,wo,zg,y9,zj,za,zk,zd,zm,zf,e,-⟩:=dC h1;exact⟨xt,wk,xu,wo,zg,y9,zj,za,zk,zd,zm,zf,by injection e⟩
def gL.len{k:Nat}{r:List AV}(h:gL k r):r.length=12:=by obtain⟨xt,wk,xu,wo,zg,y9,zj,za,zk,zd,zm,zf,rfl⟩:=h.cells;rfl
def gL.one{k:Nat}{r:List AV}(h:gL k r):r.all cN=true:=by
 obtain⟨a,h1,_⟩:=h.ex;obtain⟨xt,wk,xu,wo,zg,y9,zj,za,zk,zd,zm,zf,e,-,-,-,-,⟨O0,O1,O2,O3,O4,O5⟩⟩:=dC h1;injection e with e;subst e
 simp[rE,O0,O1,O2,O3,O4,O5]
def gL.pure{k:Nat}{r:List AV}(h:gL k r):aV r=true:=by
 obtain⟨a,h1,_⟩:=h.ex
 have:=LC h1
 simpa[aU]using this
def gL.flat{k:Nat}{r:List AV}(h:gL k r):∀c∈r,Flat c:=by
 obtain⟨a,h1,_⟩:=h.ex;obtain⟨xt,wk,xu,wo,zg,y9,zj,za,zk,zd,zm,zf,e,-⟩:=dC h1;injection e with e;subst e
 exact yV h1
def j9{k:Nat}{l:List (List AV)}(h:∀r∈l,gL k r):∀r∈l,r.length=12:=fun r hr=>(h r hr).len
def oT{k:Nat}{l:List (List AV)}(h:∀r∈l,gL k r):l.flatten.length=l.length*12:=jL (j9 h)
def rU{k:Nat}{l:List (List AV)}(h:∀r∈l,gL k r){i:Nat}(hi:i<l.length):eW true 12 l.flatten (i*12)=some (.agg l[i]):=by have h1:l[i]?=some l[i]:=aL6 hi;rw[jd (s:=12) (iM (j9 h) (j:=i) hi),jC (j9 h) h1]
def afd{k:Nat}{l:List (List AV)}(h:∀r∈l,gL k r){i b:Nat}{H:Hp}(hb:H[b]?=some (.cells .live l.flatten))(hi:i<l.length):fE 12 H b (i*12)=some (.agg l[i]):=by
 have h1:l[i]?=some l[i]:=aL6 hi;rw[dY,hb]
 dsimp only
 rw[if_neg (by decide),if_pos (iM (j9 h) (j:=i) hi),jC (j9 h) h1]
def Al{k:Nat}:∀{l:List (List AV)},(∀r∈l,gL k r)->aV l.flatten=true
 |[],_=>rfl
 |r::l,h=>by rw[aPX,kW,(h r (by simp)).pure,Al (l:=l) fun x hx=>h x (by simp[hx])];rfl
def D0{k:Nat}:∀{l:List (List AV)},(∀r∈l,gL k r)->l.flatten.all cN=true
 |[],_=>rfl
 |r::l,h=>by rw[aPX,List.all_append,(h r (by simp)).one,D0 (l:=l) fun x hx=>h x (by simp[hx])];rfl
def vF{k:Nat}{l:List (List AV)}(h:∀r∈l,gL k r):∀c∈l.flatten,Flat c:=by intro c hc;obtain⟨r,hr,EA⟩:=aWX.1 hc;exact(h r hr).flat c EA
structure Sh where
 vs:List (List AV)
 fs:List Fk
 es:List Ed
def qq(s:Sh):List AV:=[lW s.vs.flatten s.vs.length,lW (xi s.fs) s.fs.length,lW (r9 s.es) s.es.length]
structure aa9(m:Nat)(f:Fk):Prop where
 ok:xE m f
 nrm:∃n o,f.1=n++o/\gL 300 n
 flat:∀c∈f.1,Flat c
structure q9(s:Sh):Prop where
 vs:∀r∈s.vs,gL 13 r
 n8:s.vs.length<=8
 fs:∀f∈s.fs,aa9 s.vs.length f
 f56:s.fs.length<=56
 es:∀e∈s.es,e.1<s.vs.length/\e.2.1<s.vs.length
 e64:s.es.length<=64
def CI{m:Nat}:∀{l:List Fk},(∀f∈l,xE m f)->aV (xi l)=true
 |[],_=>rfl
 |f::l,h=>by
  have:xi (f::l)=Ew f++xi l:=by simp[xi]
  rw[this,kW,(h f (by simp)).kp,CI (l:=l) fun x hx=>h x (by simp[hx])];rfl
def Cw:∀(l:List Ed),aV (r9 l)=true
 |[]=>rfl
 |e::l=>by
  have:r9 (e::l)=PX e++r9 l:=by simp[r9]
  rw[this,kW,Cw l];rfl
def WS{m:Nat}{l:List Fk}(h:∀f∈l,aa9 m f):∀c∈xi l,Flat c:=by
 intro c hc;obtain⟨r,hr,EA⟩:=aWX.1 hc;obtain⟨f,hf,rfl⟩:=List.mem_map.1 hr;unfold Ew at EA;rcases aM7.1 EA with h1|h1
 ·exact(h f hf).flat c h1
 ·rw[aNh]at h1;subst h1;exact BD
def q9.pure{s:Sh}(h:q9 s):aV (qq s)=true:=by unfold qq;simp only[aV,Bool.and_true];rw[qR (Al h.vs),qR (CI fun f hf=>(h.fs f hf).ok),qR (Cw _)];rfl
def p13:(2:Nat)^13=8192:=by decide
def p28:(2:Nat)^28=268435456:=by decide
def Me{z:Int}(h: -4096<=z/\z<=4096):Bq 13 (z:Rat):=Bq.int (by rw[p13];omega) (by decide)
def Mf{z:Int}(h: -134217728<=z/\z<=134217728):Bq 28 (z:Rat):=Bq.int (by rw[p28];omega) (by decide)
def bn2{n j:Nat}(h:3<=n):(2==n+j)=false:=beq_eq_false_iff_ne.2 (by omega)
def aod{n j:Nat}(h:3<=n):(n+j==2)=false:=beq_eq_false_iff_ne.2 (by omega)
def YY{H:Hp}{b k:Nat}(h:b≠k:=by omega):(H.modify b cE.j8)[k]?=H[k]?:=by rw[aWW];cases H[k]?<;>simp[h]
def auG{H:Hp}{b:Nat}{cs:List AV}(h:H[b]?=some (.cells .live cs)):(H.modify b cE.j8)[b]?=some (.cells .ro cs):=by rw[aWW,h];simp[cE.j8]
def avR{N:I3}(h:N≠I3.zr):(⟨(N.x:Rat),(N.y:Rat),(N.z:Rat)⟩:V3)≠v0:=by
 intro e;apply h;obtain⟨x,y,z⟩:=N;unfold v0 at e;injection e with e1 e2 e3
 have f1:x=0:=by exact_mod_cast e1
 have f2:y=0:=by exact_mod_cast e2
 have f3:z=0:=by exact_mod_cast e3
 subst f1;subst f2;subst f3;rfl
def avx{gs:List Fc}{k:Nat}(h:k<gs.length):eW false 1 (Iy gs) k=some (.aK (nA gs[k].2) gs[k].2.length):=by
 rw[gI];unfold Iy
 rw[aM4,aL6 h];rfl
def alU{gs:List Fc}{k:Nat}(h:k<gs.length):eW true 4 (Ix gs) (k*4)=some (.agg (yJ gs[k].1)):=by unfold Ix;rw[ahc (l:=gs.map (·.1)) (by simpa using h),List.getElem_map]
abbrev Fks:Type:=List Fk
def ad8{bG:List I3}(hn:bG.length<=8):
  ∃r,aP E 91 [.agg [kO bG]]=some r/\∃(sh:List AV) (c:Int),r=.tuple [.agg sh,.int .i64 c]/\((c≠0/\sh=[.aH,.aH,.aH])∨(c=0/\∃s:Sh,q9 s/\sh=qq s)):=by
 have pp:=ud bG;obtain⟨r,hr,c,rfl,hc⟩:=Mn (E:=E) hn;unfold kO at hr;refine nY asg ?_;intro ts hl g0;unfold c91;unfold kO at g0;by_cases Jk:c=0
 rotate_left
 ·have d0:(c !=0)=true:=by simpa using Jk
  simp only[↓aL,aM,↓aS,aJ,↓reduceIte,aa,ah,ae,Tryz.f91,hl,g0,hr,d0];exact⟨_,c,rfl,.inl ⟨Jk,rfl⟩⟩
 have K:=hc Jk;subst Jk;have d0:((0:Int)!=0)=false:=by decide
 simp only[↓aL,aM,↓aS,aJ,↓reduceIte,aa,ah,ae,Tryz.f91,hl,g0,hr,d0];refine cC (fun k_ ts H=>∃i:Nat,∃v:AV,∃vs:Rws,∃H1:Hp,k_=(bG.length-i:Nat)/\ts.length=86/\gt ts 1=.bK 0 0/\gt ts 2=.bK 1 0/\gt ts 5=.bK 2 0/\gt ts 22=.aK (oZ bG) bG.length/\gt ts 23=.int .i64 (bG.length:Int)/\gt ts 24=.int .i64 (i:Int)/\H=H1/\(i<=bG.length)/\(∀r∈vs,gL 13 r)/\(vs.length=i)/\(H1[0]?=some (.cells .live [.aK (oZ bG) bG.length]))/\(H1[1]?=some (.cells .live [.aH,.aH,.aH]))/\(H1[2]?=some (.cells .live [v,.aH,.aH]))/\(uy 12 3 v H1 vs.length vs.flatten)) (bG.length) ?_ ?_
 rotate_left
 ·refine⟨0,.aH,[],[.cells .live [.aK (oZ bG) bG.length],.cells .live [.aH,.aH,.aH],.cells .live [.aH,.aH,.aH]],(by first|omega|rfl|simp),(by simp[bc,hl]),?_⟩;simp only[aY,hl,aa,ae]
  iterate 7 refine cI ?_
  refine⟨?_,?_,?_,?_,?_,?_,?_⟩
  ·first|omega|trivial
  ·first|(intro r hr;cases hr)|trivial
  ·first|rfl|trivial
  ·first|rfl|trivial
  ·first|rfl|trivial
  ·first|rfl|trivial
  ·first|exact .inl ⟨rfl,rfl,rfl⟩|trivial
 clear hl g0 ts;rintro k_ ts H ⟨i,v,vs,H1,rfl,hl,g1,g2,g5,g22,g23,g24,rfl,hi,hv,hvl,h0,h1,h2,hs⟩;refine VS ?_;by_cases hd:i<bG.length
 ·have d1:decide ((i:Int)<(bG.length:Int))=true:=bj;have ci:=eP (i:=i) (n:=bG.length) hd;have lP:=wz (z:=(i:Int)+1) (m:=i+1);have pi:=lU (bG:=bG) hd;have hB:=K.yt.at i;obtain⟨r,hr,hVr⟩:=LD (E:=E) (x:=(eU bG i).x) (y:=(eU bG i).y) (z:=(eU bG i).z) (by have:=hB.1;omega) (by have:=hB.1;omega) (by have:=hB.2.1;omega) (by have:=hB.2.1;omega) (by have:=hB.2.2;omega) (by have:=hB.2.2;omega);obtain⟨xt,wk,xu,wo,zg,y9,zj,za,zk,zd,zm,zf,rfl,-⟩:=id hVr;have pf:gL 13 [.bool xt,wk,.bool xu,wo,.bool zg,y9,.bool zj,za,.bool zk,zd,.bool zm,zf]:=⟨_,hVr,Me hB.1,Me hB.2.1,Me hB.2.2⟩;have ho:=pf.one;simp only[v3]at pi;have MY:3<=H.length:=by have:=(aLq.1 h2).1;omega
  have c20:∀{T:Hp},cellAt (H++T) 2 0=some v:=by intro T;rw[bY,aOr (by omega),h2];rfl
  have n2:=fun{j:Nat}=>bn2 (n:=H.length) (j:=j) MY
  have n2':=fun{j:Nat}=>aod (n:=H.length) (j:=j) MY
  have BG:∀aR,bZ E aR 135 1 [(0,AV.agg [.bool xt,wk,.bool xu,wo,.bool zg,y9,.bool zj,za,.bool zk,zd,.bool zm,zf])]=some (.aI aR 0 1 12 1,[(aR,.cells .live [.bool xt,wk,.bool xu,wo,.bool zg,y9,.bool zj,za,.bool zk,zd,.bool zm,zf])]):=fun aR=>lk AX rfl (by decide) (by decide) rfl
  rcases hs with⟨e0,e1,rfl⟩|⟨k0,b1,b1L,b1l,rfl,mP⟩
  ·have vM:=sX (E:=E) (H:=H++[.cells .live [.int .i64 (eU bG i).x,.int .i64 (eU bG i).y,.int .i64 (eU bG i).z],.cells .live [.bool xt,wk,.bool xu,wo,.bool zg,y9,.bool zj,za,.bool zk,zd,.bool zm,zf],dp]) (aR:=H.length+2) (b:=H.length+1) (x:=[.bool xt,wk,.bool xu,wo,.bool zg,y9,.bool zj,za,.bool zk,zd,.bool zm,zf]) (st:=.live) AX (by decide) (by simp) (by decide) rfl ho (by unfold fH;omega);have dx:∀{T:Hp},iZ 1 [.aI (H.length+2) 0 1 12 1] (H++T) 2 0=some (.cells .live [.aI (H.length+2) 0 1 12 1,.aH,.aH]):=by intro T;rw[eT,aOr (by omega),h2];rfl
   obtain⟨H4,qD⟩:∃H4,H4=H.set 2 (.cells .live [.aI (H.length+2) 0 1 12 1,.aH,.aH]):=⟨_,rfl⟩;have G3:∀{l:Hp},cO (H++l) 2 (.cells .live [.aI (H.length+2) 0 1 12 1,.aH,.aH])=H4++l:=by
    intro l;rw[dT (by rw[aL9];omega),aWg _ _ (by omega),qD]
   simp only[↓aL,aM,↓aS,aJ,ct,↓reduceIte,aa,ah,ae,hl,g5,g22,g23,g24,ci,lP,pi,hr,c20,n2,BG,vM,dx,G3,aLU,aUi,aL9];refine bI ?_;refine⟨_,?_,i+1,(.aI (H.length+2) 0 1 12 1),vs++[[.bool xt,wk,.bool xu,wo,.bool zg,y9,.bool zj,za,.bool zk,zd,.bool zm,zf]],(H4++[.cells .live [.int .i64 (eU bG i).x,.int .i64 (eU bG i).y,.int .i64 (eU bG i).z],.cells .live [.bool xt,wk,.bool xu,wo,.bool zg,y9,.bool zj,za,.bool zk,zd,.bool zm,zf],.cells .live [.bool xt,wk,.bool xu,wo,.bool zg,y9,.bool zj,za,.bool zk,zd,.bool zm,zf]]),rfl,(by simp[bc,hl]),?_⟩
   ·first|omega|(simp;omega)
   simp only[aY,hl,aa,ae,g1,g2,g5,g22,g23]
   iterate 7 refine cI ?_
   refine⟨?_,?_,?_,?_,?_,?_,?_⟩
   ·omega
   ·intro r hr;rcases aM7.1 hr with hr|hr
    ·exact hv r hr
    ·rw[aNh]at hr;subst hr;exact pf
   ·rw[aL9,hvl];rfl
   ·rw[aOr (by rw[qD];simp;omega),qD,aOj (by omega)];exact h0
   ·rw[aOr (by rw[qD];simp;omega),qD,aOj (by omega)];exact h1
   ·rw[aOr (by rw[qD];simp;omega),qD,aOl (by omega)]
   ·have h4l:H4.length=H.length:=by rw[qD];simp
    rw[aL9,aWV,e1,e0];exact .inr ⟨by simp,H.length+2,by omega,by simp[h4l],rfl,by rw[<-h4l];simp⟩
  have akR:vs.length<=8:=by omega
  have vM:=B8 (E:=E) (H:=H++[.cells .live [.int .i64 (eU bG i).x,.int .i64 (eU bG i).y,.int .i64 (eU bG i).z],.cells .live [.bool xt,wk,.bool xu,wo,.bool zg,y9,.bool zj,za,.bool zk,zd,.bool zm,zf],dp]) (aR:=H.length+2) (b:=b1) (n:=vs.length) (cs:=vs.flatten) (c:=H.length+1) (x:=[.bool xt,wk,.bool xu,wo,.bool zg,y9,.bool zj,za,.bool zk,zd,.bool zm,zf]) (st:=.live) AX (by decide) k0 (by rw[aOr b1l];exact mP) (oT hv) (by simp) (by decide) rfl ho (by unfold fH;omega);obtain⟨H3,su⟩:∃H3,H3=H.set b1 (.cells .dead []):=⟨_,rfl⟩;have Iu:H3.length=H.length:=by rw[su];simp
  have mR:∀{l:Hp},cO (H++l) b1 (.cells .dead [])=H3++l:=by
   intro l;rw[dT (by rw[aL9];omega),aWg _ _ (by omega),su]
  have h32:H3[2]?=some (.cells .live [.aI b1 0 vs.length 12 vs.length,.aH,.aH]):=by rw[su,aOj (by omega)];exact h2
  have dx:∀{T:Hp},iZ 1 [.aI (H.length+2) 0 (vs.length+1) 12 (vs.length+1)] (H3++T) 2 0=some (.cells .live [.aI (H.length+2) 0 (vs.length+1) 12 (vs.length+1),.aH,.aH]):=by intro T;rw[eT,aOr (by omega),h32];rfl
  obtain⟨H4,qD⟩:∃H4,H4=H3.set 2 (.cells .live [.aI (H.length+2) 0 (vs.length+1) 12 (vs.length+1),.aH,.aH]):=⟨_,rfl⟩;have Ql:H4.length=H.length:=by rw[qD];simp[Iu]
  have G3:∀{l:Hp},cO (H3++l) 2 (.cells .live [.aI (H.length+2) 0 (vs.length+1) 12 (vs.length+1),.aH,.aH])=H4++l:=by
   intro l;rw[dT (by rw[aL9];omega),aWg _ _ (by omega),qD]
  have m1:∀{j:Nat},(b1==H.length+j)=false:=fun{j}=>beq_eq_false_iff_ne.2 (by omega)
  have m2:∀{j:Nat},(H.length+j==b1)=false:=fun{j}=>beq_eq_false_iff_ne.2 (by omega)
  have m3:(b1==H.length)=false:=beq_eq_false_iff_ne.2 (by omega);have m4:(H.length==b1)=false:=beq_eq_false_iff_ne.2 (by omega);have m5:(b1==2)=false:=beq_eq_false_iff_ne.2 (by omega);have m6:(2==b1)=false:=beq_eq_false_iff_ne.2 (by omega);simp only[↓aL,aM,↓aS,aJ,ct,↓reduceIte,aa,ah,ae,hl,g5,g22,g23,g24,ci,lP,pi,hr,c20,n2,BG,vM,mB,mR,dx,G3,Iu,aLU,aUi,aL9];refine bI ?_;refine⟨_,?_,i+1,(.aI (H.length+2) 0 (vs.length+1) 12 (vs.length+1)),vs++[[.bool xt,wk,.bool xu,wo,.bool zg,y9,.bool zj,za,.bool zk,zd,.bool zm,zf]],(H4++[.cells .live [.int .i64 (eU bG i).x,.int .i64 (eU bG i).y,.int .i64 (eU bG i).z],.cells .live [.bool xt,wk,.bool xu,wo,.bool zg,y9,.bool zj,za,.bool zk,zd,.bool zm,zf],.cells .live (vs.flatten++[.bool xt,wk,.bool xu,wo,.bool zg,y9,.bool zj,za,.bool zk,zd,.bool zm,zf])]),rfl,(by simp[bc,hl]),?_⟩
  ·first|omega|(simp;omega)
  simp only[aY,hl,aa,ae,g1,g2,g5,g22,g23]
  iterate 7 refine cI ?_
  refine⟨?_,?_,?_,?_,?_,?_,?_⟩
  ·omega
  ·intro r hr;rcases aM7.1 hr with hr|hr
   ·exact hv r hr
   ·rw[aNh]at hr;subst hr;exact pf
  ·rw[aL9,hvl];rfl
  ·rw[aOr (by omega),qD,aOj (by omega),su,aOj (by omega)];exact h0
  ·rw[aOr (by omega),qD,aOj (by omega),su,aOj (by omega)];exact h1
  ·rw[aOr (by omega),qD,aOl (by omega)]
  ·rw[aL9,aWV];exact .inr ⟨by simp,H.length+2,by omega,by simp[Ql],rfl,by rw[<-Ql];simp⟩
 have hie:i=bG.length:=by omega
 have d1:decide ((i:Int)<(bG.length:Int))=false:=bh (by omega);obtain⟨r2,Ec,gs,ext,rfl,hgs,aHa,-⟩:=DO (E:=E) K.yt K.aAB hn;unfold kO at Ec;have hlg:lH (lW (Ix gs) gs.length)=some ((gs.length:Nat):Int):=nV;have Fh:cellAt H 0 0=some (.aK (oZ bG) bG.length):=by rw[bY,h0];rfl
 obtain⟨pv,EF⟩:∃pv,pv=lW (Ix gs) gs.length:=⟨_,rfl⟩;obtain⟨qv,hqv⟩:∃qv,qv=lW (Iy gs) gs.length:=⟨_,rfl⟩;rw[<-EF,<-hqv]at Ec;rw[<-EF]at hlg;have MY:3<=H.length:=by have:=(aLq.1 h2).1;omega
 rcases hs with⟨e0,-,-⟩|⟨k0,bv,b1L,b1l,rfl,mP⟩
 ·have:=K.four;omega
 obtain⟨HO,rfl⟩:∃HO,HO=H:=⟨H,rfl⟩;simp only[↓aL,aM,↓aS,aJ,↓reduceIte,aa,ae,hl,g1,g23,g24,d1,Fh,Ec,hlg];have hvl:vs.length=bG.length:=by omega
 have akR:vs.length<=8:=by omega
 refine cC (fun k_ ts H=>∃k:Nat,∃fv:AV,∃fs:Fks,∃H1:Hp,k_=(gs.length-k:Nat)/\ts.length=86/\gt ts 1=.bK 0 0/\gt ts 2=.bK 1 0/\gt ts 5=.bK 2 0/\gt ts 9=qv/\gt ts 43=pv/\gt ts 44=.int .i64 (gs.length:Int)/\gt ts 45=.int .i64 (k:Int)/\H=H1/\(k<=gs.length)/\(∀f∈fs,aa9 vs.length f)/\(fs.length=k)/\(HO.length<=H1.length)/\(H1[1]?=some (.cells .live [.aH,.aH,.aH]))/\(H1[2]?=some (.cells .live [.aI bv 0 vs.length 12 vs.length,fv,.aH]))/\(H1[bv]?=some (.cells .live vs.flatten))/\(uy 17 HO.length fv H1 fs.length (xi fs))) (gs.length) ?_ ?_
 rotate_left
 ·refine⟨0,.aH,[],HO,(by first|omega|rfl|simp),(by simp[bc,hl]),?_⟩;simp only[aY,hl,aa,ae,g1,g2,g5]
  iterate 8 refine cI ?_
  refine⟨?_,?_,?_,?_,?_,?_,?_,?_⟩
  ·first|omega|trivial
  ·first|(intro r hr;cases hr)|trivial
  ·first|rfl|trivial
  ·first|omega|trivial
  ·first|exact h1|trivial
  ·first|exact h2|trivial
  ·first|exact mP|trivial
  ·first|exact .inl ⟨rfl,rfl,rfl⟩|trivial
 clear hl g1 g2 g5 g22 g23 g24 ts;rintro k_ ts H ⟨k,fv,fs,H1,rfl,hl,g1,g2,g5,g9,Ez,Bc,MQ,rfl,hk,hF,MV,hHO,h1,h2,mP,hs⟩;refine VS ?_;by_cases hd:k<gs.length
 ·have d1:decide ((k:Int)<(gs.length:Int))=true:=bj;have ck:=eP (i:=k) (n:=gs.length) hd;have qm:=wz (z:=(k:Int)+1) (m:=k+1);have akI:AV.aK (Ix gs) gs.length=pv:=by rw[EF];exact(gf).symm
  have aAe:AV.aK (Iy gs) gs.length=qv:=by rw[hqv];exact(gf).symm
  rw[<-akI]at Ez;rw[<-aAe]at g9;have pa:=alU hd;have ra:=avx hd;have EC:=hgs _ (aMg hd);generalize gs[k]=f at pa ra EC;obtain⟨⟨⟨x,y,z⟩,on⟩,out⟩:=f;have qp:=EC.pl;have ej:=EC.ne;have hol:=EC.len;have eh:=EC.lt;simp only[yJ]at pa
  dsimp only at ra qp ej hol eh
  have c0:(0<(out.length:Int))=True:=eq_true (by have:=aS1.2 ej;omega);have n0:=Q3 (l:=out) (i:=0) (aS1.2 ej);have AD:out.getD 0 0<vs.length:=by
   rw[List.getD_eq_getElem?_getD,aL6 (aS1.2 ej),Option.getD_some]
   have:=eh _ (aMg (aS1.2 ej));omega
  generalize out.getD 0 0=q at n0 AD;have cq:=eP (i:=q) (n:=vs.length) AD;have hB:=qp.bN;obtain⟨r,hr,hVr⟩:=LD (E:=E) (x:=x) (y:=y) (z:=z) (by have:=hB.1;simp only at this;omega) (by have:=hB.1;simp only at this;omega) (by have:=hB.2.1;simp only at this;omega) (by have:=hB.2.1;simp only at this;omega) (by have:=hB.2.2;simp only at this;omega) (by have:=hB.2.2;simp only at this;omega);have hbv:BV 28 (⟨(x:Rat),(y:Rat),(z:Rat)⟩:V3):=⟨Mf hB.1,Mf hB.2.1,Mf hB.2.2⟩;have atT:=avR qp.nz;obtain⟨w,hw,hVw⟩:=ug (E:=E) hVr hbv (by omega) atT;have hbw:=Gi hbv atT;have pr:=LC hVr;have XH:=hv _ (aMg AD);obtain⟨a2,CU,vN⟩:=XH.ex;obtain⟨o,ho,hRo⟩:=I5 (E:=E) hVw CU hbw vN;obtain⟨mn0,mm0,mn1,mm1,mn2,mm2,mn3,mm3,mn4,mm4,mn5,mm5,rfl,-,-,-,Pm,Om⟩:=dC hVr;obtain⟨jq,jm,jr,ja,jt,jb,ju,jc,jv,jn,jw,jo,rfl,-,-,-,Pn,On⟩:=dC hVw;have hnr:gL 300 [.bool jq,jm,.bool jr,ja,.bool jt,jb,.bool ju,jc,.bool jv,jn,.bool jw,jo]:=⟨_,hVw,hbw.mono (by omega)⟩;have Bg:=hnr.one;have hnp:=hnr.pure;obtain⟨Bm,Bk,Bn,Bl,_,_,rfl,-,M1,M2,-⟩:=db hRo;have Mo:=cJ _ hRo;have Xf:∀{T:Hp},fE 12 (H++T) bv (q*12)=some (.agg vs[q]):=fun{T}=>afd hv (by rw[aOr (aLq.1 mP).1];exact mP) AD
  generalize vs[q]=aJB at Xf ho XH CU;obtain⟨UF,Uz,UG,UA,UH,UB,UI,UC,UJ,UD,UK,UE,ey,-,-,-,Py,Oy⟩:=dC CU;injection ey with ey
  subst ey;have hyp:=XH.pure;have akl:aa9 vs.length ([.bool jq,jm,.bool jr,ja,.bool jt,jb,.bool ju,jc,.bool jv,jn,.bool jw,jo,.bool Bm,Bk,.bool Bn,Bl],out):=by
   refine⟨⟨rfl,?_,?_,ej,hol,fun x hx=>by have:=eh x hx;omega⟩,⟨[.bool jq,jm,.bool jr,ja,.bool jt,jb,.bool ju,jc,.bool jv,jn,.bool jw,jo],[.bool Bm,Bk,.bool Bn,Bl],rfl,hnr⟩,?_⟩
   ·have:[.bool jq,jm,.bool jr,ja,.bool jt,jb,.bool ju,jc,.bool jv,jn,.bool jw,jo,.bool Bm,Bk,.bool Bn,Bl]=[.bool jq,jm,.bool jr,ja,.bool jt,jb,.bool ju,jc,.bool jv,jn,.bool jw,jo]++[.bool Bm,Bk,.bool Bn,Bl]:=rfl
    rw[this,kW,hnp];simp[aV,aU,Mo]
   ·have:[.bool jq,jm,.bool jr,ja,.bool jt,jb,.bool ju,jc,.bool jv,jn,.bool jw,jo,.bool Bm,Bk,.bool Bn,Bl]=[.bool jq,jm,.bool jr,ja,.bool jt,jb,.bool ju,jc,.bool jv,jn,.bool jw,jo]++[.bool Bm,Bk,.bool Bn,Bl]:=rfl
    rw[this,List.all_append,Bg];simp[rE,Mo]
   ·intro c hc
    have:[.bool jq,jm,.bool jr,ja,.bool jt,jb,.bool ju,jc,.bool jv,jn,.bool jw,jo,.bool Bm,Bk,.bool Bn,Bl]=[.bool jq,jm,.bool jr,ja,.bool jt,jb,.bool ju,jc,.bool jv,jn,.bool jw,jo]++[.bool Bm,Bk,.bool Bn,Bl]:=rfl
    rw[this]at hc;rcases aM7.1 hc with h|h
    ·exact hnr.flat c h
    ·simp only[List.mem_cons,List.not_mem_nil,or_false]at h;rcases h with rfl|rfl|rfl|rfl
     ·exact Fx
     ·exact yD M1
     ·exact Fx
     ·exact yD M2
  have agB:([.bool jq,jm,.bool jr,ja,.bool jt,jb,.bool ju,jc,.bool jv,jn,.bool jw,jo,.bool Bm,Bk,.bool Bn,Bl,.aK (nA out) out.length]:List AV).all cN=true:=akl.ok.ko;have MY:3<=H.length:=by omega
  have aGW:=(aLq.1 mP).1;have c20:∀{T:Hp},cellAt (H++T) 2 0=some (.aI bv 0 vs.length 12 vs.length):=by intro T;rw[bY,aOr (by omega),h2];rfl
  have c21:∀{T:Hp},cellAt (H++T) 2 1=some fv:=by intro T;rw[bY,aOr (by omega),h2];rfl
  have n2:=fun{j:Nat}=>bn2 (n:=H.length) (j:=j) MY
  have n2':=fun{j:Nat}=>aod (n:=H.length) (j:=j) MY
  have BG:∀aR,bZ E aR 136 1 [(0,AV.agg [.bool jq,jm,.bool jr,ja,.bool jt,jb,.bool ju,jc,.bool jv,jn,.bool jw,jo,.bool Bm,Bk,.bool Bn,Bl,.aK (nA out) out.length])]=some (.aI aR 0 1 17 1,[(aR,.cells .live [.bool jq,jm,.bool jr,ja,.bool jt,jb,.bool ju,jc,.bool jv,jn,.bool jw,jo,.bool Bm,Bk,.bool Bn,Bl,.aK (nA out) out.length])]):=fun aR=>lk Le rfl (by decide) (by decide) rfl
  rcases hs with⟨e0,e1,rfl⟩|⟨k0,b1,b1L,b1l,rfl,hbf⟩
  ·have vM:=sX (E:=E) (H:=H++[.cells .live [.int .i64 x,.int .i64 y,.int .i64 z,.int .u64 ((on:Nat):Int)],.cells .live [.bool jq,jm,.bool jr,ja,.bool jt,jb,.bool ju,jc,.bool jv,jn,.bool jw,jo],.cells .live [.bool jq,jm,.bool jr,ja,.bool jt,jb,.bool ju,jc,.bool jv,jn,.bool jw,jo,.bool Bm,Bk,.bool Bn,Bl,.aK (nA out) out.length],dp]) (aR:=H.length+3) (b:=H.length+2) (x:=[.bool jq,jm,.bool jr,ja,.bool jt,jb,.bool ju,jc,.bool jv,jn,.bool jw,jo,.bool Bm,Bk,.bool Bn,Bl,.aK (nA out) out.length]) (st:=.live) Le (by decide) (by simp) (by decide) rfl agB (by unfold fH;omega);have dx:∀{T:Hp},iZ 1 [.aI (H.length+3) 0 1 17 1] (H++T) 2 1=some (.cells .live [.aI bv 0 vs.length 12 vs.length,.aI (H.length+3) 0 1 17 1,.aH]):=by intro T;rw[eT,aOr (by omega),h2];rfl
   obtain⟨H4,qD⟩:∃H4,H4=H.set 2 (.cells .live [.aI bv 0 vs.length 12 vs.length,.aI (H.length+3) 0 1 17 1,.aH]):=⟨_,rfl⟩;have G3:∀{l:Hp},cO (H++l) 2 (.cells .live [.aI bv 0 vs.length 12 vs.length,.aI (H.length+3) 0 1 17 1,.aH])=H4++l:=by
    intro l;rw[dT (by rw[aL9];omega),aWg _ _ (by omega),qD]
   simp only[↓aL,aM,↓aS,aJ,ct,↓reduceIte,aa,ah,ae,an,ar,ai,hl,g5,g9,Ez,Bc,MQ,ck,qm,pa,ra,hr,hw,n0,c0,cq,ho,Xf,c20,c21,n2,BG,vM,dx,G3,Pm,Pn,On,Py,eL,aLU,aUi,aL9];have Ql:H4.length=H.length:=by rw[qD];simp
   refine bI ?_;refine⟨_,?_,k+1,(.aI (H.length+3) 0 1 17 1),fs++[([.bool jq,jm,.bool jr,ja,.bool jt,jb,.bool ju,jc,.bool jv,jn,.bool jw,jo,.bool Bm,Bk,.bool Bn,Bl],out)],(H4++[.cells .live [.int .i64 x,.int .i64 y,.int .i64 z,.int .u64 ((on:Nat):Int)],.cells .live [.bool jq,jm,.bool jr,ja,.bool jt,jb,.bool ju,jc,.bool jv,jn,.bool jw,jo],.cells .live [.bool jq,jm,.bool jr,ja,.bool jt,jb,.bool ju,jc,.bool jv,jn,.bool jw,jo,.bool Bm,Bk,.bool Bn,Bl,.aK (nA out) out.length],.cells .live [.bool jq,jm,.bool jr,ja,.bool jt,jb,.bool ju,jc,.bool jv,jn,.bool jw,jo,.bool Bm,Bk,.bool Bn,Bl,.aK (nA out) out.length]]),rfl,(by simp[bc,hl]),?_⟩
   ·first|omega|(simp;omega)
   simp only[aY,hl,aa,ae,g1,g2,g5,g9,Ez,Bc]
   iterate 8 refine cI ?_
   refine⟨?_,?_,?_,?_,?_,?_,?_,?_⟩
   ·omega
   ·intro r hr;rcases aM7.1 hr with hr|hr
    ·exact hF r hr
    ·rw[aNh]at hr;subst hr;exact akl
   ·rw[aL9,MV];rfl
   ·rw[aL9];omega
   ·rw[aOr (by omega),qD,aOj (by omega)];exact h1
   ·rw[aOr (by omega),qD,aOl (by omega)]
   ·rw[aOr (by omega),qD,aOj (by omega)];exact mP
   ·have e2:xi (fs++[([.bool jq,jm,.bool jr,ja,.bool jt,jb,.bool ju,jc,.bool jv,jn,.bool jw,jo,.bool Bm,Bk,.bool Bn,Bl],out)])=xi fs++[.bool jq,jm,.bool jr,ja,.bool jt,jb,.bool ju,jc,.bool jv,jn,.bool jw,jo,.bool Bm,Bk,.bool Bn,Bl,.aK (nA out) out.length]:=by simp[xi,Ew]
    rw[aL9,e2,e1,e0];exact .inr ⟨by simp,H.length+3,by omega,by simp[Ql],rfl,by rw[<-Ql];simp⟩
  have agA:fs.length<=56:=by omega
  have vM:=B8 (E:=E) (H:=H++[.cells .live [.int .i64 x,.int .i64 y,.int .i64 z,.int .u64 ((on:Nat):Int)],.cells .live [.bool jq,jm,.bool jr,ja,.bool jt,jb,.bool ju,jc,.bool jv,jn,.bool jw,jo],.cells .live [.bool jq,jm,.bool jr,ja,.bool jt,jb,.bool ju,jc,.bool jv,jn,.bool jw,jo,.bool Bm,Bk,.bool Bn,Bl,.aK (nA out) out.length],dp]) (aR:=H.length+3) (b:=b1) (n:=fs.length) (cs:=xi fs) (c:=H.length+2) (x:=[.bool jq,jm,.bool jr,ja,.bool jt,jb,.bool ju,jc,.bool jv,jn,.bool jw,jo,.bool Bm,Bk,.bool Bn,Bl,.aK (nA out) out.length]) (st:=.live) Le (by decide) k0 (by rw[aOr b1l];exact hbf) (Qc fun f hf=>(hF f hf).ok) (by simp) (by decide) rfl agB (by unfold fH;omega);have aj8:b1≠bv:=by omega
  obtain⟨H3,su⟩:∃H3,H3=H.set b1 (.cells .dead []):=⟨_,rfl⟩;have Iu:H3.length=H.length:=by rw[su];simp
  have mR:∀{l:Hp},cO (H++l) b1 (.cells .dead [])=H3++l:=by
   intro l;rw[dT (by rw[aL9];omega),aWg _ _ (by omega),su]
  have h32:H3[2]?=some (.cells .live [.aI bv 0 vs.length 12 vs.length,.aI b1 0 fs.length 17 fs.length,.aH]):=by rw[su,aOj (by omega)];exact h2
  have dx:∀{T:Hp},iZ 1 [.aI (H.length+3) 0 (fs.length+1) 17 (fs.length+1)] (H3++T) 2 1=some (.cells .live [.aI bv 0 vs.length 12 vs.length,.aI (H.length+3) 0 (fs.length+1) 17 (fs.length+1),.aH]):=by intro T;rw[eT,aOr (by omega),h32];rfl
  obtain⟨H4,qD⟩:∃H4,H4=H3.set 2 (.cells .live [.aI bv 0 vs.length 12 vs.length,.aI (H.length+3) 0 (fs.length+1) 17 (fs.length+1),.aH]):=⟨_,rfl⟩;have Ql:H4.length=H.length:=by rw[qD];simp[Iu]
  have G3:∀{l:Hp},cO (H3++l) 2 (.cells .live [.aI bv 0 vs.length 12 vs.length,.aI (H.length+3) 0 (fs.length+1) 17 (fs.length+1),.aH])=H4++l:=by
   intro l;rw[dT (by rw[aL9];omega),aWg _ _ (by omega),qD]
  have m1:∀{j:Nat},(b1==H.length+j)=false:=fun{j}=>beq_eq_false_iff_ne.2 (by omega)
  have m2:∀{j:Nat},(H.length+j==b1)=false:=fun{j}=>beq_eq_false_iff_ne.2 (by omega)
  have m3:(b1==H.length)=false:=beq_eq_false_iff_ne.2 (by omega);have m4:(H.length==b1)=false:=beq_eq_false_iff_ne.2 (by omega);have m5:(b1==2)=false:=beq_eq_false_iff_ne.2 (by omega);have m6:(2==b1)=false:=beq_eq_false_iff_ne.2 (by omega);have m7:(b1==bv)=false:=beq_eq_false_iff_ne.2 aj8;have m8:(bv==b1)=false:=beq_eq_false_iff_ne.2 (Ne.symm aj8);simp only[↓aL,aM,↓aS,aJ,ct,↓reduceIte,aa,ah,ae,an,ar,ai,hl,g5,g9,Ez,Bc,MQ,ck,qm,pa,ra,hr,hw,n0,c0,cq,ho,Xf,c20,c21,n2,BG,vM,mB,mR,dx,G3,Iu,Pm,Pn,On,Py,eL,aLU,aUi,aL9];refine bI ?_;refine⟨_,?_,k+1,(.aI (H.length+3) 0 (fs.length+1) 17 (fs.length+1)),fs++[([.bool jq,jm,.bool jr,ja,.bool jt,jb,.bool ju,jc,.bool jv,jn,.bool jw,jo,.bool Bm,Bk,.bool Bn,Bl],out)],(H4++[.cells .live [.int .i64 x,.int .i64 y,.int .i64 z,.int .u64 ((on:Nat):Int)],.cells .live [.bool jq,jm,.bool jr,ja,.bool jt,jb,.bool ju,jc,.bool jv,jn,.bool jw,jo],.cells .live [.bool jq,jm,.bool jr,ja,.bool jt,jb,.bool ju,jc,.bool jv,jn,.bool jw,jo,.bool Bm,Bk,.bool Bn,Bl,.aK (nA out) out.length],.cells .live (xi fs++[.bool jq,jm,.bool jr,ja,.bool jt,jb,.bool ju,jc,.bool jv,jn,.bool jw,jo,.bool Bm,Bk,.bool Bn,Bl,.aK (nA out) out.length])]),rfl,(by simp[bc,hl]),?_⟩
  ·first|omega|(simp;omega)
  simp only[aY,hl,aa,ae,g1,g2,g5,g9,Ez,Bc]
  iterate 8 refine cI ?_
  refine⟨?_,?_,?_,?_,?_,?_,?_,?_⟩
  ·omega
  ·intro r hr;rcases aM7.1 hr with hr|hr
   ·exact hF r hr
   ·rw[aNh]at hr;subst hr;exact akl
  ·rw[aL9,MV];rfl
  ·rw[aL9];omega
  ·rw[aOr (by omega),qD,aOj (by omega),su,aOj (by omega)];exact h1
  ·rw[aOr (by omega),qD,aOl (by omega)]
  ·rw[aOr (by omega),qD,aOj (by omega),su,aOj aj8];exact mP
  ·have e2:xi (fs++[([.bool jq,jm,.bool jr,ja,.bool jt,jb,.bool ju,jc,.bool jv,jn,.bool jw,jo,.bool Bm,Bk,.bool Bn,Bl],out)])=xi fs++[.bool jq,jm,.bool jr,ja,.bool jt,jb,.bool ju,jc,.bool jv,jn,.bool jw,jo,.bool Bm,Bk,.bool Bn,Bl,.aK (nA out) out.length]:=by simp[xi,Ew]
   rw[aL9,e2];exact .inr ⟨by simp,H.length+3,by omega,by simp[Ql],rfl,by rw[<-Ql];simp⟩
 have d1:decide ((k:Int)<(gs.length:Int))=false:=bh (by omega);have agA:fs.length<=56:=by omega
 obtain⟨r,hr,es,rfl,y8,asZ⟩:=MB (E:=E) (m:=vs.length) akR (fs:=fs) (fun f hf=>(hF f hf).ok) (by omega);have hrc:=TP (cs:=r9 es) (n:=es.length);have XG:=mE (cs:=r9 es) (n:=es.length);have tO:=yR (cs:=r9 es) (n:=es.length);have adw:q9 ⟨vs,fs,es⟩:=⟨hv,akR,hF,agA,y8,asZ⟩;obtain⟨ev,hev⟩:∃ev,ev=lW (r9 es) es.length:=⟨_,rfl⟩;rw[<-hev]at hr hrc XG tO;have c21:cellAt H 2 1=some fv:=by rw[bY,h2];rfl
 have h1l:=(aLq.1 h1).1;have h2l:=(aLq.1 h2).1;obtain⟨bs,H5,gH,azz,k1,k2,kb,kl,uf,kf⟩:∃bs H5,sI (aU fv) H [fv]=some ([lW (xi fs) fs.length],bs)/\cF.app H (if bQ ev=true then cF.looks bs else cF.marks bs)=H5/\H5[1]?=H[1]?/\H5[2]?=H[2]?/\H5[bv]?=H[bv]?/\H5.length=H.length/\∃uf,∀T:Hp,T.length=H.length->(∀q,q≠1->q≠2->T[q]?=H5[q]?)->Fr T 2 fv (lW (xi fs) fs.length) uf:=by
  have hff:∀c∈xi fs,Flat c:=WS hF;rcases hs with⟨e0,e1,rfl⟩|⟨k0,b1,b1L,b1l,rfl,hbf⟩
  ·refine⟨[],H,?_,?_,rfl,rfl,rfl,rfl,[],fun T _ _=>?_⟩
   ·rw[e1,e0];rfl
   ·cases bQ ev<;>rfl
   ·rw[e1,e0];exact(Fr.flat CK).up (by omega)
  ·have hlen:=Qc (fun f hf=>(hF f hf).ok);have gH:=yg (m:=fs.length) (s:=17) hbf (by decide) hlen hff;rw[gf k0];cases hrr:bQ ev with
   |true=>
    exact⟨[b1],H,gH,rfl,rfl,rfl,rfl,rfl,_,fun T hT hq=>Fr.hsA (st:=.live) (by rw[hq _ (by omega) (by omega)];exact hbf) (by decide) hlen (ft.flat hff)⟩
   |false=>
    refine⟨[b1],H.modify b1 cE.j8,gH,rfl,?_,?_,?_,by simp,[b1]++[],fun T hT hq=>Fr.hsA (st:=.ro) ?_ (by decide) hlen (ft.flat hff)⟩
    ·exact YY
    ·exact YY
    ·exact YY
    ·rw[hq _ (by omega) (by omega)];exact auG hbf
 have Jq:iZ 1 [ev] H5 2 2=some (.cells .live [.aI bv 0 vs.length 12 vs.length,fv,ev]):=by rw[eT,k2,h2];simp[XG,dA]
 obtain⟨H6,hH6⟩:∃H6,H6=H5.set 2 (.cells .live [.aI bv 0 vs.length 12 vs.length,fv,ev]):=⟨_,rfl⟩;have hp6:cO H5 2 (.cells .live [.aI bv 0 vs.length 12 vs.length,fv,ev])=H6:=by rw[dT,hH6]
 have a6:fE 3 H6 2 0=some (.agg [.aI bv 0 vs.length 12 vs.length,fv,ev]):=by rw[dY,hH6,aOl (by omega)];rfl
 have EC:cN fv=true:=by rcases hs with⟨_,_,rfl⟩|⟨_,b1,_,_,rfl,_⟩<;>rfl
 have hs1:iZ 3 [.aI bv 0 vs.length 12 vs.length,fv,ev] H6 1 0=some (.cells .live [.aI bv 0 vs.length 12 vs.length,fv,ev]):=by rw[eT,hH6,aOj (by omega),k1,h1];simp[XG,EC,dA,Q6]
 obtain⟨H7,hH7⟩:∃H7,H7=H6.set 1 (.cells .live [.aI bv 0 vs.length 12 vs.length,fv,ev]):=⟨_,rfl⟩;have hp7:cO H6 1 (.cells .live [.aI bv 0 vs.length 12 vs.length,fv,ev])=H7:=by rw[dT (by rw[hH6,List.length_set];omega),hH7]
 have a7:fE 3 H7 1 0=some (.agg [.aI bv 0 vs.length 12 vs.length,fv,ev]):=by rw[dY,hH7,aOl (by rw[hH6,List.length_set];omega)];rfl
 have q7:∀q,q≠1->q≠2->H7[q]?=H5[q]?:=fun q x1 x2=>by rw[hH7,aOj (Ne.symm x1),hH6,aOj (Ne.symm x2)]
 have f7:=kf H7 (by rw[hH7,hH6];simp[kl]) q7;obtain⟨u7,fv7⟩:∃u,Fr H7 2 (.aI bv 0 vs.length 12 vs.length) (lW vs.flatten vs.length) u:=by
  rw[gf k0];refine⟨_,Fr.hsA (st:=.live) (by rw[q7 bv (by omega) (by omega),kb];exact mP) (by decide) (oT hv) (ft.flat (vF hv))⟩
 have azE:=nk (H:=H7) (m:=4) (l:=[.tuple [.agg [.aI bv 0 vs.length 12 vs.length,fv,ev],.int .i64 0]]) (ft.cons (Fr.tup (ft.cons (Fr.agg (ft.cons fv7 (ft.cons f7 (ft.cons ((Fr.flat tO).up (by omega)) ft.nil)))) (ft.cons ((Fr.flat iX).up (by omega)) ft.nil))) ft.nil) (by omega) (by simp[aV,aU]);simp only[↓aL,aM,↓aS,aJ,↓reduceIte,aa,ae,hl,g2,g5,Bc,MQ,d1,c21,gH,hr,azz,hrc,Jq,hp6,a6,hs1,hp7,a7,azE];exact⟨_,0,rfl,.inr ⟨rfl,⟨vs,fs,es⟩,adw,by rw[hev];rfl⟩⟩
structure L2(k:Nat)(r:List AV):Prop where
 ex:∃q,eu (.agg r) q/\Bq k q
def L2.cells{k:Nat}{r:List AV}(h:L2 k r):∃xt wk xu wo,r=[.bool xt,wk,.bool xu,wo]/\(aU wk=true/\cN wk=true/\aU wo=true/\cN wo=true):=by
 obtain⟨q,h1,_⟩:=h.ex;obtain⟨a,b,c,d,_,_,e,-⟩:=db h1;injection e with e
 subst e;exact⟨_,_,_,_,rfl,cJ _ h1⟩
def KX{H:Hp}{b:Nat}{x:cE}(h:H[b]?=some x):cO H b x=H:=by obtain⟨eh,rfl⟩:=aLq.1 h;rw[dT eh,List.set_getElem_self]
def Ax{s:Sh}(hs:q9 s){n:List AV}{K:Nat}(hn:gL K n)(hK:K<=100000:=by omega):
  ∃r,aP E 117 [.agg (qq s),.agg n]=some r/\∃lo hi,r=.tuple [.agg lo,.agg hi]/\L2 1000000 lo/\L2 1000000 hi:=by
 obtain⟨vs,fs,es⟩:=s;have hv:∀r∈vs,gL 13 r:=hs.vs;have hv8:vs.length<=8:=hs.n8;have aHN:=hs.pure;obtain⟨va,SE⟩:∃va,va=lW vs.flatten vs.length:=⟨_,rfl⟩;obtain⟨fa,hfa⟩:∃fa,fa=lW (xi fs) fs.length:=⟨_,rfl⟩;obtain⟨ea,hea⟩:∃ea,ea=lW (r9 es) es.length:=⟨_,rfl⟩;have se:qq ⟨vs,fs,es⟩=[va,fa,ea]:=by rw[SE,hfa,hea];rfl
 rw[se];have o8:lH va=some ((vs.length:Nat):Int):=by rw[SE];exact nV
 have oo:cN va=true/\cN fa=true/\cN ea=true:=⟨by rw[SE];exact mE,by rw[hfa];exact mE,by rw[hea];exact mE⟩;obtain⟨na,hna,hnb⟩:=hn.ex;obtain⟨jq,jm,jr,ja,jt,jb,ju,jc,jv,jn,jw,jo,en,-,-,-,Pn,On⟩:=dC hna;injection en with en
 subst en;have G6:bC (Operand.const (Value.int .i64 0))=true:=rfl;refine oA aqV ?_;intro ts hl g0 g1;unfold aos;simp only[↓aL,aM,aJ,aa,ah,ae,Tryz.f117,hl,g0,g1,o8];refine cC (fun k_ ts H=>∃i:Nat,∃lo,∃hi,∃H1,k_=(vs.length-i:Nat)/\ts.length=41/\gt ts 3=.bK 1 0/\gt ts 4=.bK 2 0/\gt ts 5=.bK 3 0/\gt ts 10=va/\gt ts 11=.int .i64 (vs.length:Int)/\gt ts 12=.int .i64 (i:Int)/\H=H1/\(i<=vs.length)/\(H1[1]?=some (.cells .live [.bool jq,jm,.bool jr,ja,.bool jt,jb,.bool ju,jc,.bool jv,jn,.bool jw,jo]))/\(H1[2]?=some (.cells .live lo))/\(H1[3]?=some (.cells .live hi))/\(L2 1000000 lo)/\(L2 1000000 hi)) (vs.length) ?_ ?_
 rotate_left
 ·refine⟨0,[.bool false,.aH,.bool false,.aH],[.bool false,.aH,.bool false,.aH],[.cells .live [va,fa,ea],.cells .live [.bool jq,jm,.bool jr,ja,.bool jt,jb,.bool ju,jc,.bool jv,jn,.bool jw,jo],.cells .live [.bool false,.aH,.bool false,.aH],.cells .live [.bool false,.aH,.bool false,.aH]],(by first|omega|rfl|simp),(by simp[bc,hl]),?_⟩;simp only[aY,hl,aa,ae]
  iterate 7 refine cI ?_
  refine⟨?_,?_,?_,?_,?_,?_⟩
  ·first|omega|trivial
  ·first|rfl|trivial
  ·first|rfl|trivial
  ·first|rfl|trivial
  ·first|exact⟨0,oH,PJ.mono (by omega)⟩|trivial
  ·first|exact⟨0,oH,PJ.mono (by omega)⟩|trivial
 clear hl g0 g1 ts;rintro k_ ts H ⟨i,lo,hi,H1,rfl,hl,g3,g4,g5,g10,g11,g12,rfl,hi,h1,h2,h3,ik,ED⟩;refine VS ?_;obtain⟨ql,hql,bql⟩:=ik.ex;obtain⟨qh,hqh,bqh⟩:=ED.ex;obtain⟨an0,am0,an1,am1,rfl,Pa⟩:=ik.cells;obtain⟨bn0,bm0,bn1,bm1,rfl,Pb⟩:=ED.cells;have aHu:4<=H.length:=by have:=(aLq.1 h3).1;omega
 by_cases hd:i<vs.length
 rotate_left
 ·have d1:decide ((i:Int)<(vs.length:Int))=false:=bh (by omega);have a2:fE 4 H 2 0=some (.agg [.bool an0,am0,.bool an1,am1]):=by rw[dY,h2];rfl
  have a3:fE 4 H 3 0=some (.agg [.bool bn0,bm0,.bool bn1,bm1]):=by rw[dY,h3];rfl
  have s2:iZ 4 [.bool an0,am0,.bool an1,am1] H 2 0=some (.cells .live [.bool an0,am0,.bool an1,am1]):=by rw[eT,h2];simp[rE,Pa,dA]
  have s3:iZ 4 [.bool bn0,bm0,.bool bn1,bm1] H 3 0=some (.cells .live [.bool bn0,bm0,.bool bn1,bm1]):=by rw[eT,h3];simp[rE,Pb,dA]
  have p2:=KX h2;have p3:=KX h3;simp only[↓aL,aM,aJ,↓reduceIte,aa,ah,ae,aj,hl,g4,g5,g11,g12,d1,a2,a3,s2,s3,p2,p3,Pa,Pb];exact⟨_,_,rfl,ik,ED⟩
 have d1:decide ((i:Int)<(vs.length:Int))=true:=bj;have C4:AV.aK vs.flatten vs.length=va:=by rw[SE];exact(gf).symm
 rw[<-C4]at g10;have ci:=eP (i:=i) (n:=vs.length) hd;have lP:=wz (z:=(i:Int)+1) (m:=i+1);have pa:=rU hv hd;have pf:=hv _ (aMg hd);generalize vs[i]=row at pa pf;obtain⟨a2,CU,vN⟩:=pf.ex;obtain⟨d,Xm,hRd⟩:=I5 (E:=E) hna CU hnb vN;have bd:=(Ws hnb vN).mono (show 3*(K+13)+4<=1000000 by omega);obtain⟨UF,Uz,UG,UA,UH,UB,UI,UC,UJ,UD,UK,UE,ey,-,-,-,Py,Oy⟩:=dC CU;injection ey with ey
 subst ey;have Jm:∀{w:List AV},d=.agg w->L2 1000000 w:=fun{w} e=>⟨_,by rw[<-e];exact hRd,bd⟩
 have oB:=gS (E:=E) hRd hql bd bql;have uK:=gS (E:=E) hRd hqh bd bqh;obtain⟨yY,yW,yZ,yX,_,_,rfl,-⟩:=db hRd;have Jm:=Jm rfl;have Pd:=cJ _ hRd;generalize qy (afc na a2) ql=zl at oB;generalize qy (afc na a2) qh=zh at uK;have l1:∀{T:Hp},fE 12 (H++T) 1 0=some (.agg [.bool jq,jm,.bool jr,ja,.bool jt,jb,.bool ju,jc,.bool jv,jn,.bool jw,jo]):=by intro T;rw[dY,aOr (by omega),h1];rfl
 have l2:∀{T:Hp},fE 4 (H++T) 2 0=some (.agg [.bool an0,am0,.bool an1,am1]):=by intro T;rw[dY,aOr (by omega),h2];rfl
 have l3:∀{T:Hp},fE 4 (H++T) 3 0=some (.agg [.bool bn0,bm0,.bool bn1,bm1]):=by intro T;rw[dY,aOr (by omega),h3];rfl
 obtain⟨H2,y7⟩:∃H2,H2=H.set 2 (.cells .live [.bool yY,yW,.bool yZ,yX]):=⟨_,rfl⟩;obtain⟨H3,su⟩:∃H3,H3=H.set 3 (.cells .live [.bool yY,yW,.bool yZ,yX]):=⟨_,rfl⟩;obtain⟨H5,hH5⟩:∃H5,H5=H2.set 3 (.cells .live [.bool yY,yW,.bool yZ,yX]):=⟨_,rfl⟩;have k2:H2.length=H.length:=by rw[y7];simp
 have k3:H3.length=H.length:=by rw[su];simp
 have k5:H5.length=H.length:=by rw[hH5];simp[k2]
 have h23:H2[3]?=some (.cells .live [.bool bn0,bm0,.bool bn1,bm1]):=by rw[y7,aOj (by omega)];exact h3
 have l23:∀{T:Hp},fE 4 (H2++T) 3 0=some (.agg [.bool bn0,bm0,.bool bn1,bm1]):=by intro T;rw[dY,aOr (by omega),h23];rfl
 have s2:∀{T:Hp},iZ 4 [.bool yY,yW,.bool yZ,yX] (H++T) 2 0=some (.cells .live [.bool yY,yW,.bool yZ,yX]):=by intro T;rw[eT,aOr (by omega),h2];simp[rE,Pd,dA]
 have s3:∀{T:Hp},iZ 4 [.bool yY,yW,.bool yZ,yX] (H++T) 3 0=some (.cells .live [.bool yY,yW,.bool yZ,yX]):=by intro T;rw[eT,aOr (by omega),h3];simp[rE,Pd,dA]
 have s23:∀{T:Hp},iZ 4 [.bool yY,yW,.bool yZ,yX] (H2++T) 3 0=some (.cells .live [.bool yY,yW,.bool yZ,yX]):=by intro T;rw[eT,aOr (by omega),h23];simp[rE,Pd,dA]
 have p2:∀{T:Hp},cO (H++T) 2 (.cells .live [.bool yY,yW,.bool yZ,yX])=H2++T:=by intro T;rw[dT (by rw[aL9];omega),aWg _ _ (by omega),y7]
 have p3:∀{T:Hp},cO (H++T) 3 (.cells .live [.bool yY,yW,.bool yZ,yX])=H3++T:=by intro T;rw[dT (by rw[aL9];omega),aWg _ _ (by omega),su]
 have p23:∀{T:Hp},cO (H2++T) 3 (.cells .live [.bool yY,yW,.bool yZ,yX])=H5++T:=by intro T;rw[dT (by rw[aL9];omega),aWg _ _ (by omega),hH5]
 have x1:H2[1]?=some (.cells .live [.bool jq,jm,.bool jr,ja,.bool jt,jb,.bool ju,jc,.bool jv,jn,.bool jw,jo]):=by rw[y7,aOj (by omega)];exact h1
 have x2:H2[2]?=some (.cells .live [.bool yY,yW,.bool yZ,yX]):=by rw[y7,aOl (by omega)]
 have y1:H3[1]?=some (.cells .live [.bool jq,jm,.bool jr,ja,.bool jt,jb,.bool ju,jc,.bool jv,jn,.bool jw,jo]):=by rw[su,aOj (by omega)];exact h1
 have y2:H3[2]?=some (.cells .live [.bool an0,am0,.bool an1,am1]):=by rw[su,aOj (by omega)];exact h2
 have y3:H3[3]?=some (.cells .live [.bool yY,yW,.bool yZ,yX]):=by rw[su,aOl (by omega)]
 have z1:H5[1]?=some (.cells .live [.bool jq,jm,.bool jr,ja,.bool jt,jb,.bool ju,jc,.bool jv,jn,.bool jw,jo]):=by rw[hH5,aOj (by omega)];exact x1
 have z2:H5[2]?=some (.cells .live [.bool yY,yW,.bool yZ,yX]):=by rw[hH5,aOj (by omega)];exact x2
 have z3:H5[3]?=some (.cells .live [.bool yY,yW,.bool yZ,yX]):=by rw[hH5,aOl (by omega)]
 by_cases hi0:i=0
 ·have b0:((i:Int)==0)=true:=by simp[hi0]
  simp only[↓aL,aM,↓aS,aJ,ct,↓reduceIte,aa,ah,ae,hl,g3,g4,g5,g10,g11,g12,ci,lP,pa,b0,Xm,l1,s2,s23,p2,p23,Pn,Py,Pd,Oy,k2,aUi,aL9];refine bI ?_;refine⟨_,?_,i+1,[.bool yY,yW,.bool yZ,yX],[.bool yY,yW,.bool yZ,yX],(H5++[.cells .live [.bool UF,Uz,.bool UG,UA,.bool UH,UB,.bool UI,UC,.bool UJ,UD,.bool UK,UE],.cells .live [.bool yY,yW,.bool yZ,yX]]),rfl,(by simp[bc,hl]),?_⟩
  ·first|omega|(simp;omega)
  simp only[aY,hl,aa,ae,g3,g4,g5,g10,g11]
  iterate 7 refine cI ?_
  refine⟨?_,?_,?_,?_,?_,?_⟩
  ·omega
  ·rw[aOr (by omega)];exact z1
  ·rw[aOr (by omega)];exact z2
  ·rw[aOr (by omega)];exact z3
  ·exact Jm
  ·exact Jm
 have b0:((i:Int)==0)=false:=by simpa using hi0
 by_cases Ef:zl<0
 ·have e1:decide (zl<0)=true:=bj Ef;by_cases hzh:zh>0
  ·have e2:decide (zh>0)=true:=bj hzh;simp only[↓aL,aM,↓aS,aJ,ct,↓reduceIte,aa,ah,ae,hl,g3,g4,g5,g10,g11,g12,ci,lP,pa,b0,e1,e2,Xm,oB,uK,l1,l2,l23,s2,s23,p2,p23,Pn,Py,Pa,Pb,Pd,Oy,k2,aUi,aL9];refine bI ?_;refine⟨_,?_,i+1,[.bool yY,yW,.bool yZ,yX],[.bool yY,yW,.bool yZ,yX],(H5++[.cells .live [.bool UF,Uz,.bool UG,UA,.bool UH,UB,.bool UI,UC,.bool UJ,UD,.bool UK,UE],.cells .live [.bool yY,yW,.bool yZ,yX]]),rfl,(by simp[bc,hl]),?_⟩
   ·first|omega|(simp;omega)
   simp only[aY,hl,aa,ae,g3,g4,g5,g10,g11]
   iterate 7 refine cI ?_
   refine⟨?_,?_,?_,?_,?_,?_⟩
   ·omega
   ·rw[aOr (by omega)];exact z1
   ·rw[aOr (by omega)];exact z2
   ·rw[aOr (by omega)];exact z3
   ·exact Jm
   ·exact Jm
  ·have e2:decide (zh>0)=false:=bh hzh;simp only[↓aL,aM,↓aS,aJ,ct,↓reduceIte,aa,ah,ae,hl,g3,g4,g5,g10,g11,g12,ci,lP,pa,b0,e1,e2,Xm,oB,uK,l1,l2,l23,s2,p2,Pn,Py,Pa,Pb,Pd,Oy,k2,aUi,aL9];refine bI ?_;refine⟨_,?_,i+1,[.bool yY,yW,.bool yZ,yX],[.bool bn0,bm0,.bool bn1,bm1],(H2++[.cells .live [.bool UF,Uz,.bool UG,UA,.bool UH,UB,.bool UI,UC,.bool UJ,UD,.bool UK,UE],.cells .live [.bool yY,yW,.bool yZ,yX]]),rfl,(by simp[bc,hl]),?_⟩
   ·first|omega|(simp;omega)
   simp only[aY,hl,aa,ae,g3,g4,g5,g10,g11]
   iterate 7 refine cI ?_
   refine⟨?_,?_,?_,?_,?_,?_⟩
   ·omega
   ·rw[aOr (by omega)];exact x1
   ·rw[aOr (by omega)];exact x2
   ·rw[aOr (by omega)];exact h23
   ·exact Jm
   ·exact ED
 ·have e1:decide (zl<0)=false:=bh Ef;by_cases hzh:zh>0
  ·have e2:decide (zh>0)=true:=bj hzh;simp only[↓aL,aM,↓aS,aJ,ct,↓reduceIte,aa,ah,ae,hl,g3,g4,g5,g10,g11,g12,ci,lP,pa,b0,e1,e2,Xm,oB,uK,l1,l2,l3,s3,p3,Pn,Py,Pa,Pb,Pd,Oy,aUi,aL9];refine bI ?_;refine⟨_,?_,i+1,[.bool an0,am0,.bool an1,am1],[.bool yY,yW,.bool yZ,yX],(H3++[.cells .live [.bool UF,Uz,.bool UG,UA,.bool UH,UB,.bool UI,UC,.bool UJ,UD,.bool UK,UE],.cells .live [.bool yY,yW,.bool yZ,yX]]),rfl,(by simp[bc,hl]),?_⟩
   ·first|omega|(simp;omega)
   simp only[aY,hl,aa,ae,g3,g4,g5,g10,g11]
   iterate 7 refine cI ?_
   refine⟨?_,?_,?_,?_,?_,?_⟩
   ·omega
   ·rw[aOr (by omega)];exact y1
   ·rw[aOr (by omega)];exact y2
   ·rw[aOr (by omega)];exact y3
   ·exact ik
   ·exact Jm
  ·have e2:decide (zh>0)=false:=bh hzh;simp only[↓aL,aM,↓aS,aJ,ct,↓reduceIte,aa,ah,ae,hl,g3,g4,g5,g10,g11,g12,ci,lP,pa,b0,e1,e2,Xm,oB,uK,l1,l2,l3,Pn,Py,Pa,Pb,Pd,Oy,aUi,aL9];refine bI ?_;refine⟨_,?_,i+1,[.bool an0,am0,.bool an1,am1],[.bool bn0,bm0,.bool bn1,bm1],(H++[.cells .live [.bool UF,Uz,.bool UG,UA,.bool UH,UB,.bool UI,UC,.bool UJ,UD,.bool UK,UE],.cells .live [.bool yY,yW,.bool yZ,yX]]),rfl,(by simp[bc,hl]),?_⟩
   ·first|omega|(simp;omega)
   simp only[aY,hl,aa,ae,g3,g4,g5,g10,g11]
   iterate 7 refine cI ?_
   refine⟨?_,?_,?_,?_,?_,?_⟩
   ·omega
   ·rw[aOr (by omega)];exact h1
   ·rw[aOr (by omega)];exact h2
   ·rw[aOr (by omega)];exact h3
   ·exact ik
   ·exact ED
def xY{l:Rws}{t:List AV}{K:Nat}(hv:∀r∈l,gL K r)(ht:gL K t)(hK:K<=1000000:=by omega)(hn:l.length<1000:=by omega):
  ∃r,aP E 214 [lW l.flatten l.length,.agg t,.func 187 [] []]=some r/\∃(p:Nat) (f:Bool),r=.tuple [.int .i64 (p:Int),.bool f]/\p<=l.length:=by
 obtain⟨va,SE⟩:∃va,va=lW l.flatten l.length:=⟨_,rfl⟩;rw[<-SE];have o8:lH va=some ((l.length:Nat):Int):=by rw[SE];exact nV
 have kg:=fun{dr st:Bool} {bl:List AV} {H:Hp} {k:AV->cF->Prop}=>jy (E:=E) (dr:=dr) (st:=st) (f:=187) (bl:=bl) (H:=H) (k:=k) (bO C)
 obtain⟨ta,hta,htb⟩:=ht.ex;obtain⟨tn0,tm0,tn1,tm1,tn2,tm2,tn3,tm3,tn4,tm4,tn5,tm5,et,-,-,-,Pt,Ot⟩:=dC hta;injection et with et
 subst et;refine gw3 arK ?_;intro ts hl g0 g1 g2;unfold apk;simp only[↓aL,aM,aJ,aa,ae,Tryz.f214,hl,g0,g1,o8];refine cC (fun k_ ts H=>∃i:Nat,∃j:Nat,k_=(j-i:Nat)/\ts.length=49/\gt ts 0=va/\gt ts 2=.func 187 [] []/\gt ts 4=.bK 0 0/\gt ts 8=.int .i64 (l.length:Int)/\gt ts 9=.int .i64 (i:Int)/\gt ts 10=.int .i64 (j:Int)/\H=[.cells .live [.bool tn0,tm0,.bool tn1,tm1,.bool tn2,tm2,.bool tn3,tm3,.bool tn4,tm4,.bool tn5,tm5]]/\(i<=j)/\(j<=l.length)) (l.length) ?_ ?_
 rotate_left
 ·refine⟨0,l.length,(by first|omega|rfl|simp),(by simp[bc,hl]),?_⟩;simp only[aY,hl,aa,ae,g0,g2]
  iterate 7 refine cI ?_
  refine⟨?_,?_⟩
  ·first|omega|trivial
  ·first|omega|trivial
 clear hl g0 g1 g2 ts;rintro k_ ts H ⟨i,j,rfl,hl,g0,g2,g4,g8,g9,g10,rfl,tJ,hjn⟩;refine VS ?_;by_cases hd:i<j
 rotate_left
 ·have d1:decide ((i:Int)<(j:Int))=false:=bh (by omega);by_cases LM:i<l.length
  rotate_left
  ·have d2:decide ((i:Int)<(l.length:Int))=false:=bh (by omega);simp only[↓aL,aM,aJ,↓reduceIte,aa,ah,ae,hl,g8,g9,g10,d1,d2];exact⟨i,_,rfl,by omega⟩
  have d2:decide ((i:Int)<(l.length:Int))=true:=bj;have C4:AV.aK l.flatten l.length=va:=by rw[SE];exact(gf).symm
  rw[<-C4]at g0;have ci:=eP (i:=i) (n:=l.length) LM;have pa:=rU hv LM;have pf:=hv _ (aMg LM);generalize l[i]=row at pa pf;obtain⟨a2,CU,vN⟩:=pf.ex;have hc:=mF (E:=E) CU hta vN htb;obtain⟨UF,Uz,UG,UA,UH,UB,UI,UC,UJ,UD,UK,UE,ey,-,-,-,Py,Oy⟩:=dC CU;injection ey with ey
  subst ey;simp only[↓aL,aM,aJ,↓reduceIte,aa,ah,ae,hl,g0,g2,g4,g8,g9,g10,d1,kg,ci,pa,hc,Pt,Py];exact⟨i,_,rfl,by omega⟩
 have d1:decide ((i:Int)<(j:Int))=true:=bj;have w1:=wz (z:=(i:Int)+(j:Int)) (m:=i+j);have w2:aW .u64 ((i+j:Nat):Int)=((i+j:Nat):Int):=wrap_u64;have se:∀{c:Bool} {t:Nat},cp E c .shr t (.int .u64 ((i+j:Nat):Int)) (.int .u64 1)=some (.int .u64 (((i+j)/2:Nat):Int)):=by
  intro c t
  have:=BA (E:=E) (c:=c) (t:=t) (k:=.u64) (k':=.u64) (a:=i+j) (n:=1)
  simpa using this
 have Jn:(i+j)/2<l.length:=by omega
 have hmi:i<=(i+j)/2:=by omega
 have hmj:(i+j)/2<j:=by omega
 generalize(i+j)/2=m at se Jn hmi hmj;have w3:aW .i64 ((m:Nat):Int)=((m:Nat):Int):=wz rfl;have w4:=wz (z:=(m:Int)+1) (m:=m+1);have C4:AV.aK l.flatten l.length=va:=by rw[SE];exact(gf).symm
 rw[<-C4]at g0;have ci:=eP (i:=m) (n:=l.length) Jn;have pa:=rU hv Jn;have pf:=hv _ (aMg Jn);generalize l[m]=row at pa pf;obtain⟨a2,CU,vN⟩:=pf.ex;have hc:=mF (E:=E) CU hta vN htb;obtain⟨UF,Uz,UG,UA,UH,UB,UI,UC,UJ,UD,UK,UE,ey,-,-,-,Py,Oy⟩:=dC CU;injection ey with ey
 subst ey;generalize O8 a2 ta=z at hc;by_cases hz:z<0
 ·have e1:decide (z<0)=true:=bj hz;simp only[↓aL,aM,aJ,↓reduceIte,aa,ah,ae,↓ef yx Uw,↓ef Uw yx,hl,g0,g2,g4,g9,g10,d1,kg,w1,w2,w3,w4,se,ci,pa,hc,Pt,Py,e1,eL];refine bI ?_;refine⟨_,?_,m+1,j,rfl,(by simp[bc,hl]),?_⟩
  ·first|omega|(simp;omega)
  simp only[aY,hl,aa,ae,g0,g2,g4,g8,g10]
  iterate 7 refine cI ?_
  refine⟨?_,?_⟩
  ·omega
  ·omega
 ·have e1:decide (z<0)=false:=bh hz;simp only[↓aL,aM,aJ,↓reduceIte,aa,ah,ae,↓ef yx Uw,↓ef Uw yx,hl,g0,g2,g4,g9,g10,d1,kg,w1,w2,w3,se,ci,pa,hc,Pt,Py,e1,eL];refine bI ?_;refine⟨_,?_,i,m,rfl,(by simp[bc,hl]),?_⟩
  ·first|omega|(simp;omega)
  simp only[aY,hl,aa,ae,g0,g2,g4,g8,g9]
  iterate 7 refine cI ?_
  refine⟨?_,?_⟩
  ·omega
  ·omega
def Ov{v:AV}(h:kD v v0){k:Nat}(hb:BV k v0)(hk:k<=1000000):
  aP E 126 [v]=some (.tuple [.agg [.bool false,.aH,.bool false,.aH,.bool false,.aH,.bool false,.aH,.bool false,.aH,.bool false,.aH],.int .i64 19]):=by
 suffices hh:∃r,aP E 126 [v]=some r/\r=.tuple [.agg [.bool false,.aH,.bool false,.aH,.bool false,.aH,.bool false,.aH,.bool false,.aH,.bool false,.aH],.int .i64 19]by obtain⟨r,h1,rfl⟩:=hh;exact h1
 have hz:=tR (E:=E) h hb;rw[bj rfl]at hz;obtain⟨xt,wk,xu,wo,zg,y9,zj,za,zk,zd,zm,zf,rfl,-,-,-,P,O⟩:=dC h;refine nY agf ?_;intro ts hl g0;unfold aih;simp only[↓aL,aM,↓aS,aJ,↓reduceIte,aa,ah,ae,Tryz.f126,hl,g0,hz,P]
def kU{s:Nat}:∀{l:List (List AV)} (p:Nat),(∀r∈l,r.length=s)->l.flatten.take (p*s)=(l.take p).flatten
 |[],p,_=>by simp
 |r::l,0,_=>by simp
 |r::l,p+1,h=>by
  have hr:=h r (by simp);have ih:=kU (l:=l) p fun x hx=>h x (by simp[hx])
  rw[aPX,List.take_succ_cons,aPX,Nat.add_mul,Nat.one_mul,Nat.add_comm,<-hr,List.take_length_add_append,hr,ih]
def nX{s:Nat}:∀{l:List (List AV)} (p:Nat),(∀r∈l,r.length=s)->l.flatten.drop (p*s)=(l.drop p).flatten
 |[],p,_=>by simp
 |r::l,0,_=>by simp
 |r::l,p+1,h=>by
  have hr:=h r (by simp);have ih:=nX (l:=l) p fun x hx=>h x (by simp[hx])
  rw[aPX,List.drop_succ_cons,Nat.add_mul,Nat.one_mul,Nat.add_comm,<-hr,List.drop_length_add_append,hr,ih]
def pP{al:List AV}{H H':Hp}{r:AV}(h:Ju al H=some (r,H')):cV E 215 al H=some (r,H'):=by
 have kh:E.rH 215 al H=some (r,H'):=by rw[C.rH,Zn];exact h
 exact zB ⟨0,by unfold kQ;rw[kh]⟩
def ams(a b:V3):V3:=⟨a.x-b.x,a.y-b.y,a.z-b.z⟩
def T4{k l:Nat}{a b:V3}(ba:BV k a)(bb:BV l b):BV (k+l+1) (ams a b):=⟨ba.1.sub bb.1,ba.2.1.sub bb.2.1,ba.2.2.sub bb.2.2⟩
def aat{k:Nat}{a:V3}(h:BV k a):BV (k+2) (amr a):=⟨(PJ.sub h.1).mono (by omega),(PJ.sub h.2.1).mono (by omega),(PJ.sub h.2.2).mono (by omega)⟩
def T5{v w:AV}{a b:V3}(h:kD v a)(h':kD w b){k l:Nat}(ba:BV k a)(bb:BV l b)(hk:k+l<=100000000000):∃r,aP E 141 [v,w]=some r/\kD r (ams a b):=by obtain⟨r,hr,ir⟩:=uD (E:=E) (f:=152) (fc:=[]) agQ rfl h h' (c:=ams a b) (fun x y hx hy=>mw (E:=E) hx hy ba.1 bb.1 hk) (fun x y hx hy=>mw (E:=E) hx hy ba.2.1 bb.2.1 hk) (fun x y hx hy=>mw (E:=E) hx hy ba.2.2 bb.2.2 hk);obtain⟨n0,m0,n1,m1,n2,m2,n3,m3,n4,m4,n5,m5,rfl,-,-,-,P,O⟩:=dC h;obtain⟨p0,q0,p1,q1,p2,q2,p3,q3,p4,q4,p5,q5,rfl,-,-,-,P',O'⟩:=dC h';obtain⟨s0,t0,s1,t1,s2,t2,s3,t3,s4,t4,s5,t5,rfl,-,-,-,P2,O2⟩:=dC ir;refine oA aq3 ?_;intro ts hl g0 g1;unfold aoA;simp only[↓aL,aM,↓aS,aJ,↓reduceIte,aa,ah,ae,Tryz.f141,hl,g0,g1,P,P',P2,O2,hr];exact ir
def Ow{v:AV}{a:V3}(h:kD v a){k:Nat}(ba:BV k a)(hk:k<=1000000):∃(r:List AV) (c:Int),aP E 126 [v]=some (.tuple [.agg r,.int .i64 c])/\gL (8*k+2) r:=by
 by_cases hz:a=v0
 ·subst hz;exact⟨_,_,Ov h ba hk,⟨v0,Pe,bv0.mono (by omega)⟩⟩
 ·obtain⟨r,h1,h2⟩:=ug (E:=E) h ba (by omega) hz;obtain⟨xt,wk,xu,wo,zg,y9,zj,za,zk,zd,zm,zf,rfl,-⟩:=id h2;exact⟨_,_,h1,⟨_,h2,Gi ba hz⟩⟩
def r8{s:Sh}(hs:q9 s):
  ∃r,aP E 173 [.agg (qq s)]=some r/\∃l:Rws,r=lW l.flatten l.length/\(∀r∈l,gL 300 r)/\l.length<=64:=by
 obtain⟨vs,fs,es⟩:=s;have hv:∀r∈vs,gL 13 r:=hs.vs;have hv8:vs.length<=8:=hs.n8;have y8:∀e∈es,e.1<vs.length/\e.2.1<vs.length:=hs.es;have aG4:es.length<=64:=hs.e64;obtain⟨va,SE⟩:∃va,va=lW vs.flatten vs.length:=⟨_,rfl⟩;obtain⟨fa,hfa⟩:∃fa,fa=lW (xi fs) fs.length:=⟨_,rfl⟩;obtain⟨ea,hea⟩:∃ea,ea=lW (r9 es) es.length:=⟨_,rfl⟩;have se:qq ⟨vs,fs,es⟩=[va,fa,ea]:=by rw[SE,hfa,hea];rfl
 rw[se];have hle:lH ea=some ((es.length:Nat):Int):=by rw[hea];exact nV
 have oo:cN va=true/\cN fa=true/\cN ea=true:=⟨by rw[SE];exact mE,by rw[hfa];exact mE,by rw[hea];exact mE⟩;refine nY arn ?_;intro ts hl g0;unfold aoR;simp only[↓aL,aM,aJ,aa,ae,Tryz.f173,hl,g0,hle];refine cC (fun k_ ts H=>∃i:Nat,∃v:AV,∃l:Rws,∃H1:Hp,k_=(es.length-i:Nat)/\ts.length=55/\gt ts 1=.bK 0 0/\gt ts 3=v/\gt ts 11=ea/\gt ts 12=.int .i64 (es.length:Int)/\gt ts 13=.int .i64 (i:Int)/\H=H1/\(i<=es.length)/\(H1[0]?=some (.cells .live [va,fa,ea]))/\(∀r∈l,gL 300 r)/\(l.length<=i)/\(uy 12 1 v H1 l.length l.flatten)) (es.length) ?_ ?_
 rotate_left
 ·refine⟨0,.aH,[],[.cells .live [va,fa,ea]],(by first|omega|rfl|simp),(by simp[bc,hl]),?_⟩;simp only[aY,hl,aa,ae]
  iterate 6 refine cI ?_
  refine⟨?_,?_,?_,?_,?_⟩
  ·first|omega|trivial
  ·first|rfl|trivial
  ·first|(intro r hr;cases hr)|trivial
  ·first|exact Nat.le_refl _|trivial
  ·first|exact .inl ⟨rfl,rfl,rfl⟩|trivial
 clear hl g0 ts;rintro k_ ts H ⟨i,v,l,H1,rfl,hl,g1,g3,g11,g12,g13,rfl,hi,h0,o8,hll,C2⟩;refine VS ?_;by_cases hd:i<es.length
 rotate_left
 ·have d1:decide ((i:Int)<(es.length:Int))=false:=bh (by omega);obtain⟨bs,gH⟩:=C2.fz (oT o8) (vF o8);simp only[↓aL,aM,↓reduceIte,aa,ae,hl,g3,g12,g13,d1,gH];exact⟨l,rfl,o8,by omega⟩
 have d1:decide ((i:Int)<(es.length:Int))=true:=bj;have hex:AV.aK (r9 es) es.length=ea:=by rw[hea];exact(gf).symm
 rw[<-hex]at g11;have ci:=eP (i:=i) (n:=es.length) hd;have lP:=wz (z:=(i:Int)+1) (m:=i+1);have pe:eW true 4 (r9 es) (i*4)=some (.agg (PX es[i])):=by
  have h1:(es.map PX)[i]?=some (PX es[i]):=by rw[aM4,aL6 hd];rfl
  have h2:=jC (Cu es) h1;have h3:=iM (Cu es) (j:=i) (by simpa using hd);unfold r9;rw[jd (s:=4) h3,h2]
 have heo:=y8 _ (aMg hd);generalize es[i]=ed at pe heo;obtain⟨x,y,f0,f1⟩:=ed;simp only[PX]at pe;obtain⟨hx,hy⟩:x<vs.length/\y<vs.length:=heo;have C4:AV.aK vs.flatten vs.length=va:=by rw[SE];exact(gf).symm
 have cx:=eP (i:=x) (n:=vs.length) hx;have cy:=eP (i:=y) (n:=vs.length) hy;have px:=rU hv hx;have py:=rU hv hy;obtain⟨ax,Ul,hbx⟩:=(hv _ (aMg hx)).ex;obtain⟨ay,hay,hby⟩:=(hv _ (aMg hy)).ex;generalize vs[x]=rx at px Ul;generalize vs[y]=ry at py hay;obtain⟨sb,hsb,hVs⟩:=T5 (E:=E) hay Ul hby hbx (by omega);have BG:=T4 hby hbx;obtain⟨pr,pc,hpr,agI⟩:=Ow (E:=E) hVs BG (by omega);obtain⟨ap,hap,hbp⟩:=agI.ex;have hcm:=mF (E:=E) hap Pe hbp bv0;obtain⟨ng,hng,hVn⟩:=T3 (E:=E) hap hbp (by omega);have Xg:=aat hbp;obtain⟨xt,wk,xu,wo,zg,y9,zj,za,zk,zd,zm,zf,ex,-,-,-,Px,Ox⟩:=dC Ul;injection ex with ex
 subst ex;obtain⟨UF,Uz,UG,UA,UH,UB,UI,UC,UJ,UD,UK,UE,ey,-,-,-,Py,Oy⟩:=dC hay;injection ey with ey
 subst ey;obtain⟨sn0,sm0,sn1,sm1,sn2,sm2,sn3,sm3,sn4,sm4,sn5,sm5,rfl,-,-,-,Ps,Os⟩:=dC hVs;obtain⟨uW,uQ,uY,uR,uZ,uS,ve,uT,vf,uU,vg,uV,ep,-,-,-,Pp,Op⟩:=dC hap;injection ep with ep
 subst ep;obtain⟨jq,jm,jr,ja,jt,jb,ju,jc,jv,jn,jw,jo,rfl,-,-,-,Pn,On⟩:=dC hVn;have qp:gL 300 [.bool uW,uQ,.bool uY,uR,.bool uZ,uS,.bool ve,uT,.bool vf,uU,.bool vg,uV]:=agI.mono (by omega);have Qp:gL 300 [.bool jq,jm,.bool jr,ja,.bool jt,jb,.bool ju,jc,.bool jv,jn,.bool jw,jo]:=⟨_,hVn,Xg.mono (by omega)⟩;have Xv:1<=H.length:=by have:=(aLq.1 h0).1;omega
 have Fh:∀{T:Hp},cellAt (H++T) 0 0=some va:=by intro T;rw[bY,aOr (by omega),h0];rfl
 have n1:∀{j:Nat},(0==H.length+j)=false:=fun{j}=>beq_eq_false_iff_ne.2 (by omega)
 have n2:∀{j:Nat},(H.length+j==0)=false:=fun{j}=>beq_eq_false_iff_ne.2 (by omega)
 rw[<-C4]at Fh;generalize O8 ap v0=zc at hcm;by_cases hzc:zc<0
 ·have ez:decide (zc<0)=true:=bj hzc;have tP:gL 300 [.bool jq,jm,.bool jr,ja,.bool jt,jb,.bool ju,jc,.bool jv,jn,.bool jw,jo]:=Qp;have hoD:=tP.one;obtain⟨br,Xh,pp,fd,rfl,hpp⟩:=xY (E:=E) (K:=300) o8 tP;obtain⟨ub,akm⟩:=(C2.app (l:=[.cells .live [.int .i64 (x:Int),.int .i64 (y:Int),.int .i64 (f0:Int),.int .i64 (f1:Int)],.cells .live [.bool jq,jm,.bool jr,ja,.bool jt,jb,.bool ju,jc,.bool jv,jn,.bool jw,jo]])).fr (oT o8) (ft.flat (vF o8));obtain⟨u,gH⟩:∃u,sI (aU v) (H++[.cells .live [.int .i64 (x:Int),.int .i64 (y:Int),.int .i64 (f0:Int),.int .i64 (f1:Int)],.cells .live [.bool jq,jm,.bool jr,ja,.bool jt,jb,.bool ju,jc,.bool jv,jn,.bool jw,jo]]) [v,.agg [.bool jq,jm,.bool jr,ja,.bool jt,jb,.bool ju,jc,.bool jv,jn,.bool jw,jo],.func 187 [] []]=some ([lW l.flatten l.length,.agg [.bool jq,jm,.bool jr,ja,.bool jt,jb,.bool ju,jc,.bool jv,jn,.bool jw,jo],.func 187 [] []],u):=by
   have h:=Pq (H:=H++[.cells .live [.int .i64 (x:Int),.int .i64 (y:Int),.int .i64 (f0:Int),.int .i64 (f1:Int)],.cells .live [.bool jq,jm,.bool jr,ja,.bool jt,jb,.bool ju,jc,.bool jv,jn,.bool jw,jo]]) (m:=2) (ft.cons akm (ft.cons (Fr.agg (ft.flat tP.flat)) (ft.cons ((Fr.flat CJ).up (by omega)) ft.nil))) (by omega) (l:=[v,.agg [.bool jq,jm,.bool jr,ja,.bool jt,jb,.bool ju,jc,.bool jv,jn,.bool jw,jo],.func 187 [] []]) (fun hp=>by
    have EF:aU v=true:=by simp only[aV,aM6]at hp;exact hp.1
    rw[C2.Rf EF])
   rw[show aV [v,.agg [.bool jq,jm,.bool jr,ja,.bool jt,jb,.bool ju,jc,.bool jv,jn,.bool jw,jo],.func 187 [] []]=aU v by simp[aV,aU,Pn]]at h;exact h
  have hrt:bQ (.tuple [.int .i64 ((pp:Nat):Int),.bool fd])=true:=rfl;cases fd
  rotate_left
  ·simp only[↓aL,aM,↓aS,aJ,ct,↓reduceIte,aa,ah,ae,hl,g1,g3,g11,g12,g13,ci,lP,pe,Fh,cx,cy,px,py,hsb,hpr,hcm,ez,hng,n1,Px,Py,Ps,Pp,Pn,Op,On,gH,Xh,eL,hrt,aUi,aL9];refine bI ?_;refine⟨_,?_,i+1,v,l,(H++[.cells .live [.int .i64 (x:Int),.int .i64 (y:Int),.int .i64 (f0:Int),.int .i64 (f1:Int)],.cells .live [.bool jq,jm,.bool jr,ja,.bool jt,jb,.bool ju,jc,.bool jv,jn,.bool jw,jo]]),rfl,(by simp[bc,hl]),?_⟩
   ·first|omega|(simp;omega)
   simp only[aY,hl,aa,ae,g1,g3,g11,g12]
   iterate 6 refine cI ?_
   refine⟨?_,?_,?_,?_,?_⟩
   ·omega
   ·rw[aOr (by omega)];exact h0
   ·exact o8
   ·omega
   ·exact C2.app
  have Xi:∀aR,bZ E aR 135 1 [(0,AV.agg [.bool jq,jm,.bool jr,ja,.bool jt,jb,.bool ju,jc,.bool jv,jn,.bool jw,jo])]=some (.aI aR 0 1 12 1,[(aR,.cells .live [.bool jq,jm,.bool jr,ja,.bool jt,jb,.bool ju,jc,.bool jv,jn,.bool jw,jo])]):=fun aR=>lk AX rfl (by decide) (by decide) rfl
  have hcD:(H++[cE.cells .live [.int .i64 (x:Int),.int .i64 (y:Int),.int .i64 (f0:Int),.int .i64 (f1:Int)],.cells .live [.bool jq,jm,.bool jr,ja,.bool jt,jb,.bool ju,jc,.bool jv,jn,.bool jw,jo],.cells .live [.bool jq,jm,.bool jr,ja,.bool jt,jb,.bool ju,jc,.bool jv,jn,.bool jw,jo]])[H.length+2]?=some (.cells .live [.bool jq,jm,.bool jr,ja,.bool jt,jb,.bool ju,jc,.bool jv,jn,.bool jw,jo]):=by simp
  have hHl:(H++[cE.cells .live [.int .i64 (x:Int),.int .i64 (y:Int),.int .i64 (f0:Int),.int .i64 (f1:Int)],.cells .live [.bool jq,jm,.bool jr,ja,.bool jt,jb,.bool ju,jc,.bool jv,jn,.bool jw,jo],.cells .live [.bool jq,jm,.bool jr,ja,.bool jt,jb,.bool ju,jc,.bool jv,jn,.bool jw,jo]]).length=H.length+3:=by simp
  rcases C2 with⟨e0,e1,rfl⟩|⟨k0,b,bL,bl,rfl,hb⟩
  ·have MW:cV E 215 [.aH,.int .i64 ((pp:Nat):Int),.aI (H.length+2) 0 1 12 1] (H++[.cells .live [.int .i64 (x:Int),.int .i64 (y:Int),.int .i64 (f0:Int),.int .i64 (f1:Int)],.cells .live [.bool jq,jm,.bool jr,ja,.bool jt,jb,.bool ju,jc,.bool jv,jn,.bool jw,jo],.cells .live [.bool jq,jm,.bool jr,ja,.bool jt,jb,.bool ju,jc,.bool jv,jn,.bool jw,jo]])=some (.aI (H.length+3) 0 1 12 1,H++[.cells .live [.int .i64 (x:Int),.int .i64 (y:Int),.int .i64 (f0:Int),.int .i64 (f1:Int)],.cells .live [.bool jq,jm,.bool jr,ja,.bool jt,jb,.bool ju,jc,.bool jv,jn,.bool jw,jo],.cells .live [.bool jq,jm,.bool jr,ja,.bool jt,jb,.bool ju,jc,.bool jv,jn,.bool jw,jo],.cells .live [.bool jq,jm,.bool jr,ja,.bool jt,jb,.bool ju,jc,.bool jv,jn,.bool jw,jo]]):=by
    have sC:pp=0:=by omega
    have h:=Jw hcD rfl hoD;rw[hHl,aUi]at h;rw[sC];exact pP h
   rw[show lW l.flatten l.length=.aH by rw[e1,e0];rfl]at Xh;simp only[↓aL,aM,↓aS,aJ,ct,↓reduceIte,aa,ah,ae,hl,g1,g3,g11,g12,g13,ci,lP,pe,Fh,cx,cy,px,py,hsb,hpr,hcm,ez,hng,n1,Px,Py,Ps,Pp,Pn,Op,On,Xh,eL,hrt,Xi,MW,aUi,aL9];refine bI ?_;refine⟨_,?_,i+1,(.aI (H.length+3) 0 1 12 1),[[.bool jq,jm,.bool jr,ja,.bool jt,jb,.bool ju,jc,.bool jv,jn,.bool jw,jo]],(H++[.cells .live [.int .i64 (x:Int),.int .i64 (y:Int),.int .i64 (f0:Int),.int .i64 (f1:Int)],.cells .live [.bool jq,jm,.bool jr,ja,.bool jt,jb,.bool ju,jc,.bool jv,jn,.bool jw,jo],.cells .live [.bool jq,jm,.bool jr,ja,.bool jt,jb,.bool ju,jc,.bool jv,jn,.bool jw,jo],.cells .live [.bool jq,jm,.bool jr,ja,.bool jt,jb,.bool ju,jc,.bool jv,jn,.bool jw,jo]]),rfl,(by simp[bc,hl]),?_⟩
   ·first|omega|(simp;omega)
   simp only[aY,hl,aa,ae,g1,g11,g12]
   iterate 6 refine cI ?_
   refine⟨?_,?_,?_,?_,?_⟩
   ·omega
   ·rw[aOr (by omega)];exact h0
   ·intro r hr;rw[aNh]at hr;subst hr;exact tP
   ·simp
   ·exact .inr ⟨by simp,H.length+3,by omega,by simp,rfl,by simp⟩
  rw[show aU (.aI b 0 l.length 12 l.length)=false from rfl]at gH;rw[gf k0]at Xh gH;obtain⟨H3,su⟩:∃H3,H3=H.set b (.cells .dead []):=⟨_,rfl⟩;have Iu:H3.length=H.length:=by rw[su];simp
  obtain⟨l2,yk⟩:∃l2,l2=l.take pp++[[.bool jq,jm,.bool jr,ja,.bool jt,jb,.bool ju,jc,.bool jv,jn,.bool jw,jo]]++l.drop pp:=⟨_,rfl⟩;have aku:l2.length=l.length+1:=by rw[yk];simp;omega
  have akv:∀r∈l2,gL 300 r:=by
   intro r hr;rw[yk]at hr;rcases aM7.1 hr with hr|hr
   ·rcases aM7.1 hr with hr|hr
    ·exact o8 r (aRC hr)
    ·rw[aNh]at hr;subst hr;exact tP
   ·exact o8 r (aPs hr)
  have akt:l2.flatten=l.flatten.take (pp*12)++[.bool jq,jm,.bool jr,ja,.bool jt,jb,.bool ju,jc,.bool jv,jn,.bool jw,jo]++l.flatten.drop (pp*12):=by
   rw[yk,kU pp (j9 o8),nX pp (j9 o8),aWV,aWV];simp
  have MW:cV E 215 [.aI b 0 l.length 12 l.length,.int .i64 ((pp:Nat):Int),.aI (H.length+2) 0 1 12 1] (H++[.cells .live [.int .i64 (x:Int),.int .i64 (y:Int),.int .i64 (f0:Int),.int .i64 (f1:Int)],.cells .live [.bool jq,jm,.bool jr,ja,.bool jt,jb,.bool ju,jc,.bool jv,jn,.bool jw,jo],.cells .live [.bool jq,jm,.bool jr,ja,.bool jt,jb,.bool ju,jc,.bool jv,jn,.bool jw,jo]])=some (.aI (H.length+3) 0 (l.length+1) 12 (l.length+1),H3++[.cells .live [.int .i64 (x:Int),.int .i64 (y:Int),.int .i64 (f0:Int),.int .i64 (f1:Int)],.cells .live [.bool jq,jm,.bool jr,ja,.bool jt,jb,.bool ju,jc,.bool jv,jn,.bool jw,jo],.cells .live [.bool jq,jm,.bool jr,ja,.bool jt,jb,.bool ju,jc,.bool jv,jn,.bool jw,jo],.cells .live l2.flatten]):=by have h:=Jv hcD rfl hoD (b:=b) (n:=l.length) (i:=pp) (cs:=l.flatten) (by rw[aOr bl];exact hb) (oT o8) (D0 o8) k0 (by omega) hpp;rw[hHl,aWg _ _ bl,<-su,<-akt,aUi]at h;exact pP h
  simp only[↓aL,aM,↓aS,aJ,ct,↓reduceIte,aa,ah,ae,hl,g1,g3,g11,g12,g13,ci,lP,pe,Fh,cx,cy,px,py,hsb,hpr,hcm,ez,hng,n1,Px,Py,Ps,Pp,Pn,Op,On,gH,Xh,eL,hrt,Xi,MW,aUi,aL9];refine bI ?_;refine⟨_,?_,i+1,(.aI (H.length+3) 0 (l.length+1) 12 (l.length+1)),l2,(H3++[.cells .live [.int .i64 (x:Int),.int .i64 (y:Int),.int .i64 (f0:Int),.int .i64 (f1:Int)],.cells .live [.bool jq,jm,.bool jr,ja,.bool jt,jb,.bool ju,jc,.bool jv,jn,.bool jw,jo],.cells .live [.bool jq,jm,.bool jr,ja,.bool jt,jb,.bool ju,jc,.bool jv,jn,.bool jw,jo],.cells .live l2.flatten]),rfl,(by simp[bc,hl]),?_⟩
  ·first|omega|(simp;omega)
  simp only[aY,hl,aa,ae,g1,g11,g12]
  iterate 6 refine cI ?_
  refine⟨?_,?_,?_,?_,?_⟩
  ·omega
  ·rw[aOr (by omega),su,aOj (by omega)];exact h0
  ·exact akv
  ·omega
  ·rw[aku];exact .inr ⟨by omega,H.length+3,by omega,by simp[Iu],rfl,by rw[<-Iu];simp⟩
 ·have ez:decide (zc<0)=false:=bh hzc;have tP:gL 300 [.bool uW,uQ,.bool uY,uR,.bool uZ,uS,.bool ve,uT,.bool vf,uU,.bool vg,uV]:=qp;have hoD:=tP.one;obtain⟨br,Xh,pp,fd,rfl,hpp⟩:=xY (E:=E) (K:=300) o8 tP;obtain⟨ub,akm⟩:=(C2.app (l:=[.cells .live [.int .i64 (x:Int),.int .i64 (y:Int),.int .i64 (f0:Int),.int .i64 (f1:Int)],.cells .live [.bool uW,uQ,.bool uY,uR,.bool uZ,uS,.bool ve,uT,.bool vf,uU,.bool vg,uV]])).fr (oT o8) (ft.flat (vF o8));obtain⟨u,gH⟩:∃u,sI (aU v) (H++[.cells .live [.int .i64 (x:Int),.int .i64 (y:Int),.int .i64 (f0:Int),.int .i64 (f1:Int)],.cells .live [.bool uW,uQ,.bool uY,uR,.bool uZ,uS,.bool ve,uT,.bool vf,uU,.bool vg,uV]]) [v,.agg [.bool uW,uQ,.bool uY,uR,.bool uZ,uS,.bool ve,uT,.bool vf,uU,.bool vg,uV],.func 187 [] []]=some ([lW l.flatten l.length,.agg [.bool uW,uQ,.bool uY,uR,.bool uZ,uS,.bool ve,uT,.bool vf,uU,.bool vg,uV],.func 187 [] []],u):=by
   have h:=Pq (H:=H++[.cells .live [.int .i64 (x:Int),.int .i64 (y:Int),.int .i64 (f0:Int),.int .i64 (f1:Int)],.cells .live [.bool uW,uQ,.bool uY,uR,.bool uZ,uS,.bool ve,uT,.bool vf,uU,.bool vg,uV]]) (m:=2) (ft.cons akm (ft.cons (Fr.agg (ft.flat tP.flat)) (ft.cons ((Fr.flat CJ).up (by omega)) ft.nil))) (by omega) (l:=[v,.agg [.bool uW,uQ,.bool uY,uR,.bool uZ,uS,.bool ve,uT,.bool vf,uU,.bool vg,uV],.func 187 [] []]) (fun hp=>by
    have EF:aU v=true:=by simp only[aV,aM6]at hp;exact hp.1
    rw[C2.Rf EF])
   rw[show aV [v,.agg [.bool uW,uQ,.bool uY,uR,.bool uZ,uS,.bool ve,uT,.bool vf,uU,.bool vg,uV],.func 187 [] []]=aU v by simp[aV,aU,Pp]]at h;exact h
  have hrt:bQ (.tuple [.int .i64 ((pp:Nat):Int),.bool fd])=true:=rfl;cases fd
  rotate_left
  ·simp only[↓aL,aM,↓aS,aJ,ct,↓reduceIte,aa,ah,ae,hl,g1,g3,g11,g12,g13,ci,lP,pe,Fh,cx,cy,px,py,hsb,hpr,hcm,ez,n1,Px,Py,Ps,Pp,Op,gH,Xh,eL,hrt,aUi,aL9];refine bI ?_;refine⟨_,?_,i+1,v,l,(H++[.cells .live [.int .i64 (x:Int),.int .i64 (y:Int),.int .i64 (f0:Int),.int .i64 (f1:Int)],.cells .live [.bool uW,uQ,.bool uY,uR,.bool uZ,uS,.bool ve,uT,.bool vf,uU,.bool vg,uV]]),rfl,(by simp[bc,hl]),?_⟩
   ·first|omega|(simp;omega)
   simp only[aY,hl,aa,ae,g1,g3,g11,g12]
   iterate 6 refine cI ?_
   refine⟨?_,?_,?_,?_,?_⟩
   ·omega
   ·rw[aOr (by omega)];exact h0
   ·exact o8
   ·omega
   ·exact C2.app
  have Xi:∀aR,bZ E aR 135 1 [(0,AV.agg [.bool uW,uQ,.bool uY,uR,.bool uZ,uS,.bool ve,uT,.bool vf,uU,.bool vg,uV])]=some (.aI aR 0 1 12 1,[(aR,.cells .live [.bool uW,uQ,.bool uY,uR,.bool uZ,uS,.bool ve,uT,.bool vf,uU,.bool vg,uV])]):=fun aR=>lk AX rfl (by decide) (by decide) rfl
  have hcD:(H++[cE.cells .live [.int .i64 (x:Int),.int .i64 (y:Int),.int .i64 (f0:Int),.int .i64 (f1:Int)],.cells .live [.bool uW,uQ,.bool uY,uR,.bool uZ,uS,.bool ve,uT,.bool vf,uU,.bool vg,uV],.cells .live [.bool uW,uQ,.bool uY,uR,.bool uZ,uS,.bool ve,uT,.bool vf,uU,.bool vg,uV]])[H.length+2]?=some (.cells .live [.bool uW,uQ,.bool uY,uR,.bool uZ,uS,.bool ve,uT,.bool vf,uU,.bool vg,uV]):=by simp
  have hHl:(H++[cE.cells .live [.int .i64 (x:Int),.int .i64 (y:Int),.int .i64 (f0:Int),.int .i64 (f1:Int)],.cells .live [.bool uW,uQ,.bool uY,uR,.bool uZ,uS,.bool ve,uT,.bool vf,uU,.bool vg,uV],.cells .live [.bool uW,uQ,.bool uY,uR,.bool uZ,uS,.bool ve,uT,.bool vf,uU,.bool vg,uV]]).length=H.length+3:=by simp
  rcases C2 with⟨e0,e1,rfl⟩|⟨k0,b,bL,bl,rfl,hb⟩
  ·have MW:cV E 215 [.aH,.int .i64 ((pp:Nat):Int),.aI (H.length+2) 0 1 12 1] (H++[.cells .live [.int .i64 (x:Int),.int .i64 (y:Int),.int .i64 (f0:Int),.int .i64 (f1:Int)],.cells .live [.bool uW,uQ,.bool uY,uR,.bool uZ,uS,.bool ve,uT,.bool vf,uU,.bool vg,uV],.cells .live [.bool uW,uQ,.bool uY,uR,.bool uZ,uS,.bool ve,uT,.bool vf,uU,.bool vg,uV]])=some (.aI (H.length+3) 0 1 12 1,H++[.cells .live [.int .i64 (x:Int),.int .i64 (y:Int),.int .i64 (f0:Int),.int .i64 (f1:Int)],.cells .live [.bool uW,uQ,.bool uY,uR,.bool uZ,uS,.bool ve,uT,.bool vf,uU,.bool vg,uV],.cells .live [.bool uW,uQ,.bool uY,uR,.bool uZ,uS,.bool ve,uT,.bool vf,uU,.bool vg,uV],.cells .live [.bool uW,uQ,.bool uY,uR,.bool uZ,uS,.bool ve,uT,.bool vf,uU,.bool vg,uV]]):=by
    have sC:pp=0:=by omega
    have h:=Jw hcD rfl hoD;rw[hHl,aUi]at h;rw[sC];exact pP h
   rw[show lW l.flatten l.length=.aH by rw[e1,e0];rfl]at Xh;simp only[↓aL,aM,↓aS,aJ,ct,↓reduceIte,aa,ah,ae,hl,g1,g3,g11,g12,g13,ci,lP,pe,Fh,cx,cy,px,py,hsb,hpr,hcm,ez,n1,Px,Py,Ps,Pp,Op,Xh,eL,hrt,Xi,MW,aUi,aL9];refine bI ?_;refine⟨_,?_,i+1,(.aI (H.length+3) 0 1 12 1),[[.bool uW,uQ,.bool uY,uR,.bool uZ,uS,.bool ve,uT,.bool vf,uU,.bool vg,uV]],(H++[.cells .live [.int .i64 (x:Int),.int .i64 (y:Int),.int .i64 (f0:Int),.int .i64 (f1:Int)],.cells .live [.bool uW,uQ,.bool uY,uR,.bool uZ,uS,.bool ve,uT,.bool vf,uU,.bool vg,uV],.cells .live [.bool uW,uQ,.bool uY,uR,.bool uZ,uS,.bool ve,uT,.bool vf,uU,.bool vg,uV],.cells .live [.bool uW,uQ,.bool uY,uR,.bool uZ,uS,.bool ve,uT,.bool vf,uU,.bool vg,uV]]),rfl,(by simp[bc,hl]),?_⟩
   ·first|omega|(simp;omega)
   simp only[aY,hl,aa,ae,g1,g11,g12]
   iterate 6 refine cI ?_
   refine⟨?_,?_,?_,?_,?_⟩
   ·omega
   ·rw[aOr (by omega)];exact h0
   ·intro r hr;rw[aNh]at hr;subst hr;exact tP
   ·simp
   ·exact .inr ⟨by simp,H.length+3,by omega,by simp,rfl,by simp⟩
  rw[show aU (.aI b 0 l.length 12 l.length)=false from rfl]at gH;rw[gf k0]at Xh gH;obtain⟨H3,su⟩:∃H3,H3=H.set b (.cells .dead []):=⟨_,rfl⟩;have Iu:H3.length=H.length:=by rw[su];simp
  obtain⟨l2,yk⟩:∃l2,l2=l.take pp++[[.bool uW,uQ,.bool uY,uR,.bool uZ,uS,.bool ve,uT,.bool vf,uU,.bool vg,uV]]++l.drop pp:=⟨_,rfl⟩;have aku:l2.length=l.length+1:=by rw[yk];simp;omega
  have akv:∀r∈l2,gL 300 r:=by
   intro r hr;rw[yk]at hr;rcases aM7.1 hr with hr|hr
   ·rcases aM7.1 hr with hr|hr
    ·exact o8 r (aRC hr)
    ·rw[aNh]at hr;subst hr;exact tP
   ·exact o8 r (aPs hr)
  have akt:l2.flatten=l.flatten.take (pp*12)++[.bool uW,uQ,.bool uY,uR,.bool uZ,uS,.bool ve,uT,.bool vf,uU,.bool vg,uV]++l.flatten.drop (pp*12):=by
   rw[yk,kU pp (j9 o8),nX pp (j9 o8),aWV,aWV];simp
  have MW:cV E 215 [.aI b 0 l.length 12 l.length,.int .i64 ((pp:Nat):Int),.aI (H.length+2) 0 1 12 1] (H++[.cells .live [.int .i64 (x:Int),.int .i64 (y:Int),.int .i64 (f0:Int),.int .i64 (f1:Int)],.cells .live [.bool uW,uQ,.bool uY,uR,.bool uZ,uS,.bool ve,uT,.bool vf,uU,.bool vg,uV],.cells .live [.bool uW,uQ,.bool uY,uR,.bool uZ,uS,.bool ve,uT,.bool vf,uU,.bool vg,uV]])=some (.aI (H.length+3) 0 (l.length+1) 12 (l.length+1),H3++[.cells .live [.int .i64 (x:Int),.int .i64 (y:Int),.int .i64 (f0:Int),.int .i64 (f1:Int)],.cells .live [.bool uW,uQ,.bool uY,uR,.bool uZ,uS,.bool ve,uT,.bool vf,uU,.bool vg,uV],.cells .live [.bool uW,uQ,.bool uY,uR,.bool uZ,uS,.bool ve,uT,.bool vf,uU,.bool vg,uV],.cells .live l2.flatten]):=by have h:=Jv hcD rfl hoD (b:=b) (n:=l.length) (i:=pp) (cs:=l.flatten) (by rw[aOr bl];exact hb) (oT o8) (D0 o8) k0 (by omega) hpp;rw[hHl,aWg _ _ bl,<-su,<-akt,aUi]at h;exact pP h
  simp only[↓aL,aM,↓aS,aJ,ct,↓reduceIte,aa,ah,ae,hl,g1,g3,g11,g12,g13,ci,lP,pe,Fh,cx,cy,px,py,hsb,hpr,hcm,ez,n1,Px,Py,Ps,Pp,Op,gH,Xh,eL,hrt,Xi,MW,aUi,aL9];refine bI ?_;refine⟨_,?_,i+1,(.aI (H.length+3) 0 (l.length+1) 12 (l.length+1)),l2,(H3++[.cells .live [.int .i64 (x:Int),.int .i64 (y:Int),.int .i64 (f0:Int),.int .i64 (f1:Int)],.cells .live [.bool uW,uQ,.bool uY,uR,.bool uZ,uS,.bool ve,uT,.bool vf,uU,.bool vg,uV],.cells .live [.bool uW,uQ,.bool uY,uR,.bool uZ,uS,.bool ve,uT,.bool vf,uU,.bool vg,uV],.cells .live l2.flatten]),rfl,(by simp[bc,hl]),?_⟩
  ·first|omega|(simp;omega)
  simp only[aY,hl,aa,ae,g1,g11,g12]
  iterate 6 refine cI ?_
  refine⟨?_,?_,?_,?_,?_⟩
  ·omega
  ·rw[aOr (by omega),su,aOj (by omega)];exact h0
  ·exact akv
  ·omega
  ·rw[aku];exact .inr ⟨by omega,H.length+3,by omega,by simp[Iu],rfl,by rw[<-Iu];simp⟩
end Go.Proofs.YtmkjgfnicfpjpaaGreatDoor
