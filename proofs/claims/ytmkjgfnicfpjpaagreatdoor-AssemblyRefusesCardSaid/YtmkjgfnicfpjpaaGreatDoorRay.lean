/- Lemmas for AssemblyRefuses; no condition. -/
import Derived.Test.YtmkjgfnicfpjpaaGreatDoorRaj
import Derived.Test.YtmkjgfnicfpjpaaGreatDoorRax
import Derived.Test.YtmkjgfnicfpjpaaGreatDoorTie
import Derived.Test.YtmkjgfnicfpjpaaGreatDoorCards
set_option linter.all false
set_option maxHeartbeats 100000000
set_option maxRecDepth 100000
noncomputable section
open Option renaming some->aLS
open List renaming mem_append_right->aNZ,mem_append_left->aOu
open Bool renaming and_eq_true->aM6
namespace Go.Proofs.YtmkjgfnicfpjpaaGreatDoor
open Go Go.ChangeShapes Go.WideShapes Go.ChangeAt Go.RowKit Go.ChangeMaps Dv
variable{E:Env}[C:Ctx E]
def own:ownKnob Tryz.prog.godebug=none:=by kernel_rfl
def laidOut:laidOutB Tryz.prog=true:=by kernel_rfl
def wh{H:Type}{enc:TypeId×Value->H}{P:Program}(hl:laidOutB P=true){W W':World}{sp:Nat->Bool}(hb:Go.RowKit.Below W.heap.size W W'):∀{ts:List TypeId} {vs:List Value} {ds:List (DataW H)} {ps:List MemPlace},
  (∀t∈ts,P.readableRec t=true/\t<P.types.size)->DataW.TrodAll enc P W 0 (fun _=>true) true ts vs ds ps->(∀p∈ps,p.block<W.heap.size)->(∀p∈ps,sp p.block=true)->DataW.TrodAll enc P W' 0 sp true ts vs ds ps
 |[],[],[],_,_,h,_,_=>h
 |t::ts,v::vs,d::ds,ps,ht,h,eh,hs=>by
  obtain⟨p,p',h1,h2,rfl⟩:=h;have q:=ht t (List.mem_cons_self ..);exact trodAll_cons_mk (WideElems.Trod_stays hl q.1 q.2 h1 (fun x hx=>hb.same (eh x (aOu _ hx))) (fun x hx=>hs x (aOu _ hx)))
   (wh hl hb (fun t ht'=>ht t (List.mem_cons_of_mem _ ht')) h2 (fun x hx=>eh x (aNZ _ hx)) (fun x hx=>hs x (aNZ _ hx)))
 |[],_::_,_,_,_,h,_,_=>by simp[DataW.TrodAll]at h
 |[],[],_::_,_,_,h,_,_=>by simp[DataW.TrodAll]at h
 |_::_,[],_,_,_,h,_,_=>by simp[DataW.TrodAll]at h
 |_::_,_::_,[],_,_,h,_,_=>by simp[DataW.TrodAll]at h
def EW{H:Type}{enc:TypeId×Value->H}{P:Program}{f:Func}{s:ChangeSpec}{apart fresh handsOn again:Bool}{W W':World}{args:Array Value}{v:Value}{ds gs:List (DataW H)}{before pa pv:List MemPlace}
  (hW:DataW.Whole enc P f.params.toList s.vars apart W args.toList ds gs before)
  (il:∀(b:Nat) (sp:Nat->Bool) (hd:Bool),DataW.TrodAll enc P W' b sp hd f.resultTypes.toList (v.resultList f.resultTypes.size) (s.fn H (ds++gs)).results [])
  (qE:∀sp:Nat->Bool,(∀p∈before,sp p.block=true)->DataW.TrodAll enc P W' 0 sp true f.params.toList args.toList (s.fn H (ds++gs)).args pa)
  (agN:∀sp:Nat->Bool,(∀p∈before,sp p.block=true)->DataW.TrodVars enc P W' sp s.vars (s.fn H (ds++gs)).vars pv)
  (hps:before=pa++pv) (hb:Go.RowKit.Below W.heap.size W W')
  (G0:∀(j:Nat) (t:TypeId) (r:Value),f.resultTypes[j]?=some t->(v.resultList f.resultTypes.size)[j]?=some r->Value.okWide P W' .any 0 t r):
  s.post enc P f apart fresh handsOn again W args v W':=by
 have eh:=hW.lt;have hold:∀p∈before,(fun b=>decide (b<W.heap.size)) p.block=true:=fun p hp=>by simpa using hW.lt p hp
 refine⟨ds,gs,before,[],pa,pv,hW,il _ _ _,qE _ hold,agN _ hold,hb.frame _,fun _=>?_⟩;obtain⟨_,_,_,_,_,hz,hn⟩:=hW;refine⟨G0,_,_,([]++pa)++pv,⟨[]++pa,pv,trodAll_append (qE _ (fun _ _=>rfl)) (il _ _ _),agN _ (fun _ _=>rfl),rfl,?_,?_⟩,?_⟩
 ·intro b off hp;have hm:MemPlace.cell b off∈before:=by rw[hps];simpa using hp
  rw[hb.frozen (eh _ hm)];exact hz b off hm
 ·intro ha
  have:=hn ha
  rw[hps]at this;simpa using this
 ·intro p hp _;rw[hps];simpa using hp
def gn1:Tryz.prog.globalNamed "internal/strconv.uint64pow10"=some 1:=by kernel_rfl
def gn6:Tryz.prog.globalNamed "math/bits.deBruijn32tab"=some 7:=by kernel_rfl
def gn7:Tryz.prog.globalNamed "math/bits.deBruijn64tab"=some 0:=by kernel_rfl
def gy1:(Tryz.prog.globals[1]?).map (·.type)=some 367:=by kernel_rfl
def gy6:(Tryz.prog.globals[7]?).map (·.type)=some 402:=by kernel_rfl
def gy7:(Tryz.prog.globals[0]?).map (·.type)=some 338:=by kernel_rfl
def u5:Tryz.prog.underlying 5=some (.int .u8):=by kernel_rfl
def aBP:Tryz.prog.underlying 178=some (.int .u64):=by kernel_rfl
def aBS:Tryz.prog.underlying 367=some (.array 20 178):=by kernel_rfl
def aBT:Tryz.prog.underlying 402=some (.array 32 5):=by kernel_rfl
def aBU:Tryz.prog.underlying 338=some (.array 64 5):=by kernel_rfl
def cz5:Tryz.prog.cellsOf 5=1:=by kernel_rfl
def aqx:Tryz.prog.cellsOf 178=1:=by kernel_rfl
def aqy:Tryz.prog.cellsOf 367=20:=by kernel_rfl
def aqA:Tryz.prog.cellsOf 402=32:=by kernel_rfl
def aqB:Tryz.prog.cellsOf 338=64:=by kernel_rfl
def ahm(k:IntKind)(n:Nat)(tab:List AV)(d:DataW Unit):Bool:=tab.length==n&&(List.range n).all fun i=>match tab[i]?,(match d with|.agg l=>l[i]?|_=>none)with
 |some (.int k' a),some (.lit (.int k'' b))=>a==b&&decide (k'=k)&&decide (k''=k)
 |_,_=>false
def DY{enc:TypeId×Value->Unit}{W:World}{n g te ta:Nat}{k:IntKind}{nm:String}{tab:List AV}{cs:Array Value}{fuel:Nat}{base:Nat}{sp:Nat->Bool}{hd:Bool}{d:DataW Unit}{ps:List MemPlace}
  (hg:Tryz.prog.globalNamed nm=some g) (hue:Tryz.prog.underlying te=some (.int k)) (hua:Tryz.prog.underlying ta=some (.array n te)) (hce:Tryz.prog.cellsOf te=1) (Iq:Tryz.prog.cellsOf ta=n)
  (hv:W.var? Tryz.prog nm=some cs) (hd:DataW.trod enc Tryz.prog W base sp hd fuel ta cs.toList=some (d,ps)) (G0:ahm k n tab d=true:=by kernel_rfl):
  ∃c e f,W.heap[g]?=some (.cells c e f)/\iH cg W (fun _=>False) c 0 tab/\c.size=tab.length:=by
 unfold ahm at G0;rw[aM6,beq_iff_eq]at G0;obtain⟨Xr,qd⟩:=G0;obtain⟨xs,m,rfl,hx1,hlen,hn,sd⟩:=DataW.trod_array hua hd;rw[hce]at sd;rw[Iq]at hlen;have SG:=hv;unfold World.var? at SG;rw[hg]at SG;simp only[Option.bind_some]at SG;split at SG
 case h_2=>cases SG
 rename_i c e f Qj;cases SG;have pN:cs.size=n:=by simpa using hlen
 refine⟨cs,e,f,Qj,iH.gR fun i x hx=>?_,by omega⟩;have hi:i<n:=by have:=(List.getElem?_eq_some_iff.1 hx).1;omega
 have M8:=List.all_eq_true.1 qd i (List.mem_range.2 hi);rw[hx]at M8;have hde:d=.agg (xs.map (·.1)):=congrArg Prod.fst hx1;rw[hde]at M8;have Iw:∃y,xs[i]?=some y:=⟨xs[i],List.getElem?_eq_getElem (by omega)⟩;obtain⟨y,hy⟩:=Iw;have he:=sd i hi;rw[hy]at he;obtain⟨z,e1,e2,_⟩:=DataW.trod_int hue he;simp only[List.getElem?_map,hy,Option.map_some,e2]at M8;split at M8
 case h_2=>cases M8
 rename_i k' a k'' b q1 q2;cases q1;simp only[aLS.injEq,DataW.lit.injEq,Lit.int.injEq]at q2;obtain⟨rfl,rfl⟩:=q2;simp only[aM6,beq_iff_eq,decide_eq_true_eq]at M8;obtain⟨⟨rfl,rfl⟩,-⟩:=M8;refine⟨.int k' a,?_,by simp[R]⟩;rw[Nat.zero_add,Nat.mul_one]at*
 have:(cs.toList.drop i).take 1=[.int k' a]:=e1
 rw[<-Array.getElem?_toList];have h0:=congrArg (fun l=>l[0]?) this;simpa[List.getElem?_take,List.getElem?_drop]using h0
def GV{W:World}(h:laidMetH Tryz.prog Rows.assemblyChecksRow.laid W):xG E0 (fun _=>False) W:=by
 have h':laidMet Tryz.prog Rows.assemblyChecksRow.laid W:=h;obtain⟨ps,⟨g0',t0',cs0,f0,p0,q0,Is,ht0,hv0,hd0,⟨g1',t1',cs1,f1,p1,q1,BH,XL,XN,wO,⟨g2',t2',cs2,f2,p2,q2,hg2,ht2,G5,lN,_,_⟩,_⟩,_⟩,_,_⟩:=h';obtain rfl:=aLS.inj (gn6.symm.trans Is);obtain rfl:=aLS.inj (gn7.symm.trans BH);obtain rfl:=aLS.inj (gn1.symm.trans hg2);obtain rfl:=aLS.inj (gy6.symm.trans ht0);obtain rfl:=aLS.inj (gy7.symm.trans XL);obtain rfl:=aLS.inj (gy1.symm.trans ht2);intro g cs hg;have hg':Xa g=some cs:=hg;unfold Xa at hg';split at hg'
 ·cases hg';obtain⟨c,e,f,h1,h2,h3⟩:=DY (k:=.u8) (n:=64) gn7 u5 aBU cz5 aqB XN wO (tab:=Ly);exact⟨c,e,f,h1,fun h=>h,h2,h3⟩
 ·cases hg';obtain⟨c,e,f,h1,h2,h3⟩:=DY (k:=.u8) (n:=32) gn6 u5 aBT cz5 aqA hv0 hd0 (tab:=ahl);exact⟨c,e,f,h1,fun h=>h,h2,h3⟩
 ·cases hg';obtain⟨c,e,f,h1,h2,h3⟩:=DY (k:=.u64) (n:=20) gn1 aBP aBS aqx aqy G5 lN (tab:=Ag);exact⟨c,e,f,h1,fun h=>h,h2,h3⟩
 ·cases hg'
def firstCells:Array Value:=(match Go.Pinned.utf8First with
 |.agg l=>(l.map fun d=>match d with|.lit (.int k n)=>Value.int k n|_=>undef).toArray
 |_=>#[])
def zY(os:Os):World:=
 let w0:=World.doorLaid Tryz.prog 400 os
 {w0 with heap:=w0.heap.modify 3 fun
   |.cells _ t frozen=>.cells firstCells t frozen
   |o=>o}
def EM(os:Os)(args:Array Value):laidMetH Tryz.prog Rows.assemblyChecksRow.laid ((zY os).forCall (fun _ _=>0) ⟨#[],args,[]⟩).memory:=
 show laidMet Tryz.prog Rows.assemblyChecksRow.laid ((zY os).forCall (fun _ _=>0) ⟨#[],args,[]⟩).memory from laidMet_of_run' 8 (by kernel_rfl) (by kernel_rfl)
end Go.Proofs.YtmkjgfnicfpjpaaGreatDoor
