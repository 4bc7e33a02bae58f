/- A part of the proof that PairRefuses returns true for every input; no condition of its own. -/
import Derived.Test.YtblnjkjjedanaaaGreatDoorTbc
set_option linter.all false
set_option maxHeartbeats 100000000
set_option maxRecDepth 100000
open List renaming mem_append_left->aOd,all_eq_true->aMa
namespace Go.Proofs.YtblnjkjjedanaaaGreatDoor
open Go Go.ChangeShapes Go.WideShapes Go.ChangeAt Go.RowKit Go.ChangeMaps Dv
variable{E:Env}[C:Ctx E]
theorem Sw{W:World}{args:Array Value}(hg:tF E0 (fun _=>False) W){dim s:Int}{v:Value}{lv:AV}{cells:List AV}{len:Nat}{zf:Nat->Int}(wF:args=#[.int .u8 dim,v,.int .u8 s])(hd:0<=dim/\dim<256)(hR:R cE W (fun _=>False) lv v)(zN:jP lv=some (len:Int))(plv:aN lv=true)(vg:0<len->lv=.aJ cells len)(iE:cells.length=len*6)(hz:∀j,j<len*6->cells[j]?=some (.int .i8 (zf j))/\-128<=zf j/\zf j<=127):
  Calls Tryz.prog 3 args W (MT fun v w'=>Go.RowKit.Below W.heap.size W w'/\R cE w' (fun _=>False) (.bool true) v):=by
 have:=auC
 have hr:=L8 (E:=EV) (dim:=dim) (s:=s) hd zN plv vg hz iE;have apf:Rs cE W (fun _=>False) [.int .u8 dim,lv,.int .u8 s] args.toList:=by subst wF;simp only[Rs,R];exact⟨_,_,rfl,rfl,_,_,rfl,hR,_,_,rfl,rfl,rfl⟩
 exact BO aj3 aqE (by kernel_rfl) hr (fun _ h=>h.elim) hg apf
theorem lifted(os:Os)(started:os.Started)(H:Type)(enc:TypeId×Value->H):
  ReturnsInHanded {} Tryz.checked os 3 .any (fun w args=>(Rows.pairRefusesSpec.pre enc Tryz.prog Tryz.f3 [] false w args/\laidMetH Tryz.prog Rows.pairRefusesRow.laid w)/\sizedMet enc Tryz.prog Tryz.f3 (OpenSpec.ofChange Rows.pairRefusesSpec) false w args)
   (Rows.pairRefusesSpec.post enc Tryz.prog Tryz.f3 false true false false):=by
 refine returnsInHanded_of_change_and (C:=Tryz.checked) (X:=fun w _=>laidMetH Tryz.prog Rows.pairRefusesRow.laid w) (fun _ _ _ hh h=>h.of_heap hh) own started (by kernel_rfl) Tryz.func3
  (ChangeSpec.witness_shaped (enc:=enc) (C:=Tryz.checked) (os:=os) (X:=fun w _=>laidMetH Tryz.prog Rows.pairRefusesRow.laid w) false (Bg os)
   #[.int .u8 0,.slice none 0 0,.int .u8 0] 8 rfl (World.shaped_of_RefB (by kernel_rfl) (by kernel_rfl)) (by kernel_rfl) (by kernel_rfl) (by kernel_rfl) (F8 os _)) ?_
 intro W base args ds gs before afa hW _ hwt hL _;have CM:∀(j:Nat) t v,Tryz.f3.params[j]?=some t->args[j]?=some v->Value.okWide Tryz.prog W .any base t v:=afa;have hW':=hW;have gO:=hW.lt;have ax4:(DataW.weightsEach Tryz.prog (Tryz.f3.params.toList++Rows.pairRefusesSpec.plain.varTypes Tryz.prog) (ds++gs)).all (·<=reachBytes)=true:=hwt;rw[Tryz.params3,show(#[5,22,5]:Array TypeId).toList=[5,22,5]from rfl]at ax4;clear hwt;obtain⟨p,q,hA0,hV,rfl,gf,hnd⟩:=hW;have hA:DataW.TrodAll enc Tryz.prog W 0 (fun _=>true) true Tryz.f3.params.toList args.toList ds p:=hA0;rw[Tryz.params3]at hA CM;obtain⟨v0,v1,v2,d0,d1,d2,p0,p1,p2,rfl,rfl,rfl,h0,h1,h2⟩:=trodAll_three hA;obtain⟨rfl,rfl⟩:=trodVars_none hV;obtain⟨dim,rfl,rfl,rfl,wd⟩:=open_int u5 (CM 0 5 v0 rfl rfl) h0;obtain⟨z,rfl,rfl,rfl,wz⟩:=open_int u5 (CM 2 5 v2 rfl rfl) h2;obtain⟨sa,sl,sc,rfl⟩:=okWide_slice u22 (CM 1 22 v1 rfl rfl);obtain⟨n1,h1⟩:=h1;have hdz:0<=dim/\dim<256:=by simp only[Lit.wf,Bool.and_eq_true,decide_eq_true_eq]at wd;have h1:IntKind.u8.min=0:=rfl;have h2:IntKind.u8.max=255:=rfl;rw[h1,h2]at wd;omega
 obtain⟨lv,cells,len,zf,hR,r1,r2,r3,r4,r5⟩:=acA (v:=.slice sa sl sc) h1;clear hA0 afa CM h0 h1 h2 hA;refine(Sw (IZ hL) rfl hdz hR r1 r2 r3 r4 r5).mono fun e W' he=>?_
 cases e with
 |panicked _=>exact he.elim
 |outgrown=>exact he.elim
 |returned v=>
  obtain⟨hb,hv⟩:=he;simp only[R]at hv;subst hv;obtain⟨p',q',hA1,hV1,Zt,-,-⟩:=id hW';have Se:∀t∈Tryz.f3.params.toList,Tryz.prog.readableRec t=true/\t<Tryz.prog.types.size:=by
   intro t ht;rw[Tryz.params3]at ht;have hm:t∈[5,22,5]:=by simpa using ht
   have tf:([5,22,5].all fun u=>Tryz.prog.readableRec u&&decide (u<Tryz.prog.types.size))=true:=by kernel_rfl
   have:=aMa.1 tf t hm
   simpa using this
  exact⟨_,rfl,Ge (pa:=_) (pv:=[]) hW' (fun _ _ _=>trodAll_mk1 (shut_bool u4 _)) (fun sp yK=>yz laidOut hb Se hA1 (fun p hp=>gO p (by rw[Zt]at*;exact aOd _ hp)) (fun p hp=>yK p (by rw[Zt];exact aOd _ hp))) (fun _ _=>rfl) (by rw[Zt,(trodVars_none hV1).2]) hb (ok_one (by kernel_rfl) rfl (okWide_bool_mk u4 _))⟩
theorem Gi:Rows.PairRefusesSaid:=
 OpenClaim.holds_of_wide 3 Tryz.f3 rfl rfl rfl rfl rfl rfl rfl ⟨rfl,rfl,rfl,rfl,rfl⟩ rfl rfl rfl rfl rfl (by kernel_rfl) Tryz.func3 (by kernel_rfl)
  (of_decide_eq_true (by kernel_rfl)) (by unfold Func.isWrapper;first|(rw[if_pos (by decide+kernel)];kernel_rfl)|(rw[if_neg (by decide+kernel)];exact⟨rfl,rfl⟩))
  (fun os started H enc _=>lifted os started H enc)
theorem refuses_card:Rows.PairRefusesCardSaid:=
 Claim7.holds_tied_plain_at .later [] [.data,.data,.data,.data,.sentinel,.sentinel,.pinned] true (true,"f4381bf0e44c1ef221111a6e72ae5d7b0e5dfb36c022d8a60789f62feb93b889") true
  Gi (fun _ h=>by cases h) (by kernel_rfl) (fun _ h=>by cases h) pairRefuses_row_tie rfl ⟨rfl,rfl⟩ (by kernel_rfl) rfl
  (fun f fn hf jj=>by
   obtain rfl:f=3:=Option.some.inj ((show Tryz.prog.funcNamed "dowel/dowellaw19.PairRefuses"=some 3 by kernel_rfl).symm.trans hf)|>.symm
   obtain rfl:fn=Tryz.f3:=(Option.some.inj (Tryz.func3.symm.trans jj)).symm;exact⟨by kernel_rfl,fun j t ht=>by
    rw[Tryz.params3]at ht;have hm:t∈[5,22,5]:=by simpa using Array.mem_of_getElem? ht
    have tf:([5,22,5].all fun u=>!Tryz.prog.wantsStandIn u)=true:=by kernel_rfl
    exact(show Tryz.prog.wantsStandIn t=false by simpa using aMa.1 tf t hm)⟩)
  (by kernel_rfl)
#print axioms refuses_card
end Go.Proofs.YtblnjkjjedanaaaGreatDoor
