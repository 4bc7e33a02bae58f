/- A part of the proof that PairChecks returns true for every input; no condition of its own. -/
import Derived.Test.YtblnjkjjedanaaaGreatDoorTaq
set_option linter.all false
set_option maxHeartbeats 100000000
set_option maxRecDepth 100000
open List renaming mem_append_left->aNn,not_mem_nil->aS7,all_eq_true->aLN
open Array renaming toList_inj->aWm
namespace Go.Proofs.YtblnjkjjedanaaaGreatDoor
open Go Go.ChangeShapes Go.WideShapes Go.ChangeAt Go.RowKit Go.ChangeMaps Dv
variable{E:Env}[C:Ctx E]
theorem Tl{W:World}{args:Array Value}(hg:DV E0 (fun _=>False) W){k d z:Int}{cl:Bool}{a0 a1 a2 b0 b1 b2 p:ByteArray}{t0 t1 t2 t3:Int}{s0 s1 s2:ByteArray}
  (vo:args=#[.agg #[.int .i64 k,.int .i64 d,.bool cl,.string a0,.string a1,.string a2,.string b0,.string b1,.string b2,.string p],.agg #[.int .i64 t0,.int .i64 t1,.int .i64 t2,.int .i64 t3,.string s0,.string s1,.string s2],.int .i64 z])
  (hl:∀s∈[a0,a1,a2,b0,b1,b2,p,s0,s1,s2],s.data.toList.length<=140737488355328):
  Calls Tryz.prog 4 args W (SZ fun v w'=>Go.RowKit.Below W.heap.size W w'/\R cS w' (fun _=>False) (.bool true) v):=by
 simp only[List.mem_cons,aS7,or_false,forall_eq_or_imp,forall_eq]at hl;obtain⟨l0,l1,l2,l3,l4,l5,l6,l7,l8,l9⟩:=hl
 have:=X1.awh
 obtain⟨r,hr,rfl⟩:=X1.V6 (E:=X1.EX) (k:=k) (d:=d) (z:=z) (cl:=cl) (t0:=t0) (t1:=t1) (t2:=t2) (t3:=t3) l0 l1 l2 l3 l4 l5 l6 l7 l8 l9;obtain⟨-,n,hn⟩:=uT hr;have aqV:Rs cS W (fun _=>False) [bO k d cl a0.data.toList a1.data.toList a2.data.toList b0.data.toList b1.data.toList b2.data.toList p.data.toList,.agg [.int .i64 t0,.int .i64 t1,.int .i64 t2,.int .i64 t3,.str s0.data.toList,.str s1.data.toList,.str s2.data.toList],.int .i64 z]
   args.toList:=by
  subst vo;unfold bO;simp[Rs,R];exact⟨_,_,⟨rfl,rfl⟩,⟨_,rfl,rfl⟩,_,rfl,_,rfl,rfl⟩
 have n7:=JW X1.XG X1.anS n 4 _ _ hn (fun _=>False) W _ (fun _ h=>h.elim) (fun g cs h=>hg g cs (by rw[<-X1.aeQ];exact h)) aqV;have hcf:(callFunc 4 args).run Tryz.prog W=.ok (.enter 4 args) W:=by obtain⟨fi,mI⟩:=Option.isSome_iff_exists.1 (show(X1.EX.fn 4).isSome=true by kernel_rfl);exact mh X1.XG mI _ W
 clear vo;rcases n7 with⟨v,w',h1,_⟩|⟨f,args,w1,h1,h2⟩|⟨l,f,tmps,assign,body,w1,h1,_⟩
 ·rw[hcf]at h1;cases h1
 ·rw[hcf]at h1;cases h1;exact callsIn_wide.1 h2
 ·rw[hcf]at h1;cases h1
theorem lifted(os:Os)(started:os.Started)(H:Type)(enc:TypeId×Value->H):
  ReturnsInHanded {} Tryz.checked os 4 .any (fun w args=>(Rows.pairChecksSpec.pre enc Tryz.prog Tryz.f4 [] false w args/\laidMetH Tryz.prog Rows.pairChecksRow.laid w)/\sizedMet enc Tryz.prog Tryz.f4 (OpenSpec.ofChange Rows.pairChecksSpec) false w args)
   (Rows.pairChecksSpec.post enc Tryz.prog Tryz.f4 false true false false):=by
 refine returnsInHanded_of_change_and (C:=Tryz.checked) (X:=fun w _=>laidMetH Tryz.prog Rows.pairChecksRow.laid w) (fun _ _ _ hh h=>h.of_heap hh) own started (by kernel_rfl) Tryz.func4
  (ChangeSpec.witness_shaped (enc:=enc) (C:=Tryz.checked) (os:=os) (X:=fun w _=>laidMetH Tryz.prog Rows.pairChecksRow.laid w) false (CM os)
   #[.agg #[.int .i64 0,.int .i64 0,.bool false,.string ⟨#[]⟩,.string ⟨#[]⟩,.string ⟨#[]⟩,.string ⟨#[]⟩,.string ⟨#[]⟩,.string ⟨#[]⟩,.string ⟨#[]⟩],.agg #[.int .i64 0,.int .i64 0,.int .i64 0,.int .i64 0,.string ⟨#[]⟩,.string ⟨#[]⟩,.string ⟨#[]⟩],.int .i64 0] 8 rfl (World.shaped_of_RefB (by kernel_rfl) (by kernel_rfl)) (by kernel_rfl) (by kernel_rfl) (by kernel_rfl) (Hw os _)) ?_
 intro W base args ds gs before afe hW _ hwt hL _;have D6:∀(j:Nat) t v,Tryz.f4.params[j]?=some t->args[j]?=some v->Value.okWide Tryz.prog W .any base t v:=afe;have hW':=hW;have iH:=hW.lt;have akn:(DataW.weightsEach Tryz.prog (Tryz.f4.params.toList++Rows.pairChecksSpec.plain.varTypes Tryz.prog) (ds++gs)).all (·<=reachBytes)=true:=hwt;rw[Tryz.params4,show(#[39,46,3]:Array TypeId).toList=[39,46,3]from rfl]at akn;clear hwt;obtain⟨p,q,hA0,hV,rfl,gg,hnd⟩:=hW;have hA:DataW.TrodAll enc Tryz.prog W 0 (fun _=>true) true Tryz.f4.params.toList args.toList ds p:=hA0;rw[Tryz.params4]at hA D6;obtain⟨v0,v1,v2,d0,d1,d2,p0,p1,p2,rfl,rfl,rfl,h0,h1,h2⟩:=trodAll_three hA;obtain⟨rfl,rfl⟩:=trodVars_none hV;obtain⟨f0,f1,f2,f3,f4,f5,auL,-⟩:=u39;obtain⟨f0',f1',av4,-⟩:=u46;obtain⟨cs0,rfl,-⟩:=okWide_struct auL (D6 0 39 v0 rfl rfl);obtain⟨cs1,rfl,-⟩:=okWide_struct av4 (D6 1 46 v1 rfl rfl);obtain⟨z,rfl,rfl,rfl,wz⟩:=open_int u3 (D6 2 3 v2 rfl rfl) h2;obtain⟨n0,h0⟩:=h0;obtain⟨n1,h1⟩:=h1;obtain⟨k,d,cl,a0,a1,a2,b0,b1,b2,pt,e0,x0⟩:=OT h0;obtain⟨t0,t1,t2,t3,s0,s1,s2,e1,x1⟩:=OK h1;simp only[Prod.mk.injEq]at x0 x1;obtain⟨rfl,rfl⟩:=x0;obtain⟨rfl,rfl⟩:=x1;have e0':cs0=#[.int .i64 k,.int .i64 d,.bool cl,.string a0,.string a1,.string a2,.string b0,.string b1,.string b2,.string pt]:=aWm.1 e0;have e1':cs1=#[.int .i64 t0,.int .i64 t1,.int .i64 t2,.int .i64 t3,.string s0,.string s1,.string s2]:=aWm.1 e1;subst e0' e1';clear hA0 afe D6 h0 h1 h2 hA;have azZ:∀s∈[a0,a1,a2,b0,b1,b2,pt,s0,s1,s2],s.data.toList.length<=140737488355328:=by simp only[List.cons_append,List.nil_append,DataW.weightsEach,HJ,HY,List.all_append,List.all_cons,Bool.and_eq_true,decide_eq_true_eq]at akn;unfold reachBytes at akn;simp only[List.mem_cons,aS7,or_false,forall_eq_or_imp,forall_eq];omega
 refine(Tl (K3 hL) rfl azZ).mono fun e W' he=>?_
 cases e with
 |panicked _=>exact he.elim
 |outgrown=>exact he.elim
 |returned v=>
  obtain⟨hb,hv⟩:=he;simp only[R]at hv;subst hv;obtain⟨p',q',hA1,hV1,hpq,-,-⟩:=id hW';have Da:∀t∈Tryz.f4.params.toList,Tryz.prog.readableRec t=true/\t<Tryz.prog.types.size:=by
   intro t ht;rw[Tryz.params4]at ht;have hm:t∈[39,46,3]:=by simpa using ht
   have wj:([39,46,3].all fun u=>Tryz.prog.readableRec u&&decide (u<Tryz.prog.types.size))=true:=by kernel_rfl
   have:=aLN.1 wj t hm
   simpa using this
  exact⟨_,rfl,HZ (pa:=_) (pv:=[]) hW' (fun _ _ _=>trodAll_mk1 (shut_bool u4 _)) (fun sp qo=>yV laidOut hb Da hA1 (fun p hp=>iH p (by rw[hpq]at*;exact aNn _ hp)) (fun p hp=>qo p (by rw[hpq];exact aNn _ hp))) (fun _ _=>rfl) (by rw[hpq,(trodVars_none hV1).2]) hb (ok_one (by kernel_rfl) rfl (okWide_bool_mk u4 _))⟩
theorem KD:Rows.PairChecksSaid:=
 OpenClaim.holds_of_wide 4 Tryz.f4 rfl rfl rfl rfl rfl rfl rfl ⟨rfl,rfl,rfl,rfl,rfl⟩ rfl rfl rfl rfl rfl (by kernel_rfl) Tryz.func4 (by kernel_rfl)
  (of_decide_eq_true (by kernel_rfl)) (by unfold Func.isWrapper;first|(rw[if_pos (by decide+kernel)];kernel_rfl)|(rw[if_neg (by decide+kernel)];exact⟨rfl,rfl⟩))
  (fun os started H enc _=>lifted os started H enc)
theorem checks_card:Rows.PairChecksCardSaid:=
 Claim7.holds_tied_plain_at .later [] [.data,.data,.data,.data,.sentinel,.sentinel,.pinned] true (true,"f4381bf0e44c1ef221111a6e72ae5d7b0e5dfb36c022d8a60789f62feb93b889") true
  KD (fun _ h=>by cases h) (by kernel_rfl) (fun _ h=>by cases h) pairChecks_row_tie rfl ⟨rfl,rfl⟩ (by kernel_rfl) rfl
  (fun f fn hf jE=>by
   obtain rfl:f=4:=Option.some.inj ((show Tryz.prog.funcNamed "dowel/dowellaw19.PairChecks"=some 4 by kernel_rfl).symm.trans hf)|>.symm
   obtain rfl:fn=Tryz.f4:=(Option.some.inj (Tryz.func4.symm.trans jE)).symm;exact⟨by kernel_rfl,fun j t ht=>by
    rw[Tryz.params4]at ht;have hm:t∈[39,46,3]:=by simpa using Array.mem_of_getElem? ht
    have wj:([39,46,3].all fun u=>!Tryz.prog.wantsStandIn u)=true:=by kernel_rfl
    exact(show Tryz.prog.wantsStandIn t=false by simpa using aLN.1 wj t hm)⟩)
  (by kernel_rfl)
#print axioms checks_card
end Go.Proofs.YtblnjkjjedanaaaGreatDoor
