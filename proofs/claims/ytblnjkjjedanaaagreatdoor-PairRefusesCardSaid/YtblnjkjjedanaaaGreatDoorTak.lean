/- A part of the proof that PairRefuses returns true for every input; no condition of its own. -/
import Derived.Test.YtblnjkjjedanaaaGreatDoorTaj
set_option linter.all false
set_option maxHeartbeats 100000000
set_option maxRecDepth 100000
open List renaming length_set->aPp
namespace Dv
open Go Go.RowKit
def S(b:List AV):List (Nat×AV)->List AV
 |[]=>b
 |(i,v)::l=>(S b l).set i v
theorem cK{b:List AV}:∀{l:List (Nat×AV)},(S b l).length=b.length
 |[]=>rfl
 |(i,v)::l=>by rw[S,aPp,cK]
theorem QE{b:List AV}{j:Nat}:gt (S b []) j=gt b j:=rfl
theorem QD{b:List AV}{l:List (Nat×AV)}{i:Nat}{v:AV}(h:i<b.length):gt (S b ((i,v)::l)) i=v:=bO (by rw[cK];exact h)
theorem KP{b:List AV}{l:List (Nat×AV)}{i j:Nat}{v:AV}(h:i≠j):gt (S b ((i,v)::l)) j=gt (S b l) j:=dG h
theorem ayV{b:List AV}{l:List (Nat×AV)}{d:Nat}{v:AV}:bQ (some d) v (S b l)=S b ((d,v)::l):=by cases l<;>rfl
theorem VS{E:Env}{c:Code}{ts:List AV}{H:Hp}{Q:Ex->List AV->Hp->Prop}(h:V E c (S ts []) H Q):V E c ts H Q:=h
section
variable{E:Env}{f:Nat}{code:Code}{nt:Nat}{results:List ResultVar}{pu du:Bool}{a b c e:AV}{G:AV->Prop}
theorem gv0(mG:E.ov f []=none)(jj:E.fn f=some {code:=code,ntmps:=nt,results:=results,pure:=pu,eX:=du})(hp:pu=true)
  (h:∀ts:List AV,ts.length=nt->V E code (S ts []) [] (mS E results G)):∃r,aO E f []=some r/\G r:=fv0 mG jj hp h
theorem gv1(mG:E.ov f [a]=none)(jj:E.fn f=some {code:=code,ntmps:=nt,results:=results,pure:=pu,eX:=du})(hp:pu=true)(hn:1<=nt)
  (h:∀ts:List AV,ts.length=nt->gt ts 0=a->V E code (S ts []) [] (mS E results G)):∃r,aO E f [a]=some r/\G r:=fv1 mG jj hp hn h
theorem gv2(mG:E.ov f [a,b]=none)(jj:E.fn f=some {code:=code,ntmps:=nt,results:=results,pure:=pu,eX:=du})(hp:pu=true)(hn:2<=nt)
  (h:∀ts:List AV,ts.length=nt->gt ts 0=a->gt ts 1=b->V E code (S ts []) [] (mS E results G)):∃r,aO E f [a,b]=some r/\G r:=fv2 mG jj hp hn h
theorem gv3(mG:E.ov f [a,b,c]=none)(jj:E.fn f=some {code:=code,ntmps:=nt,results:=results,pure:=pu,eX:=du})(hp:pu=true)(hn:3<=nt)
  (h:∀ts:List AV,ts.length=nt->gt ts 0=a->gt ts 1=b->gt ts 2=c->V E code (S ts []) [] (mS E results G)):∃r,aO E f [a,b,c]=some r/\G r:=fv3 mG jj hp hn h
theorem gv4(mG:E.ov f [a,b,c,e]=none)(jj:E.fn f=some {code:=code,ntmps:=nt,results:=results,pure:=pu,eX:=du})(hp:pu=true)(hn:4<=nt)
  (h:∀ts:List AV,ts.length=nt->gt ts 0=a->gt ts 1=b->gt ts 2=c->gt ts 3=e->V E code (S ts []) [] (mS E results G)):∃r,aO E f [a,b,c,e]=some r/\G r:=fv4 mG jj hp hn h
end
section
variable{E:Env}{f:Nat}{code:Code}{nt:Nat}{results:List ResultVar}{pu du:Bool}{a b c e:AV}{H:Hp}{G:AV->Hp->Prop}
theorem gi1(mG:E.ud f [a] H=none)(jj:E.fn f=some {code:=code,ntmps:=nt,results:=results,pure:=pu,eX:=du})(hn:1<=nt)
  (h:∀ts:List AV,ts.length=nt->gt ts 0=a->V E code (S ts []) H (vE E results G)):∃r H',cL E f [a] H=some (r,H')/\G r H':=fi1 mG jj hn h
theorem gi2(mG:E.ud f [a,b] H=none)(jj:E.fn f=some {code:=code,ntmps:=nt,results:=results,pure:=pu,eX:=du})(hn:2<=nt)
  (h:∀ts:List AV,ts.length=nt->gt ts 0=a->gt ts 1=b->V E code (S ts []) H (vE E results G)):∃r H',cL E f [a,b] H=some (r,H')/\G r H':=fi2 mG jj hn h
theorem gi3(mG:E.ud f [a,b,c] H=none)(jj:E.fn f=some {code:=code,ntmps:=nt,results:=results,pure:=pu,eX:=du})(hn:3<=nt)
  (h:∀ts:List AV,ts.length=nt->gt ts 0=a->gt ts 1=b->gt ts 2=c->V E code (S ts []) H (vE E results G)):∃r H',cL E f [a,b,c] H=some (r,H')/\G r H':=fi3 mG jj hn h
theorem gi4(mG:E.ud f [a,b,c,e] H=none)(jj:E.fn f=some {code:=code,ntmps:=nt,results:=results,pure:=pu,eX:=du})(hn:4<=nt)
  (h:∀ts:List AV,ts.length=nt->gt ts 0=a->gt ts 1=b->gt ts 2=c->gt ts 3=e->V E code (S ts []) H (vE E results G)):∃r H',cL E f [a,b,c,e] H=some (r,H')/\G r H':=fi4 mG jj hn h
end
section
variable{E:Env}{ts:List AV}{H:Hp}{Q:Ex->List AV->Hp->Prop}{k:List AV->Hp->Prop}{id:Nat}{a b:Code}
theorem adA:V E .skip ts H Q=Q .normal ts H:=propext Iff.rfl
theorem ady:V E (.exit id) ts H Q=Q (.exit id) ts H:=propext Iff.rfl
theorem aj5:V E .ret ts H Q=Q .ret ts H:=propext Iff.rfl
theorem aj6:V E (.seq a b) ts H Q=V E a ts H (zg (fun ts H=>V E b ts H Q) Q):=propext Iff.rfl
theorem Y6:V E (.block id a) ts H Q=V E a ts H (qg id Q):=propext Iff.rfl
theorem adx{c:Operand}:V E (.cond c a b) ts H Q=cu (ch ts c) fun v=>yZ v (V E a ts H Q) (V E b ts H Q):=propext Iff.rfl
theorem TK{ops:Array Oper}:V E (.region id ops false) ts H Q=bS E false false (vF ops.toList) ops.toList 0 ts H [] (fun ts H _=>Q .normal ts H):=propext Iff.rfl
theorem PX{ops:Array Oper}:V E (.region id ops true) ts H Q=pK (E.pairs id ops.toList.length).isEmpty (bS E true false (vF ops.toList) ops.toList H.length ts (H++wY (qj E ops.toList)) [] (fun ts H _=>Q .normal ts H)) (bS E true true (vF ops.toList) ops.toList H.length ts (H++wY (qj E ops.toList)) [] (fun ts H l=>(E.pairs id ops.toList.length).all (uS l.reverse)=true/\Q .normal ts H)):=propext Iff.rfl
theorem adz:V E (.loop b) ts H Q=@CvB E (.loop b) ts H ⟨Q⟩:=propext Iff.rfl
theorem adv:zg k Q .normal ts H=k ts H:=propext Iff.rfl
theorem adw:zg k Q .ret ts H=Q .ret ts H:=propext Iff.rfl
theorem adu:zg k Q (.exit id) ts H=Q (.exit id) ts H:=propext Iff.rfl
theorem TI:qg id Q .normal ts H=Q .normal ts H:=propext Iff.rfl
theorem TJ:qg id Q .ret ts H=Q .ret ts H:=propext Iff.rfl
theorem TH{j:Nat}:qg id Q (.exit j) ts H=if j=id then Q .normal ts H else Q (.exit j) ts H:=propext Iff.rfl
theorem Y3{I:Nat->List AV->Hp->Prop}{k:Nat}:y9 I k Q .normal ts H=@adS ts H ⟨I,k⟩:=propext Iff.rfl
theorem Y5{I:Nat->List AV->Hp->Prop}{k:Nat}:y9 I k Q .ret ts H=Q .ret ts H:=propext Iff.rfl
theorem Y4{I:Nat->List AV->Hp->Prop}{k:Nat}:y9 I k Q (.exit id) ts H=Q (.exit id) ts H:=propext Iff.rfl
theorem ar4{n:Nat}:Un E b (n+1) ts H Q=V E b ts H (zg (fun ts H=>Un E b n ts H Q) Q):=propext Iff.rfl
theorem adt{results:List ResultVar}{G:AV->Prop}:mS E results G .ret ts H=oP (iU H E ts results) fun rs=>zd (bW H [kE rs]) fun rl bs=>∃r,rl=[r]/\G r:=propext Iff.rfl
theorem ads{results:List ResultVar}{G:AV->Hp->Prop}:vE E results G .ret ts H=oP (iU H E ts results) fun rs=>G (kE rs) H:=propext Iff.rfl
theorem adr{results:List ResultVar}{G:AV->Hp->Prop}:vE E results G .normal ts H=oP (iU H E ts results) fun rs=>G (kE rs) H:=propext Iff.rfl
theorem adB{dr tr:Bool}{ops:List (Option Nat)}{aM:Nat}{l:List Rw}{q:List AV->Hp->List Rw->Prop}:bS E dr tr ops [] aM ts H l q=q ts H l:=propext Iff.rfl
end
class KB(α:Type) where
 k:α->Prop
class KB2(α β:Type) where
 k:α->β->Prop
class TwB where
 a:Prop
 b:Prop
def adZ(x:Option AV) [b:KB AV]:Prop:=cu x b.k
def ad0(x:Option (AV×List (Nat×cG))) [b:KB (AV×List (Nat×cG))]:Prop:=sE x b.k
def adY(x:Option (List (Nat×cG))) [b:KB (List (Nat×cG))]:Prop:=AJ x b.k
def adU(x:Option (List AV)) [b:KB (List AV)]:Prop:=oP x b.k
def ad2(x:Option (List (Nat×AV))) [b:KB (List (Nat×AV))]:Prop:=AK x b.k
def adW(x:Option (List AV×List Nat)) [b:KB2 (List AV) (List Nat)]:Prop:=zd x b.k
def ad1(x:Option (Option AV)) [b:KB (Option AV)]:Prop:=CA x b.k
def adX(x:Option (AV×Hp)) [b:KB2 AV Hp]:Prop:=oI x b.k
def adV(fv:AV)(al:List AV) [b:KB2 Nat (List AV)]:Prop:=Ds fv al b.k
def Us(c:Bool) [b:TwB]:Prop:=pK c b.a b.b
def Ui(v:AV) [b:TwB]:Prop:=yZ v b.a b.b
theorem aqs{x:Option AV}{k:AV->Prop}:cu x k=@adZ x ⟨k⟩:=propext Iff.rfl
theorem aqt{x:Option (AV×List (Nat×cG))}{k:AV×List (Nat×cG)->Prop}:sE x k=@ad0 x ⟨k⟩:=propext Iff.rfl
theorem aqr{x:Option (List (Nat×cG))}{k:List (Nat×cG)->Prop}:AJ x k=@adY x ⟨k⟩:=propext Iff.rfl
theorem aqn{x:Option (List AV)}{k:List AV->Prop}:oP x k=@adU x ⟨k⟩:=propext Iff.rfl
theorem aqv{x:Option (List (Nat×AV))}{k:List (Nat×AV)->Prop}:AK x k=@ad2 x ⟨k⟩:=propext Iff.rfl
theorem aqp{x:Option (List AV×List Nat)}{k:List AV->List Nat->Prop}:zd x k=@adW x ⟨k⟩:=propext Iff.rfl
theorem aqu{x:Option (Option AV)}{k:Option AV->Prop}:CA x k=@ad1 x ⟨k⟩:=propext Iff.rfl
theorem aqq{x:Option (AV×Hp)}{k:AV->Hp->Prop}:oI x k=@adX x ⟨k⟩:=propext Iff.rfl
theorem aqo{x:AV}{al:List AV}{k:Nat->List AV->Prop}:Ds x al k=@adV x al ⟨k⟩:=propext Iff.rfl
theorem Xg{c:Bool}{a b:Prop}:pK c a b=@Us c ⟨a,b⟩:=propext Iff.rfl
theorem Xf{v:AV}{a b:Prop}:yZ v a b=@Ui v ⟨a,b⟩:=propext Iff.rfl
theorem ash{v:AV}{k:AV->Prop}:@adZ (some v) ⟨k⟩=k v:=propext Iff.rfl
theorem asi{v:AV×List (Nat×cG)}{k:AV×List (Nat×cG)->Prop}:@ad0 (some v) ⟨k⟩=k v:=propext Iff.rfl
theorem asg{v:List (Nat×cG)}{k:List (Nat×cG)->Prop}:@adY (some v) ⟨k⟩=k v:=propext Iff.rfl
theorem asc{l:List AV}{k:List AV->Prop}:@adU (some l) ⟨k⟩=k l:=propext Iff.rfl
theorem asl{l:List (Nat×AV)}{k:List (Nat×AV)->Prop}:@ad2 (some l) ⟨k⟩=k l:=propext Iff.rfl
theorem ase{v:List AV}{e:List Nat}{k:List AV->List Nat->Prop}:@adW (some (v,e)) ⟨k⟩=k v e:=propext Iff.rfl
theorem asf{v:AV}{e:Hp}{k:AV->Hp->Prop}:@adX (some (v,e)) ⟨k⟩=k v e:=propext Iff.rfl
theorem asj{v:Option AV}{k:Option AV->Prop}:@ad1 (some v) ⟨k⟩=k v:=propext Iff.rfl
theorem asd{f:Nat}{a c al:List AV}{k:Nat->List AV->Prop}:@adV (.func f a c) al ⟨k⟩=k f (a++al++c):=propext Iff.rfl
theorem adI{a b:Prop}:@Us true ⟨a,b⟩=a:=by rw[<-Xg,jt]
theorem Zb{a b:Prop}:@Us false ⟨a,b⟩=b:=by rw[<-Xg,fR]
theorem adK{a b:Prop}:@Ui (.bool true) ⟨a,b⟩=a:=by rw[<-Xf,eG,if_pos rfl]
theorem adJ{a b:Prop}:@Ui (.bool false) ⟨a,b⟩=b:=by rw[<-Xf,eG,if_neg (by decide)]
theorem zaB{b:Bool}:Gy (.bool b)=some b:=rfl
theorem zaU:Gy aX=none:=rfl
theorem zsn{b:Bool}:((none:Option Bool)==some b)=false:=by cases b<;>decide
theorem azC:(some false==some true)=false:=by decide
theorem azD:(some true==some false)=false:=by decide
end Dv
namespace Dv
open Go
theorem eL{a b c d:Prop}(h1:a)(h2:b)(h3:c)(h4:d):(a/\b)/\c/\d:=⟨⟨h1,h2⟩,h3,h4⟩
@[reducible] def gu (f:Func):Code:=match f.body with|some c=>c|none=>.skip
abbrev fI(c:Code)(n:Nat)(r:List ResultVar):Option FnI:=some {code:=c,ntmps:=n,results:=r,pure:=true,eX:=false}
theorem cF{p:Prop} [Decidable p](h:p):decide p=true:=decide_eq_true h
theorem cH{p:Prop} [Decidable p](h:¬p):decide p=false:=decide_eq_false h
theorem ep{o:Option AV}{v:AV}(h:∃u,o=some u/\u=v):o=some v:=by obtain⟨u,h1,rfl⟩:=h;exact h1
end Dv
namespace Dv
open Go Dv
def aQ:=eL (eL (eL @adA (And.intro @ady @aj5) @aj6 (And.intro @Y6 @adx)) (eL @TK (And.intro @PX @adz) (And.intro @adv @adw) (And.intro @adu @TI)) (eL @TJ (And.intro @TH @Xf) (And.intro @adK @adJ) (And.intro @adt @ads)) (eL @adr (And.intro @Y5 @Y4) (And.intro @adB @abR) (And.intro @Z4 @SH))) (eL (eL @amn (And.intro @U9 @aiH) (And.intro @W7 @aiI) (And.intro @abP @aqi)) (eL @aiG (And.intro @abU @aqh) (And.intro @ayB @ayz) (And.intro @ayA @abS)) (eL @W9 (And.intro @LO @W8) (And.intro @LN @SI) (And.intro @abQ @Jq)) (eL @abT (And.intro @aqk @aqj) (And.intro @O6 @SJ) (And.intro @aiF @agD))) (eL (eL @Va (And.intro @agE @Z2) (And.intro @agC @Z6) (And.intro @amm @auK)) (eL @auL (And.intro @RQ @Z3) (And.intro @IK @Z5) (And.intro @amp @amo)) (eL @agA (And.intro @aqs @ash) (And.intro @aqt @asi) (And.intro @aqr @asg)) (eL @Xg (And.intro @adI @Zb) (And.intro @aqn @asc) (And.intro @aqv @asl))) (eL (eL @aqp (And.intro @ase @aqu) (And.intro @asj @aqq) (And.intro @asf @aqo)) (eL @asd (And.intro @agK @Vq) (And.intro @agL @agJ) (And.intro @aah @ams)) (eL @auX (And.intro @auV @auW) (And.intro @RR @aae) (And.intro @IN @aag)) (eL @amu (And.intro @agI @aaf) (And.intro @amt @Vp) (And.intro @Y3 @ar4)))
def kL:=eL (eL (eL (And.intro @Bool.false_eq_true (And.intro @if_true.{1} @if_false.{1})) (And.intro @ne_eq.{1} (And.intro @not_false_eq_true @List.map_cons.{0,0})) (And.intro @Option.map_some.{0,0} (And.intro @List.length_cons.{0} @List.length_nil.{0})) (And.intro @List.drop_zero.{0} (And.intro @Bool.not_false @Bool.not_true))) (eL (And.intro @List.map_nil.{0,0} (And.intro @Nat.add_zero @List.all_cons.{0})) (And.intro @Option.bind_some.{0,0} (And.intro @Bool.false_or @true_and)) (And.intro @List.nil_append.{0} (And.intro @List.append_nil.{0} @Bool.false_and)) (eL @Bool.and_self @Bool.true_and @Nat.zero_add @List.getElem?_cons_zero.{0})) (eL (And.intro @beq_self_eq_true.{0} (And.intro @Bool.and_false @oT)) (And.intro @List.all_nil.{0} (And.intro @List.toList_toArray.{0} @aPp.{0})) (And.intro @List.getElem?_cons_succ.{0} (And.intro @mT @oR)) (eL @AP @Nz @iI @PT)) (eL (And.intro @NB (And.intro @AO @NA)) (And.intro @List.cons_append.{0} (And.intro @List.reverse_cons.{0} @List.reverse_nil.{0})) (And.intro @cT (And.intro @kO @jE)) (eL @uU @k9 @wT @aqx))) (eL (eL (And.intro @ec (And.intro @D7 @tO)) (And.intro @eS (And.intro @jq @D9)) (And.intro @D8 (And.intro @cQ @mU)) (And.intro @Q6 (And.intro @Q5 @gS))) (eL (And.intro @qu (And.intro @Bool.and_true @qK)) (And.intro @xx (And.intro @vT @Bool.or_false)) (And.intro @Bool.or_self (And.intro @Bool.or_true @List.take_succ_cons.{0})) (eL @List.take_zero.{0} @List.drop_succ_cons.{0} @List.drop_nil.{0} @Nat.le_refl)) (eL (And.intro @decide_true (And.intro @List.take_nil.{0} @Int.toNat_natCast)) (And.intro @iN (And.intro @List.modify_succ_cons.{0} @List.modify_zero_cons.{0})) (And.intro @and_true (And.intro @cK @QE)) (eL @QD @KP @ajU @Yr)) (eL (And.intro @ajV (And.intro @arN @azb)) (And.intro @ay9 (And.intro @adg @aza)) (And.intro @adh (And.intro @Tt @ade)) (eL @arT @arS @PN @arQ))) (eL (eL (And.intro @arR (And.intro @ajT @Yt)) (And.intro @adi (And.intro @adb @arO)) (And.intro @MA (And.intro @MB @Ys)) (And.intro @arP (And.intro @Yq @JK))) (eL (And.intro @ajR (And.intro @adf @aka)) (And.intro @Y8 (And.intro @akb @ar5)) (And.intro @azs (And.intro @azq @adE)) (eL @azr @adF @TM @adD)) (eL (And.intro @asb (And.intro @asa @PY)) (And.intro @ar8 (And.intro @ar9 @ar7)) (And.intro @aj7 (And.intro @aj9 @Za)) (eL @adH @MR @Y9 @adG)) (eL (And.intro @adC (And.intro @ar6 @MQ)) (And.intro @Y7 (And.intro @JW @TN)) (And.intro @abt (And.intro @NP @Ky)) (eL @acH @acI @acX @XS))) (eL (eL (And.intro @XR (And.intro @acO @XN)) (And.intro @XL (And.intro @Vs @NY)) (And.intro @NZ (And.intro @OY @SQ)) (eL @ZN @zaB @zaU @zsn)) (eL (And.intro @azC (And.intro @azD @and_self)) (And.intro @adj (And.intro @Int.natCast_nonneg @Nat.mul_one)) (And.intro @Int.cast_ofNat_Int (And.intro @decide_false @age)) (eL @agd @List.isEmpty_nil.{0} @List.isEmpty_cons.{0} @ayV)) (eL (And.intro @id_eq.{1} (And.intro @List.contains_cons.{0} @List.contains_nil.{0})) (And.intro @aqy (And.intro @gu.eq_1 @aN.eq_1)) (And.intro @aN.eq_2 (And.intro @aN.eq_3 @aN.eq_4)) (eL @aN.eq_5 @aN.eq_6 @aN.eq_7 @aN.eq_8)) (eL (And.intro @aN.eq_9 (And.intro @bE.eq_1 @bE.eq_2)) (And.intro @bK.eq_1 (And.intro @bK.eq_2 @pU.eq_1)) (And.intro @pU.eq_2 (And.intro @uS.eq_1 @yF.eq_1)) (eL @tb.eq_1 @NX.eq_1 @vF.eq_1 @vF.eq_2)))
def cM:=eL (And.intro @QE @QD) (And.intro @KP @cK) (And.intro @bO @dG) (And.intro @aPp.{0} (And.intro @ne_eq.{1} @not_false_eq_true))
end Dv
