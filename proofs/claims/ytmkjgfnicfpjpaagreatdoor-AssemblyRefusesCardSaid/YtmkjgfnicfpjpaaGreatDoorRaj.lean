/- Lemmas for AssemblyRefuses; no condition. -/
import Derived.Test.YtmkjgfnicfpjpaaGreatDoorRah
import Derived.Test.YtmkjgfnicfpjpaaGreatDoorRai
import Derived.Lib.SmallJoins
import Derived.Lib.LaidTab
import Derived.Lib.AppendIntMem
import Derived.Lib.TrimUEq
import Derived.Lib.TrimAscii
set_option linter.all false
set_option maxHeartbeats 100000000
set_option maxRecDepth 100000
noncomputable section
open Array renaming toList_inj->aPM
open List renaming getElem?_map->aM4,getElem?_eq_getElem->aL6,length_map->aPN,getElem?_toArray->aPO,all_eq_true->aMf
open Option renaming map_eq_some_iff->aLs
namespace Go.Proofs.YtmkjgfnicfpjpaaGreatDoor
open Go Go.RowKit Dv
def V8{f:Nat}(h:(E0.fn f).isSome=true)(vs:Array Value)(w:World):(callFunc f vs).run Tryz.prog w=.ok (.enter f vs) w:=by obtain⟨fi,lT⟩:=Option.isSome_iff_exists.1 h;exact jR fq lT vs w
def iP{f:Nat}{vs:Array Value}{w:World}{post:Ending->World->Prop}{Rr:Value->World->Prop}(h:(E0.fn f).isSome=true)(hc:Calls Tryz.prog f vs w post)(hm:∀e w',post e w'->LK Rr e w'):lQ Tryz.prog ((callFunc f vs).run Tryz.prog w) Rr:=
 .inr (.inl ⟨f,vs,w,V8 h vs w,callsIn_wide.2 (hc.mono hm)⟩)
abbrev gn(w:World)(L:Nat->Prop)(r:AV):Value->World->Prop:=fun v w'=>Below w.heap.size w w'/\R cg w' L r v
section
variable{l:List AV}{r:AV}{L:Nat->Prop}{w:World}{vs:Array Value}
def afY{a:AV}(h:Rs cg w L [a] vs.toList):∃v,vs=#[v]/\R cg w L a v:=by simp only[Rs]at h;obtain⟨v1,l1,e1,h1,rfl⟩:=h;exact⟨v1,aPM.1 e1,h1⟩
def Cc{a b:AV}(h:Rs cg w L [a,b] vs.toList):∃v u,vs=#[v,u]/\R cg w L a v/\R cg w L b u:=by simp only[Rs]at h;obtain⟨v1,l1,e1,h1,v2,l2,rfl,h2,rfl⟩:=h;exact⟨v1,v2,aPM.1 e1,h1,h2⟩
def an8{a b c:AV}(h:Rs cg w L [a,b,c] vs.toList):∃v u x,vs=#[v,u,x]/\R cg w L a v/\R cg w L b u/\R cg w L c x:=by simp only[Rs]at h;obtain⟨v1,l1,e1,h1,v2,l2,rfl,h2,v3,l3,rfl,h3,rfl⟩:=h;exact⟨v1,v2,v3,aPM.1 e1,h1,h2,h3⟩
def mI{s:List UInt8}{v:Value}(h:R cg w L (.str s) v):v=.string ⟨s.toArray⟩:=by simpa[R]using h
def rW{k:IntKind}{n:Int}{v:Value}(h:R cg w L (.int k n) v):v=.int k n:=by simpa[R]using h
def func312:∃fn,Tryz.prog.funcs[312]?=some fn/\(fn.name== "runtime.NumGoroutine")=false/\fn.body.isNone=true/\Extern.findNext fn=none/\Extern.find fn=some Extern.BytealgIndexByte.indexByte:=
 ⟨Tryz.f312,Tryz.func312,by kernel_rfl,by kernel_rfl,by kernel_rfl,by kernel_rfl⟩
def aly(h:Q9 l=some r)(ha:Rs cg w L l vs.toList):lQ Tryz.prog ((callFunc 312 vs).run Tryz.prog w) (gn w L r):=by
 unfold Q9 at h;split at h
 case h_2=>cases h
 rename_i s c;cases h;obtain⟨v,u,rfl,h1,h2⟩:=Cc ha;obtain rfl:=mI h1;obtain rfl:=rW h2;obtain⟨fn,g1,g2,g3,g4,g5⟩:=func312;refine .inl ⟨.int .i64 (Lib.indexByte s c.toNat.toUInt8),w,?_,Go.RowKit.Below.refl _ _,by simp[R]⟩;rw[run_callFunc_extern g1 g2 g3 g4 g5,Lib.run_indexByteString];simp[Result.andThen]
def auW(h:Zo l=some r)(ha:Rs cg w L l vs.toList):lQ Tryz.prog ((callFunc 188 vs).run Tryz.prog w) (gn w L r):=by
 unfold Zo at h;split at h
 case h_2=>cases h
 split at h
 case isFalse=>cases h
 rename_i x hx;cases h;obtain⟨v,rfl,h1⟩:=afY ha;obtain rfl:=rW h1;refine iP (by kernel_rfl) (Any.bits_LeadingZeros32 Tryz.adQ x w hx.1 hx.2) ?_;rintro e w' ⟨rfl,rfl⟩;exact⟨Below.refl _ _,by simp[R]⟩
def aeb(h:DA l=some r)(ha:Rs cg w L l vs.toList):lQ Tryz.prog ((callFunc 178 vs).run Tryz.prog w) (gn w L r):=by
 unfold DA at h;split at h
 case h_2=>cases h
 split at h
 case isFalse=>cases h
 rename_i s c hx;cases h;obtain⟨h3,h4,h5⟩:=hx;obtain⟨v,u,rfl,h1,h2⟩:=Cc ha;obtain rfl:=mI h1;obtain rfl:=mI h2;refine iP (by kernel_rfl) (Any.strings_Trim_laid Tryz.adS (by kernel_rfl) ⟨s.toArray⟩ ⟨c.toArray⟩ w h5 h4 ?_) ?_
 ·intro j b hb
  have:=aMf.1 h3 b (List.mem_of_getElem? hb)
  simpa using this
 ·rintro e w' ⟨rfl,hb⟩;exact⟨hb,by simp[R]⟩
def ES(h:nU l=some r)(ha:Rs cg w L l vs.toList):lQ Tryz.prog ((callFunc 177 vs).run Tryz.prog w) (gn w L r):=by
 unfold nU at h;split at h
 case h_2=>cases h
 rename_i s c;cases h;obtain⟨v,u,rfl,h1,h2⟩:=Cc ha;obtain rfl:=mI h1;obtain rfl:=mI h2;refine iP (by kernel_rfl) (Any.strings_TrimPrefix Tryz.adN ⟨s.toArray⟩ ⟨c.toArray⟩ w) ?_;rintro e w' ⟨rfl,rfl⟩;exact⟨Below.refl _ _,by simp[R]⟩
def Hv(h:pT l=some r)(ha:Rs cg w L l vs.toList):lQ Tryz.prog ((callFunc 225 vs).run Tryz.prog w) (gn w L r):=by
 unfold pT at h;split at h
 case h_2=>cases h
 rename_i s c;cases h;obtain⟨v,u,rfl,h1,h2⟩:=Cc ha;obtain rfl:=mI h1;obtain rfl:=mI h2;refine iP (by kernel_rfl) (Any.strings_CutPrefix Tryz.adO ⟨s.toArray⟩ ⟨c.toArray⟩ w) ?_;rintro e w' ⟨rfl,rfl⟩;exact⟨Below.refl _ _,by simp[R,Rs]⟩
def Hw(h:mW l=some r)(ha:Rs cg w L l vs.toList):lQ Tryz.prog ((callFunc 228 vs).run Tryz.prog w) (gn w L r):=by
 unfold mW at h;split at h
 case h_2=>cases h
 split at h
 case isFalse=>cases h
 rename_i s b z hx;obtain⟨rfl,rfl,hl⟩:=hx;split at h
 case h_2=>cases h
 rename_i u hu;cases h;obtain⟨v,x,y,rfl,h1,h2,h3⟩:=an8 ha;obtain rfl:=mI h1;obtain rfl:=rW h2;obtain rfl:=rW h3;refine iP (by kernel_rfl) (Any.strconv_ParseUint_10_at32_ok Tryz.YS ⟨s.toArray⟩ hl u hu w) ?_;rintro e w' ⟨rfl,hb⟩;refine⟨?_,by simp[R,Rs]⟩;rcases hb with rfl|rfl
 ·exact Below.refl _ _
 ·exact Lib.bytesWorld_below w _ _
def amj(hg:xG E0 L w):Lib.TabIs Tryz.prog w "internal/strconv.uint64pow10" .u64 Lib.pow10Tab:=by
 obtain⟨c,e,f,h1,h2,h3,h4⟩:=hg 1 Ag rfl;have hgn:Tryz.prog.globalNamed "internal/strconv.uint64pow10"=some 1:=by kernel_rfl
 unfold Lib.TabIs World.var?;rw[hgn];simp only[Option.bind_some,h1,Option.some.injEq];have hT:Ag=Lib.pow10Tab.map fun z=>AV.int .u64 z:=by kernel_rfl
 have hlen:Ag.length=20:=by kernel_rfl
 apply Array.ext_getElem?;intro i;have hp:Lib.pow10Tab.length=20:=Lib.pow10Tab_length;by_cases hi:i<20
 ·have hx:Ag[i]?=some (.int .u64 (Lib.pow10Tab[i]'(by omega))):=by rw[hT,aM4,aL6 (by omega)];rfl
  obtain⟨y,hy,hr⟩:=iH.get h3 i _ hx;rw[Nat.zero_add]at hy;obtain rfl:=rW hr;rw[hy,aPO,aM4,aL6 (by omega)];rfl
 ·rw[Array.getElem?_eq_none (by omega),aPO,List.getElem?_eq_none (by rw[aPN];omega)]
def ad9(hg:xG E0 L w)(h:Ol l=some r)(ha:Rs cg w L l vs.toList):lQ Tryz.prog ((callFunc 113 vs).run Tryz.prog w) (gn w L r):=by
 unfold Ol at h;split at h
 case h_2=>cases h
 split at h
 case isFalse=>cases h
 rename_i n hx;cases h;obtain⟨v,rfl,h1⟩:=afY ha;obtain rfl:=rW h1;refine iP (by kernel_rfl) (Any.strconv_Itoa Tryz.YR n (by omega) hx.2 w (amj hg)) ?_;rintro e w' ⟨rfl,k,os,rfl⟩;exact⟨Lib.below_grow _ w (Nat.le_refl _) k os,by simp[R]⟩
def alz(h:Zp l=some r)(ha:Rs cg w L l vs.toList):lQ Tryz.prog ((callFunc 114 vs).run Tryz.prog w) (gn w L r):=by
 unfold Zp at h;split at h
 case h_2=>cases h
 split at h
 case isFalse=>cases h
 rename_i s n hx;cases h;obtain⟨v,u,rfl,h1,h2⟩:=Cc ha;obtain rfl:=mI h1;obtain rfl:=rW h2;obtain⟨m,rfl⟩:∃m:Nat,n=m:=⟨n.toNat,by omega⟩;refine iP (by kernel_rfl) (Any.strings_Repeat Tryz.adP Tryz.xw ⟨s.toArray⟩ m w (by omega) (by have:=hx.2.2;rw[Lib.size_eq];simpa using this)) ?_;rintro e w' ⟨rfl,hb⟩;exact⟨hb,by simp[R]⟩
def Gs:∀{cs:List AV} {xs:List (List UInt8)},Ry cs=some xs->cs=xs.map AV.str
 |[],xs,h=>by cases h;rfl
 |.str s::l,xs,h=>by
  simp only[Ry,aLs]at h;obtain⟨ys,h1,rfl⟩:=h;rw[Gs h1];rfl
 |.bool _::_,_,h=>by cases h
 |.int .. ::_,_,h=>by cases h
 |.gQ::_,_,h=>by cases h
 |.bK .. ::_,_,h=>by cases h
 |.cS .. ::_,_,h=>by cases h
 |.ie .. ::_,_,h=>by cases h
 |.aH::_,_,h=>by cases h
 |.dw::_,_,h=>by cases h
 |.aI .. ::_,_,h=>by cases h
 |.aK .. ::_,_,h=>by cases h
 |.gb::_,_,h=>by cases h
 |.eR _::_,_,h=>by cases h
 |.vV .. ::_,_,h=>by cases h
 |.fR::_,_,h=>by cases h
 |.func .. ::_,_,h=>by cases h
 |.nilIface::_,_,h=>by cases h
 |.iface .. ::_,_,h=>by cases h
 |.agg _::_,_,h=>by cases h
 |.tuple _::_,_,h=>by cases h
 |.yield _::_,_,h=>by cases h
def aea(h:Oo l=some r)(ha:Rs cg w L l vs.toList):lQ Tryz.prog ((callFunc 116 vs).run Tryz.prog w) (gn w L r):=by
 unfold Oo at h;split at h
 case h_2=>cases h
 split at h
 case isFalse=>cases h
 rename_i cs n sep hx;split at h
 case h_2=>cases h
 rename_i xs XP;split at h
 case isFalse=>cases h
 rename_i hb;cases h;obtain⟨v,u,rfl,h1,h2⟩:=Cc ha;obtain rfl:=mI h2;simp only[R]at h1;obtain⟨cb,o,cap,c,e,f,rfl,sy,Qj,-,hat⟩:=h1;have pN:=Gs XP;have hlen:(xs.map fun s:List UInt8=>(⟨s.toArray⟩:ByteArray)).length=n:=by rw[aPN,<-hx.1,pN,aPN]
 have hmm:(xs.map fun s:List UInt8=>(⟨s.toArray⟩:ByteArray)).map (·.data.toList)=xs:=by rw[List.map_map];exact(List.map_congr_left fun s _=>rfl).trans (List.map_id _)
 have hC:=Any.strings_Join_48 Tryz.adR Tryz.xx cb o cap (xs.map fun s:List UInt8=>(⟨s.toArray⟩:ByteArray)) ⟨sep.toArray⟩ w (fun j x hj=>by
  rw[aM4,aLs]at hj;obtain⟨s,hs,rfl⟩:=hj;obtain⟨y,hy,hr⟩:=iH.get hat j (.str s) (by rw[pN,aM4,hs];rfl);obtain rfl:=mI hr;show w.cell? _=_
  unfold World.cell?;simp[Qj,hy]) (eF Qj) (by rw[hlen];exact hx.2.2) (by rw[hlen];exact sy) (by rw[hmm];exact hb.2)
 rw[hlen,hmm]at hC;refine iP (by kernel_rfl) hC ?_;rintro e w' ⟨rfl,hb⟩;exact⟨hb,by simp[R]⟩
def Mx(w:World):PredAt Tryz.prog 227 #[] encR (fun r=>decide (r<48)||decide (57<r)) w:=fun W r _=>by
 unfold FnGives;by_cases h1:r<48<;>by_cases h2:57<r
 all_goals
  have z1:(r:Int)<48↔r<48:=by omega
  have z2:(57:Int)<(r:Int)↔57<r:=by omega
  go_enter Tryz.func227,Tryz.ntmps227
  go_wp2
  all_goals first|(exfalso;omega)|(go_ret;exact⟨by simp[h1,h2],0,rfl⟩)
def Cq{s:ByteArray}(h:∀b∈s.data.toList,48<=b.toNat/\b.toNat<=57):∀(f pos:Nat),Lib.idxFuncFrom (fun r=>decide (r<48)||decide (57<r)) true s f pos= -1
 |0,_=>rfl
 |f+1,pos=>by
  unfold Lib.idxFuncFrom
  split
  ·rename_i hp;rw[<-Lib.decodeL_drop];have hp':pos<s.data.toList.length:=by rw[<-Lib.size_eq];exact hp
   rw[List.drop_eq_getElem_cons hp'];have hb:=h _ (List.getElem_mem hp');generalize s.data.toList[pos]=x at hb;have z1:decide (x.toNat<48)=false:=decide_eq_false (by omega);have z2:decide (57<x.toNat)=false:=decide_eq_false (by omega);rw[Lib.decodeL_ascii _ _ (by omega)];simp only[z1,z2];rw[if_neg (by simp)];exact Cq h f _
  ·rfl
def KK(h:oF 227 l=some r)(ha:Rs cg w L l vs.toList):lQ Tryz.prog ((callFunc 226 vs).run Tryz.prog w) (gn w L r):=by
 unfold oF at h;split at h
 case h_2=>cases h
 split at h
 case isFalse=>cases h
 rename_i s g hx;cases h;obtain⟨rfl,hd,-⟩:=hx;obtain⟨v,u,rfl,h1,h2⟩:=Cc ha;obtain rfl:=mI h1;simp only[R,Rs]at h2;obtain⟨a,c,rfl,vM,GX⟩:=h2;obtain rfl:a=#[]:=aPM.1 (by simpa using vM);obtain rfl:c=#[]:=aPM.1 (by simpa using GX);have hC:=Any.strings_ContainsFunc Tryz.YQ 227 #[] (enters_of Tryz.func227 (by kernel_rfl) rfl) _ ⟨s.toArray⟩ w (Mx w);refine iP (by kernel_rfl) hC ?_;rintro e w' ⟨rfl,hb⟩;refine⟨hb,?_⟩;simp only[R];congr 1;unfold Lib.idxFunc;rw[Cq (fun b hb=>by
  have:=aMf.1 hd b (by simpa using hb)
  simpa using this)]
 rfl
end
def agY{o:Nat->List AV->Option AV}(ho:lY E0 Tryz.prog fun f l=>if f=5∨f=98 then o f l else none):o5 (EN o) Tryz.prog:=by
 refine⟨?_,?_⟩
 ·intro f al r hr L w vs hl hg ha;have kB:(if f=5∨f=98 then o f al else iC Bo f al)=some r:=hr;by_cases hk:f=5∨f=98
  ·rw[if_pos hk]at kB;exact ho f al r (by simp only[if_pos hk];exact kB) L w vs hl hg ha
  rw[if_neg hk]at kB;unfold iC at kB;split at kB
  ·rename_i h;subst h;exact aly kB ha
  split at kB
  ·rename_i h;subst h;exact auW kB ha
  split at kB
  ·rename_i h;subst h;exact aeb kB ha
  split at kB
  ·rename_i h;subst h;exact ES kB ha
  split at kB
  ·rename_i h;subst h;exact Hv kB ha
  split at kB
  ·rename_i h;subst h;exact Hw kB ha
  split at kB
  ·rename_i h;subst h;exact ad9 hg kB ha
  split at kB
  ·rename_i h;subst h;exact alz kB ha
  split at kB
  ·rename_i h;subst h;exact aea kB ha
  split at kB
  ·rename_i h;subst h;exact KK kB ha
  ·cases kB
 ·refine qt.env (E:=E0) adG rfl ?_;intro c;have e:EN o={E0 with ov:=(EN o).ov,rH:=EV}:=by simp only[E0,EN]
  rw[e];exact gm _ _ c
def oG:o5 E0 Tryz.prog:=agY fun f al r h=>by simp at h
end Go.Proofs.YtmkjgfnicfpjpaaGreatDoor
