/- A part of the proof that PairChecks returns true for every input; no condition of its own. -/
import Derived.Shelf.Strings.OnBuilder
import Derived.Shelf.Strings.Trim
import Derived.Shelf.Strings.SlTrimAscii
import Derived.Shelf.Strings.Prefix
import Derived.Shelf.Strings.Repeat
import Derived.Shelf.Strings.FuncGrows
import Derived.Shelf.Small.Bits
import Derived.Shelf.Small.Wraps
import Derived.Shelf.LaysM
import Derived.Shelf.Strconv.Itoa3
import Derived.Shelf.Pu.ParseUintPublic10
import Derived.Shelf.GgClosure.StringsIndexFuncTop
import Derived.Room.Shelf.Join48
import Derived.Test.YtblnjkjjedanaaaGreatDoorProg
import Derived.Lib.SmallJoins
import Derived.Lib.LaidTab
import Derived.Lib.AppendIntMem
import Derived.Lib.TrimUEq
import Derived.Lib.TrimAscii
import Derived.WalkKit
import Derived.Test.YtblnjkjjedanaaaGreatDoorTan
import Derived.Test.YtblnjkjjedanaaaGreatDoorTie
import Derived.Test.YtblnjkjjedanaaaGreatDoorCards
import Derived.ProofKit
import Derived.LaidMore
import Derived.OpenShut
import Derived.Stop.Joined
import Derived.SevenTiedAt
import Derived.Carry
set_option linter.all false
set_option maxHeartbeats 100000000
set_option maxRecDepth 100000
open Option renaming some->aKV,map_eq_some_iff->aKP,bind_some->aN6
open List renaming getElem?_map->aLI,getElem?_eq_getElem->aL5,all_eq_true->aLN,length_map->aTV,getElem?_toArray->aWn,mem_append_right->aNj,mem_append_left->aNn
open Array renaming toList_inj->aWm
open Bool renaming and_eq_true->aLR
namespace Go.Proofs
open Go.Shelf
def Tryz.DT:Go.Shelf.Ren:=⟨fun|156=>94|165=>125|166=>126|169=>128|240=>165|241=>166|276=>196|277=>197|n=>n,fun|31=>54|9=>9|3=>3|4=>4|0=>0|20=>20|72=>195|76=>199|70=>192|37=>193|75=>198|127=>244|164=>271|5=>5|80=>117|n=>n,fun|n=>n⟩
theorem Tryz.acO:Go.Proofs.Lays.n156 Tryz.prog Tryz.DT:=by constructor<;>first|kernel_rfl|(intro _;kernel_rfl)|decide|(constructor<;>first|kernel_rfl|(intro _;kernel_rfl)|decide)
theorem Tryz.Bf:Builder.Extra Tryz.prog Tryz.DT:=by constructor<;>first|kernel_rfl|(intro _;kernel_rfl)|decide|(constructor<;>first|kernel_rfl|(intro _;kernel_rfl)|decide)
def Tryz.N2:Go.Shelf.Ren:=⟨fun|160=>118|232=>150|231=>149|227=>151|234=>153|233=>152|236=>155|235=>154|228=>184|271=>187|151=>186|197=>185|120=>218|152=>217|260=>216|137=>240|119=>241|224=>214|225=>213|217=>212|266=>238|n=>n,fun|9=>9|4=>4|3=>3|5=>5|117=>229|116=>228|0=>0|124=>232|21=>21|105=>261|46=>157|119=>306|139=>309|138=>308|n=>n,fun|3=>2|4=>3|n=>n⟩
theorem Tryz.aaX:Go.Proofs.Lays.n160 Tryz.prog Tryz.N2:=by constructor<;>first|kernel_rfl|(intro _;kernel_rfl)|decide|(constructor<;>first|kernel_rfl|(intro _;kernel_rfl)|decide)
def Tryz.M4:Go.Shelf.Ren:=⟨fun|133=>177|128=>209|n=>n,fun|51=>156|3=>3|4=>4|46=>157|5=>5|9=>9|n=>n,fun|n=>n⟩
theorem Tryz.abg:Go.Proofs.Lays.n133 Tryz.prog Tryz.M4:=by constructor<;>first|kernel_rfl|(intro _;kernel_rfl)|decide|(constructor<;>first|kernel_rfl|(intro _;kernel_rfl)|decide)
def Tryz.MT:Go.Shelf.Ren:=⟨fun|103=>156|210=>188|206=>164|n=>n,fun|9=>9|4=>4|24=>52|3=>3|n=>n,fun|n=>n⟩
theorem Tryz.acD:Go.Proofs.Lays.n103 Tryz.prog Tryz.MT:=by constructor<;>first|kernel_rfl|(intro _;kernel_rfl)|decide|(constructor<;>first|kernel_rfl|(intro _;kernel_rfl)|decide)
def Tryz.Kc:Go.Shelf.Ren:=⟨fun|171=>91|243=>122|246=>161|283=>192|284=>193|285=>194|286=>195|129=>210|317=>226|318=>227|319=>228|320=>229|337=>244|338=>245|n=>n,fun|3=>3|9=>9|2=>2|4=>4|171=>266|0=>0|53=>154|37=>193|5=>5|173=>269|212=>295|51=>156|20=>20|213=>296|46=>157|232=>320|233=>321|n=>n,fun|17=>1|18=>6|19=>7|n=>n⟩
theorem Tryz.Xh:Go.Proofs.LaysM.n171 Tryz.prog Tryz.Kc:=by constructor<;>first|kernel_rfl|(intro _;kernel_rfl)|decide|(constructor<;>first|kernel_rfl|(intro _;kernel_rfl)|decide)
def Tryz.Kn:Go.Shelf.Ren:=⟨fun|14=>159|16=>190|17=>191|19=>220|20=>221|21=>222|22=>223|23=>224|24=>225|25=>242|27=>91|26=>243|28=>122|29=>161|30=>192|31=>193|32=>194|33=>195|35=>210|34=>226|36=>227|37=>228|38=>229|39=>244|40=>245|n=>n,fun|9=>9|3=>3|22=>154|24=>198|25=>236|4=>4|34=>289|5=>5|36=>157|37=>193|0=>0|39=>291|21=>21|44=>312|47=>244|50=>319|48=>317|2=>2|52=>266|55=>269|59=>295|60=>156|20=>20|61=>296|65=>320|66=>321|67=>117|n=>n,fun|0=>4|1=>5|2=>1|3=>6|4=>7|n=>n⟩
theorem Tryz.ZV:Go.Proofs.LaysPu.n14 Tryz.prog Tryz.Kn:=by constructor<;>first|kernel_rfl|(intro _;kernel_rfl)|decide|(constructor<;>first|kernel_rfl|(intro _;kernel_rfl)|decide)
def Tryz.JR:Go.Shelf.Ren:=⟨fun|17=>157|15=>189|20=>219|n=>n,fun|9=>9|23=>235|4=>4|3=>3|0=>0|21=>21|n=>n,fun|n=>n⟩
theorem Tryz.Zk:Go.Proofs.LaysGw.n17 Tryz.prog Tryz.JR:=by constructor<;>first|kernel_rfl|(intro _;kernel_rfl)|decide|(constructor<;>first|kernel_rfl|(intro _;kernel_rfl)|decide)
def Tryz.LN:Go.Shelf.Ren:=⟨fun|101=>117|208=>148|206=>164|n=>n,fun|9=>9|4=>4|3=>3|n=>n,fun|n=>n⟩
theorem Tryz.adx:Go.Proofs.Lays.n101 Tryz.prog Tryz.LN:=by constructor<;>first|kernel_rfl|(intro _;kernel_rfl)|decide|(constructor<;>first|kernel_rfl|(intro _;kernel_rfl)|decide)
def Tryz.DO:Go.Shelf.Ren:=⟨fun|105=>92|212=>123|99=>124|165=>125|166=>126|170=>127|169=>128|263=>162|264=>163|206=>164|240=>165|241=>166|276=>196|277=>197|n=>n,fun|9=>9|3=>3|4=>4|20=>20|0=>0|46=>157|109=>189|5=>5|72=>195|76=>199|51=>156|146=>240|53=>154|148=>242|70=>192|37=>193|75=>198|127=>244|164=>271|80=>117|n=>n,fun|n=>n⟩
theorem Tryz.adW:Go.Proofs.Lays.n105 Tryz.prog Tryz.DO:=by constructor<;>first|kernel_rfl|(intro _;kernel_rfl)|decide|(constructor<;>first|kernel_rfl|(intro _;kernel_rfl)|decide)
theorem Tryz.Bb:Builder.Extra Tryz.prog Tryz.DO:=by constructor<;>first|kernel_rfl|(intro _;kernel_rfl)|decide|(constructor<;>first|kernel_rfl|(intro _;kernel_rfl)|decide)
end Go.Proofs
namespace Go.Proofs.YtblnjkjjedanaaaGreatDoor
open Go Go.RowKit Dv
variable{E:Env}[C:Ctx E]
theorem akk{f:Nat}(h:(E0.fn f).isSome=true)(vs:Array Value)(w:World):(callFunc f vs).run Tryz.prog w=.ok (.enter f vs) w:=by obtain⟨fi,mI⟩:=Option.isSome_iff_exists.1 h;exact mh XJ mI vs w
theorem kB{f:Nat}{vs:Array Value}{w:World}{post:Ending->World->Prop}{Rr:Value->World->Prop}(h:(E0.fn f).isSome=true)(hc:Calls Tryz.prog f vs w post)(hm:∀e w',post e w'->SZ Rr e w'):r9 Tryz.prog ((callFunc f vs).run Tryz.prog w) Rr:=
 .inr (.inl ⟨f,vs,w,akk h vs w,callsIn_wide.2 (hc.mono hm)⟩)
abbrev ju(w:World)(L:Nat->Prop)(r:AV):Value->World->Prop:=fun v w'=>Below w.heap.size w w'/\R cS w' L r v
section
variable{l:List AV}{r:AV}{L:Nat->Prop}{w:World}{vs:Array Value}
theorem afa{a:AV}(h:Rs cS w L [a] vs.toList):∃v,vs=#[v]/\R cS w L a v:=by simp only[Rs]at h;obtain⟨v1,l1,e1,h1,rfl⟩:=h;exact⟨v1,aWm.1 e1,h1⟩
theorem Gi{a b:AV}(h:Rs cS w L [a,b] vs.toList):∃v u,vs=#[v,u]/\R cS w L a v/\R cS w L b u:=by simp only[Rs]at h;obtain⟨v1,l1,e1,h1,v2,l2,rfl,h2,rfl⟩:=h;exact⟨v1,v2,aWm.1 e1,h1,h2⟩
theorem an8{a b c:AV}(h:Rs cS w L [a,b,c] vs.toList):∃v u x,vs=#[v,u,x]/\R cS w L a v/\R cS w L b u/\R cS w L c x:=by simp only[Rs]at h;obtain⟨v1,l1,e1,h1,v2,l2,rfl,h2,v3,l3,rfl,h3,rfl⟩:=h;exact⟨v1,v2,v3,aWm.1 e1,h1,h2,h3⟩
theorem pF{s:List UInt8}{v:Value}(h:R cS w L (.str s) v):v=.string ⟨s.toArray⟩:=by simpa[R]using h
theorem u6{k:IntKind}{n:Int}{v:Value}(h:R cS w L (.int k n) v):v=.int k n:=by simpa[R]using h
theorem func238:∃fn,Tryz.prog.funcs[238]?=some fn/\(fn.name== "runtime.NumGoroutine")=false/\fn.body.isNone=true/\Extern.findNext fn=none/\Extern.find fn=some Extern.BytealgIndexByte.indexByte:=
 ⟨Tryz.f238,Tryz.func238,by kernel_rfl,by kernel_rfl,by kernel_rfl,by kernel_rfl⟩
theorem ajH(h:SJ l=some r)(ha:Rs cS w L l vs.toList):r9 Tryz.prog ((callFunc 238 vs).run Tryz.prog w) (ju w L r):=by
 unfold SJ at h;split at h
 case h_2=>cases h
 rename_i s c;cases h;obtain⟨v,u,rfl,h1,h2⟩:=Gi ha;obtain rfl:=pF h1;obtain rfl:=u6 h2;obtain⟨fn,g1,g2,g3,g4,g5⟩:=func238;refine .inl ⟨.int .i64 (Lib.indexByte s c.toNat.toUInt8),w,?_,Go.RowKit.Below.refl _ _,by simp[R]⟩;rw[run_callFunc_extern g1 g2 g3 g4 g5,Lib.run_indexByteString];simp[Result.andThen]
theorem apa(h:Wq l=some r)(ha:Rs cS w L l vs.toList):r9 Tryz.prog ((callFunc 177 vs).run Tryz.prog w) (ju w L r):=by
 unfold Wq at h;split at h
 case h_2=>cases h
 split at h
 case isFalse=>cases h
 rename_i x hx;cases h;obtain⟨v,rfl,h1⟩:=afa ha;obtain rfl:=u6 h1;refine kB (by kernel_rfl) (Any.bits_LeadingZeros32 Tryz.abg x w hx.1 hx.2) ?_;rintro e w' ⟨rfl,rfl⟩;exact⟨Below.refl _ _,by simp[R]⟩
theorem ad7(h:Fx l=some r)(ha:Rs cS w L l vs.toList):r9 Tryz.prog ((callFunc 118 vs).run Tryz.prog w) (ju w L r):=by
 unfold Fx at h;split at h
 case h_2=>cases h
 split at h
 case isFalse=>cases h
 rename_i s c hx;cases h;obtain⟨h3,h4,h5⟩:=hx;obtain⟨v,u,rfl,h1,h2⟩:=Gi ha;obtain rfl:=pF h1;obtain rfl:=pF h2;refine kB (by kernel_rfl) (Any.strings_Trim_laid Tryz.aaX (by kernel_rfl) ⟨s.toArray⟩ ⟨c.toArray⟩ w h5 h4 ?_) ?_
 ·intro j b hb
  have:=aLN.1 h3 b (List.mem_of_getElem? hb)
  simpa using this
 ·rintro e w' ⟨rfl,hb⟩;exact⟨hb,by simp[R]⟩
theorem Hv(h:qF l=some r)(ha:Rs cS w L l vs.toList):r9 Tryz.prog ((callFunc 117 vs).run Tryz.prog w) (ju w L r):=by
 unfold qF at h;split at h
 case h_2=>cases h
 rename_i s c;cases h;obtain⟨v,u,rfl,h1,h2⟩:=Gi ha;obtain rfl:=pF h1;obtain rfl:=pF h2;refine kB (by kernel_rfl) (Any.strings_TrimPrefix Tryz.adx ⟨s.toArray⟩ ⟨c.toArray⟩ w) ?_;rintro e w' ⟨rfl,rfl⟩;exact⟨Below.refl _ _,by simp[R]⟩
theorem Jq(h:sD l=some r)(ha:Rs cS w L l vs.toList):r9 Tryz.prog ((callFunc 156 vs).run Tryz.prog w) (ju w L r):=by
 unfold sD at h;split at h
 case h_2=>cases h
 rename_i s c;cases h;obtain⟨v,u,rfl,h1,h2⟩:=Gi ha;obtain rfl:=pF h1;obtain rfl:=pF h2;refine kB (by kernel_rfl) (Any.strings_CutPrefix Tryz.acD ⟨s.toArray⟩ ⟨c.toArray⟩ w) ?_;rintro e w' ⟨rfl,rfl⟩;exact⟨Below.refl _ _,by simp[R,Rs]⟩
theorem J3(h:ph l=some r)(ha:Rs cS w L l vs.toList):r9 Tryz.prog ((callFunc 159 vs).run Tryz.prog w) (ju w L r):=by
 unfold ph at h;split at h
 case h_2=>cases h
 split at h
 case isFalse=>cases h
 rename_i s b z hx;obtain⟨rfl,rfl,hl⟩:=hx;split at h
 case h_2=>cases h
 rename_i u hu;cases h;obtain⟨v,x,y,rfl,h1,h2,h3⟩:=an8 ha;obtain rfl:=pF h1;obtain rfl:=u6 h2;obtain rfl:=u6 h3;refine kB (by kernel_rfl) (Any.strconv_ParseUint_10_at32_ok Tryz.ZV ⟨s.toArray⟩ hl u hu w) ?_;rintro e w' ⟨rfl,hb⟩;refine⟨?_,by simp[R,Rs]⟩;rcases hb with rfl|rfl
 ·exact Below.refl _ _
 ·exact Lib.bytesWorld_below w _ _
theorem agK(hg:DV E0 L w):Lib.TabIs Tryz.prog w "internal/strconv.uint64pow10" .u64 Lib.pow10Tab:=by
 obtain⟨c,e,f,h1,h2,h3,h4⟩:=hg 1 BY rfl;have hgn:Tryz.prog.globalNamed "internal/strconv.uint64pow10"=some 1:=by kernel_rfl
 unfold Lib.TabIs World.var?;rw[hgn];simp only[aN6,h1,aKV.injEq];have hT:BY=Lib.pow10Tab.map fun z=>AV.int .u64 z:=by kernel_rfl
 have hlen:BY.length=20:=by kernel_rfl
 apply Array.ext_getElem?;intro i;have hp:Lib.pow10Tab.length=20:=Lib.pow10Tab_length;by_cases hi:i<20
 ·have hx:BY[i]?=some (.int .u64 (Lib.pow10Tab[i]'(by omega))):=by rw[hT,aLI,aL5 (by omega)];rfl
  obtain⟨y,hy,hr⟩:=kN.get h3 i _ hx;rw[Nat.zero_add]at hy;obtain rfl:=u6 hr;rw[hy,aWn,aLI,aL5 (by omega)];rfl
 ·rw[Array.getElem?_eq_none (by omega),aWn,List.getElem?_eq_none (by rw[aTV];omega)]
theorem adq(hg:DV E0 L w)(h:ER l=some r)(ha:Rs cS w L l vs.toList):r9 Tryz.prog ((callFunc 91 vs).run Tryz.prog w) (ju w L r):=by
 unfold ER at h;split at h
 case h_2=>cases h
 split at h
 case isFalse=>cases h
 rename_i n hx;cases h;obtain⟨v,rfl,h1⟩:=afa ha;obtain rfl:=u6 h1;refine kB (by kernel_rfl) (Any.strconv_Itoa Tryz.Xh n (by omega) hx.2 w (agK hg)) ?_;rintro e w' ⟨rfl,k,os,rfl⟩;exact⟨Lib.below_grow _ w (Nat.le_refl _) k os,by simp[R]⟩
theorem ahx(h:M0 l=some r)(ha:Rs cS w L l vs.toList):r9 Tryz.prog ((callFunc 92 vs).run Tryz.prog w) (ju w L r):=by
 unfold M0 at h;split at h
 case h_2=>cases h
 split at h
 case isFalse=>cases h
 rename_i s n hx;cases h;obtain⟨v,u,rfl,h1,h2⟩:=Gi ha;obtain rfl:=pF h1;obtain rfl:=u6 h2;obtain⟨m,rfl⟩:∃m:Nat,n=m:=⟨n.toNat,by omega⟩;refine kB (by kernel_rfl) (Any.strings_Repeat Tryz.adW Tryz.Bb ⟨s.toArray⟩ m w (by omega) (by have:=hx.2.2;rw[Lib.size_eq];simpa using this)) ?_;rintro e w' ⟨rfl,hb⟩;exact⟨hb,by simp[R]⟩
theorem IU:∀{cs:List AV} {xs:List (List UInt8)},I6 cs=some xs->cs=xs.map AV.str
 |[],xs,h=>by cases h;rfl
 |.str s::l,xs,h=>by
  simp only[I6,aKP]at h;obtain⟨ys,h1,rfl⟩:=h;rw[IU h1];rfl
 |.bool _::_,_,h=>by cases h
 |.int .. ::_,_,h=>by cases h
 |.jF::_,_,h=>by cases h
 |.b9 .. ::_,_,h=>by cases h
 |.eX .. ::_,_,h=>by cases h
 |.sf .. ::_,_,h=>by cases h
 |.aH::_,_,h=>by cases h
 |.eW::_,_,h=>by cases h
 |.aI .. ::_,_,h=>by cases h
 |.aK .. ::_,_,h=>by cases h
 |.jV::_,_,h=>by cases h
 |.jt _::_,_,h=>by cases h
 |.tO .. ::_,_,h=>by cases h
 |.jk::_,_,h=>by cases h
 |.func .. ::_,_,h=>by cases h
 |.nilIface::_,_,h=>by cases h
 |.iface .. ::_,_,h=>by cases h
 |.agg _::_,_,h=>by cases h
 |.tuple _::_,_,h=>by cases h
 |.yield _::_,_,h=>by cases h
theorem acS(h:Cb l=some r)(ha:Rs cS w L l vs.toList):r9 Tryz.prog ((callFunc 94 vs).run Tryz.prog w) (ju w L r):=by
 unfold Cb at h;split at h
 case h_2=>cases h
 split at h
 case isFalse=>cases h
 rename_i cs n sep hx;split at h
 case h_2=>cases h
 rename_i xs XW;split at h
 case isFalse=>cases h
 rename_i hb;cases h;obtain⟨v,u,rfl,h1,h2⟩:=Gi ha;obtain rfl:=pF h2;simp only[R]at h1;obtain⟨cb,o,cap,c,e,f,rfl,ahU,Sq,-,zr⟩:=h1;have sd:=IU XW;have hlen:(xs.map fun s:List UInt8=>(⟨s.toArray⟩:ByteArray)).length=n:=by rw[aTV,<-hx.1,sd,aTV]
 have WZ:(xs.map fun s:List UInt8=>(⟨s.toArray⟩:ByteArray)).map (·.data.toList)=xs:=by rw[List.map_map];exact(List.map_congr_left fun s _=>rfl).trans (List.map_id _)
 have hC:=Any.strings_Join_48 Tryz.acO Tryz.Bf cb o cap (xs.map fun s:List UInt8=>(⟨s.toArray⟩:ByteArray)) ⟨sep.toArray⟩ w (fun j x hj=>by
  rw[aLI,aKP]at hj;obtain⟨s,hs,rfl⟩:=hj;obtain⟨y,hy,hr⟩:=kN.get zr j (.str s) (by rw[sd,aLI,hs];rfl);obtain rfl:=pF hr;show w.cell? _=_
  unfold World.cell?;simp[Sq,hy]) (ie Sq) (by rw[hlen];exact hx.2.2) (by rw[hlen];exact ahU) (by rw[WZ];exact hb.2)
 rw[hlen,WZ]at hC;refine kB (by kernel_rfl) hC ?_;rintro e w' ⟨rfl,hb⟩;exact⟨hb,by simp[R]⟩
theorem Py(w:World):PredAt Tryz.prog 158 #[] encR (fun r=>decide (r<48)||decide (57<r)) w:=fun W r _=>by
 unfold FnGives;by_cases h1:r<48<;>by_cases h2:57<r
 all_goals
  have z1:(r:Int)<48↔r<48:=by omega
  have z2:(57:Int)<(r:Int)↔57<r:=by omega
  go_enter Tryz.func158,Tryz.ntmps158
  go_wp2
  all_goals first|(exfalso;omega)|(go_ret;exact⟨by simp[h1,h2],0,rfl⟩)
theorem GH{s:ByteArray}(h:∀b∈s.data.toList,48<=b.toNat/\b.toNat<=57):∀(f pos:Nat),Lib.idxFuncFrom (fun r=>decide (r<48)||decide (57<r)) true s f pos= -1
 |0,_=>rfl
 |f+1,pos=>by
  unfold Lib.idxFuncFrom
  split
  ·rename_i hp;rw[<-Lib.decodeL_drop];have hp':pos<s.data.toList.length:=by rw[<-Lib.size_eq];exact hp
   rw[List.drop_eq_getElem_cons hp'];have hb:=h _ (List.getElem_mem hp');generalize s.data.toList[pos]=x at hb;have z1:decide (x.toNat<48)=false:=cg (by omega);have z2:decide (57<x.toNat)=false:=cg (by omega);rw[Lib.decodeL_ascii _ _ (by omega)];simp only[z1,z2];rw[if_neg (by simp)];exact GH h f _
  ·rfl
theorem NT(h:rE 158 l=some r)(ha:Rs cS w L l vs.toList):r9 Tryz.prog ((callFunc 157 vs).run Tryz.prog w) (ju w L r):=by
 unfold rE at h;split at h
 case h_2=>cases h
 split at h
 case isFalse=>cases h
 rename_i s g hx;cases h;obtain⟨rfl,hd,-⟩:=hx;obtain⟨v,u,rfl,h1,h2⟩:=Gi ha;obtain rfl:=pF h1;simp only[R,Rs]at h2;obtain⟨a,c,rfl,Oy,vL⟩:=h2;obtain rfl:a=#[]:=aWm.1 (by simpa using Oy);obtain rfl:c=#[]:=aWm.1 (by simpa using vL);have hC:=Any.strings_ContainsFunc Tryz.Zk 158 #[] (enters_of Tryz.func158 (by kernel_rfl) rfl) _ ⟨s.toArray⟩ w (Py w);refine kB (by kernel_rfl) hC ?_;rintro e w' ⟨rfl,hb⟩;refine⟨hb,?_⟩;simp only[R];congr 1;unfold Lib.idxFunc;rw[GH (fun b hb=>by
  have:=aLN.1 hd b (by simpa using hb)
  simpa using this)]
 rfl
end
theorem anx:Eg E0 Tryz.prog:=by
 refine⟨?_,?_⟩
 ·intro f al r hr L w vs hl hg ha;have nw:jC Bz f al=some r:=hr;unfold jC at nw;split at nw
  ·rename_i h;subst h;exact ajH nw ha
  split at nw
  ·rename_i h;subst h;exact apa nw ha
  split at nw
  ·rename_i h;subst h;exact ad7 nw ha
  split at nw
  ·rename_i h;subst h;exact Hv nw ha
  split at nw
  ·rename_i h;subst h;exact Jq nw ha
  split at nw
  ·rename_i h;subst h;exact J3 nw ha
  split at nw
  ·rename_i h;subst h;exact adq hg nw ha
  split at nw
  ·rename_i h;subst h;exact ahx nw ha
  split at nw
  ·rename_i h;subst h;exact acS nw ha
  split at nw
  ·rename_i h;subst h;exact NT nw ha
  ·cases nw
 ·intro f al H v H2 h;cases h
end Go.Proofs.YtblnjkjjedanaaaGreatDoor
namespace Go.Proofs.YtblnjkjjedanaaaGreatDoor
open Go Go.ChangeShapes Go.WideShapes Go.ChangeAt Go.RowKit Go.ChangeMaps Dv
namespace X1
variable{E:Env}[C:ou E]
theorem fnX:(List.range' 0 278).all (sU EX)=true:=by kernel_rfl
theorem XG:Valid EX Tryz.prog:=by
 refine Dl (E:=EX) (P:=Tryz.prog) (imp:=[40]) (fL:=[]) (skip:=R6) (by rw[aeX];simp only[E0]) afL IM Jl fun f hf=>?_
 rw[LQ]at hf;exact gk fnX (by omega) (by omega)
theorem aeQ:EX.glob=E0.glob:=by simp only[EX]
theorem anS:Eg EX Tryz.prog:=by
 refine⟨?_,?_⟩
 ·intro f al r hr L w vs hl hg ha;rw[Z7]at hr;simp only at hr;split at hr
  ·cases hr
  ·obtain⟨-,n,hn⟩:=uT hr;exact JW XJ anx n f al r hn L w vs hl (fun g cs h=>hg g cs (by rw[aeQ];exact h)) ha
 ·intro f al H v H2 h;rw[WT]at h;cases h
theorem awh:ou EX:=⟨rfl⟩
end X1
theorem own:ownKnob Tryz.prog.godebug=none:=by kernel_rfl
theorem laidOut:laidOutB Tryz.prog=true:=by kernel_rfl
theorem yV{H:Type}{enc:TypeId×Value->H}{P:Program}(hl:laidOutB P=true){W W':World}{sp:Nat->Bool}(hb:Go.RowKit.Below W.heap.size W W'):∀{ts:List TypeId} {vs:List Value} {ds:List (DataW H)} {ps:List MemPlace},
  (∀t∈ts,P.readableRec t=true/\t<P.types.size)->DataW.TrodAll enc P W 0 (fun _=>true) true ts vs ds ps->(∀p∈ps,p.block<W.heap.size)->(∀p∈ps,sp p.block=true)->DataW.TrodAll enc P W' 0 sp true ts vs ds ps
 |[],[],[],_,_,h,_,_=>h
 |t::ts,v::vs,d::ds,ps,ht,h,iH,hs=>by
  obtain⟨p,p',h1,h2,rfl⟩:=h;have q:=ht t (List.mem_cons_self ..);exact trodAll_cons_mk (WideElems.Trod_stays hl q.1 q.2 h1 (fun x hx=>hb.same (iH x (aNn _ hx))) (fun x hx=>hs x (aNn _ hx)))
   (yV hl hb (fun t ht'=>ht t (List.mem_cons_of_mem _ ht')) h2 (fun x hx=>iH x (aNj _ hx)) (fun x hx=>hs x (aNj _ hx)))
 |[],_::_,_,_,_,h,_,_=>by simp[DataW.TrodAll]at h
 |[],[],_::_,_,_,h,_,_=>by simp[DataW.TrodAll]at h
 |_::_,[],_,_,_,h,_,_=>by simp[DataW.TrodAll]at h
 |_::_,_::_,[],_,_,h,_,_=>by simp[DataW.TrodAll]at h
theorem HZ{H:Type}{enc:TypeId×Value->H}{P:Program}{f:Func}{s:ChangeSpec}{apart fresh handsOn again:Bool}{W W':World}{args:Array Value}{v:Value}{ds gs:List (DataW H)}{before pa pv:List MemPlace}
  (hW:DataW.Whole enc P f.params.toList s.vars apart W args.toList ds gs before)
  (kg:∀(b:Nat) (sp:Nat->Bool) (hd:Bool),DataW.TrodAll enc P W' b sp hd f.resultTypes.toList (v.resultList f.resultTypes.size) (s.fn H (ds++gs)).results [])
  (vo:∀sp:Nat->Bool,(∀p∈before,sp p.block=true)->DataW.TrodAll enc P W' 0 sp true f.params.toList args.toList (s.fn H (ds++gs)).args pa)
  (afd:∀sp:Nat->Bool,(∀p∈before,sp p.block=true)->DataW.TrodVars enc P W' sp s.vars (s.fn H (ds++gs)).vars pv)
  (hps:before=pa++pv) (hb:Go.RowKit.Below W.heap.size W W')
  (hok:∀(j:Nat) (t:TypeId) (r:Value),f.resultTypes[j]?=some t->(v.resultList f.resultTypes.size)[j]?=some r->Value.okWide P W' .any 0 t r):
  s.post enc P f apart fresh handsOn again W args v W':=by
 have iH:=hW.lt;have hold:∀p∈before,(fun b=>decide (b<W.heap.size)) p.block=true:=fun p hp=>by simpa using hW.lt p hp
 refine⟨ds,gs,before,[],pa,pv,hW,kg _ _ _,vo _ hold,afd _ hold,hb.frame _,fun _=>?_⟩;obtain⟨_,_,_,_,_,hz,hn⟩:=hW;refine⟨hok,_,_,([]++pa)++pv,⟨[]++pa,pv,trodAll_append (vo _ (fun _ _=>rfl)) (kg _ _ _),afd _ (fun _ _=>rfl),rfl,?_,?_⟩,?_⟩
 ·intro b off hp;have hm:MemPlace.cell b off∈before:=by rw[hps];simpa using hp
  rw[hb.frozen (iH _ hm)];exact hz b off hm
 ·intro ha
  have:=hn ha
  rw[hps]at this;simpa using this
 ·intro p hp _;rw[hps];simpa using hp
theorem u3:Tryz.prog.underlying 3=some (.int .i64):=by kernel_rfl
theorem u4:Tryz.prog.underlying 4=some .bool:=by kernel_rfl
theorem u26:Tryz.prog.underlying 26=some .string:=by kernel_rfl
theorem u37:Tryz.prog.underlying 37=some (.array 3 26):=by kernel_rfl
theorem u44:Tryz.prog.underlying 44=some (.array 4 3):=by kernel_rfl
theorem cz3:Tryz.prog.cellsOf 3=1:=by kernel_rfl
theorem cz4:Tryz.prog.cellsOf 4=1:=by kernel_rfl
theorem asi:Tryz.prog.cellsOf 26=1:=by kernel_rfl
theorem abj:Tryz.prog.cellsOf 37=3:=by kernel_rfl
theorem asD:Tryz.prog.cellsOf 44=4:=by kernel_rfl
theorem ax8:Tryz.prog.cellsOf 39=10:=by kernel_rfl
theorem axt:Tryz.prog.cellsOf 46=7:=by kernel_rfl
theorem aoA{α:Type}{l:List α}(hl:l.length=2):∃a b,l=[a,b]:=by
 obtain _|⟨a,l⟩:=l
 ·simp at hl
 obtain _|⟨b,l⟩:=l
 ·simp at hl
 obtain _|⟨x,l⟩:=l
 ·exact⟨a,b,rfl⟩
 ·simp at hl
theorem arH{α:Type}{l:List α}(hl:l.length=3):∃a b c,l=[a,b,c]:=by
 obtain _|⟨a,l⟩:=l
 ·simp at hl
 obtain _|⟨b,l⟩:=l
 ·simp at hl
 obtain _|⟨c,l⟩:=l
 ·simp at hl
 obtain _|⟨x,l⟩:=l
 ·exact⟨a,b,c,rfl⟩
 ·simp at hl
theorem asx{α:Type}{l:List α}(hl:l.length=4):∃a b c d,l=[a,b,c,d]:=by
 obtain _|⟨a,l⟩:=l
 ·simp at hl
 obtain _|⟨b,l⟩:=l
 ·simp at hl
 obtain _|⟨c,l⟩:=l
 ·simp at hl
 obtain _|⟨d,l⟩:=l
 ·simp at hl
 obtain _|⟨x,l⟩:=l
 ·exact⟨a,b,c,d,rfl⟩
 ·simp at hl
theorem aoF{α:Type}{l:List α}(hl:l.length=6):∃a b c d e f,l=[a,b,c,d,e,f]:=by
 obtain _|⟨a,l⟩:=l
 ·simp at hl
 obtain _|⟨b,l⟩:=l
 ·simp at hl
 obtain _|⟨c,l⟩:=l
 ·simp at hl
 obtain _|⟨d,l⟩:=l
 ·simp at hl
 obtain _|⟨e,l⟩:=l
 ·simp at hl
 obtain _|⟨f,l⟩:=l
 ·simp at hl
 obtain _|⟨x,l⟩:=l
 ·exact⟨a,b,c,d,e,f,rfl⟩
 ·simp at hl
theorem azq{α:Type}{l:List α}(hl:l.length=7):∃a b c d e f g,l=[a,b,c,d,e,f,g]:=by
 obtain _|⟨a,l⟩:=l
 ·simp at hl
 obtain _|⟨b,l⟩:=l
 ·simp at hl
 obtain _|⟨c,l⟩:=l
 ·simp at hl
 obtain _|⟨d,l⟩:=l
 ·simp at hl
 obtain _|⟨e,l⟩:=l
 ·simp at hl
 obtain _|⟨f,l⟩:=l
 ·simp at hl
 obtain _|⟨g,l⟩:=l
 ·simp at hl
 obtain _|⟨x,l⟩:=l
 ·exact⟨a,b,c,d,e,f,g,rfl⟩
 ·simp at hl
theorem aos{α:Type}{l:List α}(hl:l.length=10):∃a b c d e f g h i j,l=[a,b,c,d,e,f,g,h,i,j]:=by
 obtain _|⟨a,l⟩:=l
 ·simp at hl
 obtain _|⟨b,l⟩:=l
 ·simp at hl
 obtain _|⟨c,l⟩:=l
 ·simp at hl
 obtain _|⟨d,l⟩:=l
 ·simp at hl
 obtain _|⟨e,l⟩:=l
 ·simp at hl
 obtain _|⟨f,l⟩:=l
 ·simp at hl
 obtain _|⟨g,l⟩:=l
 ·simp at hl
 obtain _|⟨h,l⟩:=l
 ·simp at hl
 obtain _|⟨i,l⟩:=l
 ·simp at hl
 obtain _|⟨j,l⟩:=l
 ·simp at hl
 obtain _|⟨x,l⟩:=l
 ·exact⟨a,b,c,d,e,f,g,h,i,j,rfl⟩
 ·simp at hl
noncomputable def fieldsOf(t:TypeId):List (TypeId×Nat):=match Tryz.prog.underlying t with
 |some (.struct fs)=>fs.toList.map fun f=>(f.type,f.offset)
 |_=>[]
theorem DB{t:TypeId}{p:TypeId×Nat}{ps:List (TypeId×Nat)}(h:fieldsOf t=p::ps):∃fs:List Field,Tryz.prog.underlying t=some (.struct fs.toArray)/\fs.map (fun f=>(f.type,f.offset))=p::ps:=by
 unfold fieldsOf at h;split at h
 ·rename_i fs hu;exact⟨fs.toList,by rw[hu],h⟩
 ·cases h
theorem u39:∃f0 f1 f2 f3 f4 f5:Field,Tryz.prog.underlying 39=some (.struct #[f0,f1,f2,f3,f4,f5])/\(f0.type=3/\f0.offset=0)/\(f1.type=3/\f1.offset=1)/\(f2.type=4/\f2.offset=2)/\(f3.type=37/\f3.offset=3)/\(f4.type=37/\f4.offset=6)/\(f5.type=26/\f5.offset=9):=by obtain⟨fs,hu,hm⟩:=DB (show fieldsOf 39=[(3,0),(3,1),(4,2),(37,3),(37,6),(26,9)]by kernel_rfl);obtain⟨f0,f1,f2,f3,f4,f5,rfl⟩:=aoF (by have:=congrArg List.length hm;simpa using this:fs.length=6);simp at hm;obtain⟨h0,h1,h2,h3,h4,h5⟩:=hm;exact⟨f0,f1,f2,f3,f4,f5,hu,h0,h1,h2,h3,h4,h5⟩
theorem u46:∃f0 f1:Field,Tryz.prog.underlying 46=some (.struct #[f0,f1])/\(f0.type=44/\f0.offset=0)/\(f1.type=37/\f1.offset=4):=by obtain⟨fs,hu,hm⟩:=DB (show fieldsOf 46=[(44,0),(37,4)]by kernel_rfl);obtain⟨f0,f1,rfl⟩:=aoA (by have:=congrArg List.length hm;simpa using this:fs.length=2);simp at hm;obtain⟨h0,h1⟩:=hm;exact⟨f0,f1,hu,h0,h1⟩
section
variable{H:Type}{enc:TypeId×Value->H}{W:World}{base:Nat}{sp:Nat->Bool}{held:Bool}{fuel:Nat}
abbrev ru(s:ByteArray):DataW H:=.lit (.string s.data.toList)
theorem Cy{cs:List Value}{x:DataW H×List MemPlace}(h:DataW.trod enc Tryz.prog W base sp held fuel 37 cs=some x):∃s0 s1 s2:ByteArray,cs=[.string s0,.string s1,.string s2]/\x=(.agg [ru s0,ru s1,ru s2],[]):=by obtain⟨xs,m,rfl,rfl,hlen,hn,sQ⟩:=DataW.trod_array u37 h;rw[asi]at sQ;rw[abj]at hlen;have e0:=sQ 0 (by omega);have e1:=sQ 1 (by omega);have e2:=sQ 2 (by omega);obtain⟨y0,y1,y2,rfl⟩:∃y0 y1 y2,xs=[y0,y1,y2]:=arH hn;obtain⟨d0,d1,d2,rfl⟩:∃y0 y1 y2,cs=[y0,y1,y2]:=arH hlen;obtain⟨s0,k0,r0,-⟩:=DataW.trod_string u26 e0;obtain⟨s1,k1,r1,-⟩:=DataW.trod_string u26 e1;obtain⟨s2,k2,r2,-⟩:=DataW.trod_string u26 e2;simp at k0 k1 k2;subst k0 k1 k2 r0 r1 r2;exact⟨s0,s1,s2,rfl,rfl⟩
theorem UT{cs:List Value}{x:DataW H×List MemPlace}(h:DataW.trod enc Tryz.prog W base sp held fuel 44 cs=some x):∃s0 s1 s2 s3:Int,cs=[.int .i64 s0,.int .i64 s1,.int .i64 s2,.int .i64 s3]/\x=(.agg [.lit (.int .i64 s0),.lit (.int .i64 s1),.lit (.int .i64 s2),.lit (.int .i64 s3)],[]):=by obtain⟨xs,m,rfl,rfl,hlen,hn,sQ⟩:=DataW.trod_array u44 h;rw[cz3]at sQ;rw[asD]at hlen;have e0:=sQ 0 (by omega);have e1:=sQ 1 (by omega);have e2:=sQ 2 (by omega);have e3:=sQ 3 (by omega);obtain⟨y0,y1,y2,y3,rfl⟩:∃y0 y1 y2 y3,xs=[y0,y1,y2,y3]:=asx hn;obtain⟨d0,d1,d2,d3,rfl⟩:∃y0 y1 y2 y3,cs=[y0,y1,y2,y3]:=asx hlen;obtain⟨s0,k0,r0,-⟩:=DataW.trod_int u3 e0;obtain⟨s1,k1,r1,-⟩:=DataW.trod_int u3 e1;obtain⟨s2,k2,r2,-⟩:=DataW.trod_int u3 e2;obtain⟨s3,k3,r3,-⟩:=DataW.trod_int u3 e3;simp at k0 k1 k2 k3;subst k0 k1 k2 k3 r0 r1 r2 r3;exact⟨s0,s1,s2,s3,rfl,rfl⟩
theorem OT{cs:List Value}{x:DataW H×List MemPlace}(h:DataW.trod enc Tryz.prog W base sp held fuel 39 cs=some x):∃(k d:Int) (cl:Bool) (a0 a1 a2 b0 b1 b2 p:ByteArray),cs=[.int .i64 k,.int .i64 d,.bool cl,.string a0,.string a1,.string a2,.string b0,.string b1,.string b2,.string p]/\
  x=(.agg [.lit (.int .i64 k),.lit (.int .i64 d),.lit (.bool cl),.agg [ru a0,ru a1,ru a2],.agg [ru b0,ru b1,ru b2],ru p],[]):=by
 obtain⟨f0,f1,f2,f3,f4,f5,hu,⟨t0,o0⟩,⟨t1,o1⟩,⟨t2,o2⟩,⟨t3,o3⟩,⟨t4,o4⟩,⟨t5,o5⟩⟩:=u39;obtain⟨xs,m,rfl,rfl,hlen,hn,sQ⟩:=DataW.trod_struct hu h;rw[ax8]at hlen;have e0:=sQ 0 f0 rfl;have e1:=sQ 1 f1 rfl;have e2:=sQ 2 f2 rfl;have e3:=sQ 3 f3 rfl;have e4:=sQ 4 f4 rfl;have e5:=sQ 5 f5 rfl;rw[t0,o0,cz3]at e0;rw[t1,o1,cz3]at e1;rw[t2,o2,cz4]at e2;rw[t3,o3,abj]at e3;rw[t4,o4,abj]at e4;rw[t5,o5,asi]at e5;obtain⟨y0,y1,y2,y3,y4,y5,rfl⟩:∃y0 y1 y2 y3 y4 y5,xs=[y0,y1,y2,y3,y4,y5]:=aoF hn;obtain⟨d0,d1,d2,d3,d4,d5,d6,d7,d8,d9,rfl⟩:∃y0 y1 y2 y3 y4 y5 y6 y7 y8 y9,cs=[y0,y1,y2,y3,y4,y5,y6,y7,y8,y9]:=aos hlen;obtain⟨k,k0,r0,-⟩:=DataW.trod_int u3 e0;obtain⟨d,k1,r1,-⟩:=DataW.trod_int u3 e1;obtain⟨cl,k2,r2⟩:=DataW.trod_bool u4 e2;obtain⟨a0,a1,a2,k3,r3⟩:=Cy e3;obtain⟨b0,b1,b2,k4,r4⟩:=Cy e4;obtain⟨p,k5,r5,-⟩:=DataW.trod_string u26 e5;simp at k0 k1 k2 k3 k4 k5;obtain⟨rfl,rfl,rfl⟩:=k3;obtain⟨rfl,rfl,rfl⟩:=k4;subst k0 k1 k2 k5 r0 r1 r2 r3 r4 r5;exact⟨k,d,cl,a0,a1,a2,b0,b1,b2,p,rfl,rfl⟩
theorem OK{cs:List Value}{x:DataW H×List MemPlace}(h:DataW.trod enc Tryz.prog W base sp held fuel 46 cs=some x):∃(t0 t1 t2 t3:Int) (s0 s1 s2:ByteArray),cs=[.int .i64 t0,.int .i64 t1,.int .i64 t2,.int .i64 t3,.string s0,.string s1,.string s2]/\
  x=(.agg [.agg [.lit (.int .i64 t0),.lit (.int .i64 t1),.lit (.int .i64 t2),.lit (.int .i64 t3)],.agg [ru s0,ru s1,ru s2]],[]):=by
 obtain⟨f0,f1,hu,⟨q0,o0⟩,⟨q1,o1⟩⟩:=u46;obtain⟨xs,m,rfl,rfl,hlen,hn,sQ⟩:=DataW.trod_struct hu h;rw[axt]at hlen;have e0:=sQ 0 f0 rfl;have e1:=sQ 1 f1 rfl;rw[q0,o0,asD]at e0;rw[q1,o1,abj]at e1;obtain⟨y0,y1,rfl⟩:∃y0 y1,xs=[y0,y1]:=aoA hn;obtain⟨d0,d1,d2,d3,d4,d5,d6,rfl⟩:∃y0 y1 y2 y3 y4 y5 y6,cs=[y0,y1,y2,y3,y4,y5,y6]:=azq hlen;obtain⟨t0,t1,t2,t3,k3,r3⟩:=UT e0;obtain⟨b0,b1,b2,k4,r4⟩:=Cy e1;simp at k3 k4;obtain⟨rfl,rfl,rfl,rfl⟩:=k3;obtain⟨rfl,rfl,rfl⟩:=k4;subst r3 r4;exact⟨t0,t1,t2,t3,b0,b1,b2,rfl,rfl⟩
end
theorem HJ{H:Type}{k d:Int}{cl:Bool}{a0 a1 a2 b0 b1 b2 p:ByteArray}:DataW.weights (H:=H) Tryz.prog 39 (.agg [.lit (.int .i64 k),.lit (.int .i64 d),.lit (.bool cl),.agg [ru a0,ru a1,ru a2],.agg [ru b0,ru b1,ru b2],ru p])=
  [a0.data.toList.length,a1.data.toList.length,a2.data.toList.length,b0.data.toList.length,b1.data.toList.length,b2.data.toList.length,p.data.toList.length]:=by
 obtain⟨f0,f1,f2,f3,f4,f5,hu,⟨t0,o0⟩,⟨t1,o1⟩,⟨t2,o2⟩,⟨t3,o3⟩,⟨t4,o4⟩,⟨t5,o5⟩⟩:=u39;simp[DataW.weights,DataW.weightsEach,DataW.weightsAll,hu,t0,t1,t2,t3,t4,t5]
theorem HY{H:Type}{t0 t1 t2 t3:Int}{s0 s1 s2:ByteArray}:DataW.weights (H:=H) Tryz.prog 46 (.agg [.agg [.lit (.int .i64 t0),.lit (.int .i64 t1),.lit (.int .i64 t2),.lit (.int .i64 t3)],.agg [ru s0,ru s1,ru s2]])=
  [s0.data.toList.length,s1.data.toList.length,s2.data.toList.length]:=by
 obtain⟨f0,f1,hu,⟨q0,o0⟩,⟨q1,o1⟩⟩:=u46;simp[DataW.weights,DataW.weightsEach,DataW.weightsAll,hu,q0,q1]
theorem g1:Tryz.prog.globalNamed "internal/strconv.uint64pow10"=some 1:=by kernel_rfl
theorem g6:Tryz.prog.globalNamed "math/bits.deBruijn32tab"=some 6:=by kernel_rfl
theorem g7:Tryz.prog.globalNamed "math/bits.deBruijn64tab"=some 7:=by kernel_rfl
theorem y1:(Tryz.prog.globals[1]?).map (·.type)=some 295:=by kernel_rfl
theorem y6:(Tryz.prog.globals[6]?).map (·.type)=some 320:=by kernel_rfl
theorem y7:(Tryz.prog.globals[7]?).map (·.type)=some 321:=by kernel_rfl
theorem u5:Tryz.prog.underlying 5=some (.int .u8):=by kernel_rfl
theorem auz:Tryz.prog.underlying 154=some (.int .u64):=by kernel_rfl
theorem awo:Tryz.prog.underlying 295=some (.array 20 154):=by kernel_rfl
theorem avj:Tryz.prog.underlying 320=some (.array 32 5):=by kernel_rfl
theorem axp:Tryz.prog.underlying 321=some (.array 64 5):=by kernel_rfl
theorem cz5:Tryz.prog.cellsOf 5=1:=by kernel_rfl
theorem aot:Tryz.prog.cellsOf 154=1:=by kernel_rfl
theorem apR:Tryz.prog.cellsOf 295=20:=by kernel_rfl
theorem alG:Tryz.prog.cellsOf 320=32:=by kernel_rfl
theorem apk:Tryz.prog.cellsOf 321=64:=by kernel_rfl
def afj(k:IntKind)(n:Nat)(tab:List AV)(d:DataW Unit):Bool:=tab.length==n&&(List.range n).all fun i=>match tab[i]?,(match d with|.agg l=>l[i]?|_=>none)with
 |some (.int k' a),some (.lit (.int k'' b))=>a==b&&decide (k'=k)&&decide (k''=k)
 |_,_=>false
theorem Gh{enc:TypeId×Value->Unit}{W:World}{n g te ta:Nat}{k:IntKind}{nm:String}{tab:List AV}{cs:Array Value}{fuel:Nat}{base:Nat}{sp:Nat->Bool}{hd:Bool}{d:DataW Unit}{ps:List MemPlace}
  (hg:Tryz.prog.globalNamed nm=some g) (hue:Tryz.prog.underlying te=some (.int k)) (hua:Tryz.prog.underlying ta=some (.array n te)) (rm:Tryz.prog.cellsOf te=1) (hca:Tryz.prog.cellsOf ta=n)
  (hv:W.var? Tryz.prog nm=some cs) (hd:DataW.trod enc Tryz.prog W base sp hd fuel ta cs.toList=some (d,ps)) (hok:afj k n tab d=true):
  ∃c e f,W.heap[g]?=some (.cells c e f)/\kN cS W (fun _=>False) c 0 tab/\c.size=tab.length:=by
 unfold afj at hok;rw[aLR,beq_iff_eq]at hok;obtain⟨V4,wj⟩:=hok;obtain⟨xs,m,rfl,hx1,hlen,hn,sQ⟩:=DataW.trod_array hua hd;rw[rm]at sQ;rw[hca]at hlen;have Tm:=hv;unfold World.var? at Tm;rw[hg]at Tm;simp only[aN6]at Tm;split at Tm
 case h_2=>cases Tm
 rename_i c e f Sq;cases Tm;have sd:cs.size=n:=by simpa using hlen
 refine⟨cs,e,f,Sq,kN.jW fun i x hx=>?_,by omega⟩;have hi:i<n:=by have:=(List.getElem?_eq_some_iff.1 hx).1;omega
 have Tx:=aLN.1 wj i (List.mem_range.2 hi);rw[hx]at Tx;have UM:d=.agg (xs.map (·.1)):=congrArg Prod.fst hx1;rw[UM]at Tx;have Je:∃y,xs[i]?=some y:=⟨xs[i],aL5 (by omega)⟩;obtain⟨y,hy⟩:=Je;have he:=sQ i hi;rw[hy]at he;obtain⟨z,e1,e2,_⟩:=DataW.trod_int hue he;simp only[aLI,hy,Option.map_some,e2]at Tx;split at Tx
 case h_2=>cases Tx
 rename_i k' a k'' b q1 q2;cases q1;simp only[aKV.injEq,DataW.lit.injEq,Lit.int.injEq]at q2;obtain⟨rfl,rfl⟩:=q2;simp only[aLR,beq_iff_eq,decide_eq_true_eq]at Tx;obtain⟨⟨rfl,rfl⟩,-⟩:=Tx;refine⟨.int k' a,?_,by simp[R]⟩;rw[Nat.zero_add,Nat.mul_one]at*
 have:(cs.toList.drop i).take 1=[.int k' a]:=e1
 rw[<-Array.getElem?_toList];have h0:=congrArg (fun l=>l[0]?) this;simpa[List.getElem?_take,List.getElem?_drop]using h0
theorem K3{W:World}(h:laidMetH Tryz.prog Rows.pairChecksRow.laid W):DV E0 (fun _=>False) W:=by
 have h':laidMet Tryz.prog Rows.pairChecksRow.laid W:=h;obtain⟨ps,⟨g0',t0',cs0,f0,p0,q0,La,Ie,uF,hd0,⟨g1',RH,cs1,f1,p1,q1,EB,Aa,hv1,vM,⟨g2',t2',cs2,f2,p2,q2,hg2,zy,VV,tz,_,_⟩,_⟩,_⟩,_,_⟩:=h';obtain rfl:=aKV.inj (g6.symm.trans La);obtain rfl:=aKV.inj (g7.symm.trans EB);obtain rfl:=aKV.inj (g1.symm.trans hg2);obtain rfl:=aKV.inj (y6.symm.trans Ie);obtain rfl:=aKV.inj (y7.symm.trans Aa);obtain rfl:=aKV.inj (y1.symm.trans zy);intro g cs hg;have hg':Zn g=some cs:=hg;unfold Zn at hg';split at hg'
 ·cases hg';obtain⟨c,e,f,h1,h2,h3⟩:=Gh (k:=.u8) (n:=64) g7 u5 axp cz5 apk hv1 vM (tab:=afb) (by kernel_rfl);exact⟨c,e,f,h1,fun h=>h,h2,h3⟩
 ·cases hg';obtain⟨c,e,f,h1,h2,h3⟩:=Gh (k:=.u8) (n:=32) g6 u5 avj cz5 alG uF hd0 (tab:=aeW) (by kernel_rfl);exact⟨c,e,f,h1,fun h=>h,h2,h3⟩
 ·cases hg';obtain⟨c,e,f,h1,h2,h3⟩:=Gh (k:=.u64) (n:=20) g1 auz awo aot apR VV tz (tab:=BY) (by kernel_rfl);exact⟨c,e,f,h1,fun h=>h,h2,h3⟩
 ·cases hg'
def firstCells:Array Value:=(match Go.Pinned.utf8First with
 |.agg l=>(l.map fun d=>match d with|.lit (.int k n)=>Value.int k n|_=>undef).toArray
 |_=>#[])
noncomputable def CM(os:Os):World:=
 let w0:=World.doorLaid Tryz.prog 400 os
 {w0 with heap:=w0.heap.modify 2 fun
   |.cells _ t frozen=>.cells firstCells t frozen
   |o=>o}
theorem Hw(os:Os)(args:Array Value):laidMetH Tryz.prog Rows.pairChecksRow.laid ((CM os).forCall (fun _ _=>0) ⟨#[],args,[]⟩).memory:=
 show laidMet Tryz.prog Rows.pairChecksRow.laid ((CM os).forCall (fun _ _=>0) ⟨#[],args,[]⟩).memory from laidMet_of_run' 8 (by kernel_rfl) (by kernel_rfl)
end Go.Proofs.YtblnjkjjedanaaaGreatDoor
namespace Go.Proofs.YtblnjkjjedanaaaGreatDoor
namespace X1
open Go Dv
variable{E:Env}[C:ou E]
section
variable{E:Env} [C:ou E]
theorem pI3:ek E 3=some (false,1):=jJ C (by kernel_rfl)
theorem pI4:ek E 4=some (false,1):=jJ C (by kernel_rfl)
theorem aki{vs:List (Nat×AV)}:fT E 31 vs=(nZ [(0,1),(1,1),(2,1)] [.int .i64 0,.aH,.aH] vs).map .agg:=zb (v8 C (by kernel_rfl))
theorem YA:ek E 39=some (true,10):=jJ C (by kernel_rfl)
theorem aiW:fR E 39=some (.agg [.int .i64 0,.int .i64 0,.bool false,.str [],.str [],.str [],.str [],.str [],.str [],.str []]):=sw C (by kernel_rfl)
theorem ai1{vs:List (Nat×AV)}:fT E 39 vs=(nZ [(0,1),(1,1),(2,1),(3,3),(6,3),(9,1)] [.int .i64 0,.int .i64 0,.bool false,.str [],.str [],.str [],.str [],.str [],.str [],.str []] vs).map .agg:=zb (v8 C (by kernel_rfl))
theorem Pd:fE E 39 0=some (0,false,1):=lA C (by kernel_rfl)
theorem PH:fE E 39 2=some (2,false,1):=lA C (by kernel_rfl)
theorem aks:ek E 46=some (true,7):=jJ C (by kernel_rfl)
theorem fC:eu E 70=some (true,24,384,[.bool false,.aH,.bool false,.aH,.bool false,.aH,.bool false,.aH,.bool false,.aH,.bool false,.aH,.bool false,.aH,.bool false,.aH,.bool false,.aH,.bool false,.aH,.bool false,.aH,.bool false,.aH]):=zC C (by kernel_rfl)
theorem Uv:ek E 74=some (true,24):=jJ C (by kernel_rfl)
theorem aj7:fR E 74=some (.agg [.bool false,.aH,.bool false,.aH,.bool false,.aH,.bool false,.aH,.bool false,.aH,.bool false,.aH,.bool false,.aH,.bool false,.aH,.bool false,.aH,.bool false,.aH,.bool false,.aH,.bool false,.aH]):=sw C (by kernel_rfl)
theorem NR:ek E 105=some (true,48):=jJ C (by kernel_rfl)
theorem Xz:fR E 105=some (.agg [.bool false,.aH,.bool false,.aH,.bool false,.aH,.bool false,.aH,.bool false,.aH,.bool false,.aH,.bool false,.aH,.bool false,.aH,.bool false,.aH,.bool false,.aH,.bool false,.aH,.bool false,.aH,.bool false,.aH,.bool false,.aH,.bool false,.aH,.bool false,.aH,.bool false,.aH,.bool false,.aH,.bool false,.aH,.bool false,.aH,.bool false,.aH,.bool false,.aH,.bool false,.aH,.bool false,.aH]):=sw C (by kernel_rfl)
theorem akD:bQ E 40=true:=bS C (by kernel_rfl)
theorem aoe:ku E 40=false:=zU C (by kernel_rfl)
theorem aq1{dr st:Bool}{bl:List AV}{H:Hp}{k:AV->cE->Prop}:jm E dr st 40 bl H k=tJ (de E 40 bl H) fun r H2=>k r (.Ee H2):=mw akD (by rw[aoe];rfl)
noncomputable def c13:=fW Tryz.f13
theorem Yj:EX.fn 13=fI c13 60 [.cell 4 39,.tmp 5]:=by kernel_rfl
theorem Ys:ek E 26=some (false,1):=jJ C (by kernel_rfl)
theorem ady:ek E 37=some (true,3):=jJ C (by kernel_rfl)
theorem QB:fE E 39 4=some (6,true,3):=lA C (by kernel_rfl)
theorem Qk:fE E 39 5=some (9,false,1):=lA C (by kernel_rfl)
theorem OP:fE E 39 3=some (3,true,3):=lA C (by kernel_rfl)
theorem UX:ek E 62=some (true,4):=jJ C (by kernel_rfl)
theorem ahf:fR E 62=some (.agg [.bool false,.aH,.bool false,.aH]):=sw C (by kernel_rfl)
theorem Vn:ek E 72=some (true,12):=jJ C (by kernel_rfl)
theorem akA:fR E 72=some (.agg [.bool false,.aH,.bool false,.aH,.bool false,.aH,.bool false,.aH,.bool false,.aH,.bool false,.aH]):=sw C (by kernel_rfl)
theorem agA{vs:List (Nat×AV)}:fT E 72 vs=(ud 4 [.bool false,.aH,.bool false,.aH,.bool false,.aH,.bool false,.aH,.bool false,.aH,.bool false,.aH] vs).map .agg:=wY (Bg C (by kernel_rfl))
theorem Ku:fE E 74 1=some (12,true,12):=lA C (by kernel_rfl)
theorem Sl:gv E 103=some (3,true,12):=Ak C (by kernel_rfl)
theorem Ky:E.pairs 11 12=[]:=eR C rfl
theorem QY:E.pairs 13 9=[]:=eR C rfl
theorem KP:E.pairs 33 22=[]:=eR C rfl
noncomputable def JU:=fW Tryz.f40
theorem wc:EX.fn 40=some {code:=JU,ntmps:=146,results:=[.tmp 2],pure:=false,fL:=false}:=by kernel_rfl
theorem vn:isBool E 4=true:=K0 C (by kernel_rfl)
theorem pI9:ek E 9=some (false,1):=jJ C (by kernel_rfl)
theorem aiu:ll E 26=true:=MC C (by kernel_rfl)
theorem WK{H:Hp}{aL:Nat}{s:List UInt8}:aV E H aL .len [26] [.str s]=some (.int .i64 s.length,[]):=KA aiu
theorem adU:gv E 37=some (3,false,1):=Ak C (by kernel_rfl)
theorem PR:fE E 46 1=some (4,true,3):=lA C (by kernel_rfl)
theorem Mm:eu E 54=some (false,1,16,[.str []]):=zC C (by kernel_rfl)
theorem aja:bQ E 16=false:=bS C (by kernel_rfl)
theorem arS{dr st:Bool}{bl:List AV}{H:Hp}{k:AV->cE->Prop}:jm E dr st 16 bl H k=tX (bW H bl) fun cl bs=>ck (aP E 16 cl) fun r=>k r (if bR r=true then cE.looks bs else cE.marks bs):=gn aja
theorem Z4:E.pairs 5 20=[]:=eR C rfl
noncomputable def c4:=fW Tryz.f4
theorem fn4:EX.fn 4=fI c4 148 [.tmp 6]:=by kernel_rfl
end
end X1
end Go.Proofs.YtblnjkjjedanaaaGreatDoor
namespace Go.Proofs.YtblnjkjjedanaaaGreatDoor.X1
open Go Dv
def eH:=And.intro @gn @aq1
def gh{E:Env} [C:ou E]:=dZ (dZ (And.intro (@jK E _ pI3) (And.intro (@jK E _ Ys) (@gD E _ _ ady))) (dZ (@fj E _ _ _ _ _ Qk) (@fj E _ _ _ _ _ OP) (@fj E _ _ _ _ _ QB) (@fj E _ _ _ _ _ Pd)) (dZ (@gD E _ _ UX) (@gw E _ _ _ UX) (@ahf E C) (@mX E _ _ _ _ _ fC)) (dZ (@mY E _ _ _ _ _ fC) (@gD E _ _ Vn) (@gw E _ _ _ Vn) (@akA E C))) (dZ (dZ (@agA E C) (@fj E _ _ _ _ _ Ku) (@zR E _ _ _ _ Sl) (@Ky E C)) (dZ (@QY E C) (@KP E C) (@jK E _ pI4) (@gw E _ _ _ pI4)) (dZ (@aki E C) (@gD E _ _ YA) (@gw E _ _ _ YA) (@aiW E C)) (dZ (@ai1 E C) (@fj E _ _ _ _ _ PH) (@gD E _ _ aks) (@gD E _ _ Uv))) (dZ (dZ (@gw E _ _ _ Uv) (@aj7 E C) (@gD E _ _ NR) (@gw E _ _ _ NR)) (dZ (@Xz E C) (@jK E _ pI9) (@WK E C) (@xW E _ _ _ _ adU)) (dZ (@fj E _ _ _ _ _ PR) (@mY E _ _ _ _ _ Mm) (@Z4 E C) (bS C (by kernel_rfl):bQ E 5=false)) (dZ (bS C (by kernel_rfl):bQ E 9=false) (bS C (by kernel_rfl):bQ E 11=false) (bS C (by kernel_rfl):bQ E 12=false) (bS C (by kernel_rfl):bQ E 13=false))) (dZ (dZ (bS C (by kernel_rfl):bQ E 14=false) (bS C (by kernel_rfl):bQ E 15=false) (bS C (by kernel_rfl):bQ E 16=false) (bS C (by kernel_rfl):bQ E 28=false)) (dZ (bS C (by kernel_rfl):bQ E 35=false) (bS C (by kernel_rfl):bQ E 39=false) (bS C (by kernel_rfl):bQ E 42=false) (bS C (by kernel_rfl):bQ E 43=false)) (dZ (bS C (by kernel_rfl):bQ E 44=false) (bS C (by kernel_rfl):bQ E 65=false) (bS C (by kernel_rfl):bQ E 66=false) (bS C (by kernel_rfl):bQ E 77=false)) (dZ (bS C (by kernel_rfl):bQ E 78=false) (bS C (by kernel_rfl):bQ E 79=false) (bS C (by kernel_rfl):bQ E 80=false) (bS C (by kernel_rfl):bQ E 81=false)))
end Go.Proofs.YtblnjkjjedanaaaGreatDoor.X1
