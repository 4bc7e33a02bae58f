/- Lemmas for AssemblyChecks; no condition. -/
import Derived.Test.YtmkjgfnicfpjpaaGreatDoorTak
set_option linter.all false
set_option maxHeartbeats 100000000
set_option maxRecDepth 100000
noncomputable section
open Bool renaming false_eq_true->aK4,false_and->aNx
open Option renaming map_some->aLt
open List renaming length_set->aPI
namespace Dv
open Go Go.RowKit
def OC(ts:List AV)(l:List Operand):List Nat:=l.flatMap fun x=>match bT ts x with
 |some v=>ej v
 |none=>[]
def rt1:Option AV->List Nat
 |some v=>ej v
 |none=>[]
def aeG{ts:List AV}:OC ts []=[]:=rfl
def ZW{ts:List AV}{x:Operand}{l:List Operand}:OC ts (x::l)=rt1 (bT ts x)++OC ts l:=by unfold OC rt1;rw[List.flatMap_cons]
def ZV{v:AV}:rt1 (some v)=ej v:=rfl
def aex{b o:Nat}:ej (.bI b o)=[b]:=rfl
def ZQ{b o n e k:Nat}:ej (.aI b o n e k)=[b]:=rfl
def ZP{b:Nat}:ej (.eS b)=[b]:=rfl
def bQ(E:Env)(aP t len:Nat)(vs:List (Nat×AV)):Option (AV×List (Nat×ct)):=match E.ty t with
 |some {cD:=.slice e,..}=>(match E.ty e with
  |some ei=>(match ei.zero with
   |some z=>if z.length=ei.size/\0<ei.size/\len*ei.size<=16777216 then
     (fD (fun i=>some (i*ei.size,ei.size)) (gD z len) vs).map fun cs=>(.aI aP 0 len ei.size len,[(aP,.cells .live cs)])
    else none
   |none=>none)
  |none=>none)
 |_=>none
def HR(E:Env)(H:Hp)(t:Nat)(a:AV)(l h:Option AV):Option AV:=match E.ty t with
 |some {cD:=.array ..,..}=>gY E H t a l h
 |_=>gg E t a l h
def Ba(x:Option (Option AV))(k:Option AV->Prop):Prop:=match x with
 |some v=>k v
 |none=>False
def um{v:Option AV}{k:Option AV->Prop}:Ba (some v) k=k v:=rfl
@[congr] theorem ahE {a b:Option (Option AV)} {k:Option AV->Prop} (h:a=b):Ba a k=Ba b k:=by rw[h]
def YW(x:Option AV):Option (Option AV):=match x with
 |some v=>some (some v)
 |none=>none
def N8{v:AV}:YW (some v)=some (some v):=rfl
def My{ts:List AV}:gr ts none=some none:=rfl
def Mz{ts:List AV}{x:Operand}:gr ts (some x)=YW (bT ts x):=by
 show(bT ts x).map some=YW (bT ts x)
 cases bT ts x<;>rfl
def SZ(a:AV):Option AV:=match a with
 |.bI b off=>some (.bI b off)
 |.cU cs off=>some (.cU cs off)
 |.ie g off=>some (.ie g off)
 |.func f a b=>some (.func f a b)
 |.yield l=>some (.yield l)
 |_=>none
def qD(E:Env)(aP t:Nat)(r:Option AV):Option (AV×List (Nat×ct)):=match E.ty t,r with
 |some {cD:=.map _ _,..},none=>some (.eS aP,[(aP,.map .live [] [])])
 |some {cD:=.map _ _,..},some (.int _ _)=>some (.eS aP,[(aP,.map .live [] [])])
 |_,_=>none
def toK(k:IntKind):AV->Option AV
 |.int _ n=>some (.int k (aW k n))
 |_=>none
def gh{k k':IntKind}{n:Int}:toK k (.int k' n)=some (.int k (aW k n)):=rfl
def gk(E:Env)(t:Nat):Option IntKind:=match E.ty t with
 |some i=>(match i.cD with|.int k=>some k|_=>none)
 |none=>none
def kN(E:Env)(t:Nat):Bool:=match E.ty t with
 |some i=>(match i.cD with|.string=>true|_=>false)
 |none=>false
def toStr:AV->Option AV
 |.str s=>some (.str s)
 |_=>none
def aeV{s:List UInt8}:toStr (.str s)=some (.str s):=rfl
@[congr] theorem ahz {E:Env} {dr tr:Bool} {ops:List (Option Nat)} {rest:List Oper} {aP nid':Nat} {ts ts':List AV} {H H':Hp} {l l':List UR} {q:List AV->Hp->List UR->Prop} (h0:aP=nid') (h1:ts=ts') (h2:H=H') (h3:l=l'):bO E dr tr ops rest aP ts H l q=bO E dr tr ops rest nid' ts' H' l' q:=by rw[h0,h1,h2,h3]
section
variable{E:Env}{dr tr:Bool}{ops:List (Option Nat)}{rest:List Oper}{aP:Nat}{ts:List AV}{H:Hp}{l:List UR}{q:List AV->Hp->List UR->Prop}{d:Option Nat}{t:Nat}{p:String}{af:Array Edge}
def pV(ds:List (Option Nat))(ts:List AV)(j:Nat)(want:Bool):Bool:=match Mt ds j with
 |some dj=>Fe (gt ts dj)==some want
 |none=>false
def iC{o:Oper}(hg:o.guard=none):bO E false false ops (o::rest) aP ts H l q=cW E false o H.length ts H fun v e=>bO E false false ops rest aP (bt o.dst v ts) (e.app H) l q:=by
 rw[bO];rw[if_pos (show eM ops ts o=true by unfold eM;rw[hg])]
 simp
def rV{o:Oper}(hg:o.guard=none)(hl:bV E o=false):bO E true true ops (o::rest) aP ts H l q=cW E true o aP ts H fun v e=>bO E true true ops rest aP (bt o.dst v ts) (e.app H) (bH E ts o e::l) q:=by rw[bO];rw[if_pos (show eM ops ts o=true by unfold eM;rw[hg])];simp[hl]
def Mq{o:Oper}(hg:o.guard=none)(hl:bV E o=true):bO E true true ops (o::rest) aP ts H l q=(kB H[aP]?=true/\cW E true o aP ts H fun v e=>bO E true true ops rest (aP+1) (bt o.dst v ts) (e.app H) (bH E ts o e::l) q):=by rw[bO];rw[if_pos (show eM ops ts o=true by unfold eM;rw[hg])];simp[hl]
def adW{op:Op}{j:Nat}{want:Bool}:bO E false false ops (⟨d,op,t,p,af,some (j,want)⟩::rest) aP ts H l q=
  oh (pV ops ts j want) (bO E false false ops (⟨d,op,t,p,af,none⟩::rest) aP ts H l q) (bO E false false ops rest aP (bt d bS ts) H l q):=by
 have hg:pV ops ts j want=eM ops ts ⟨d,op,t,p,af,some (j,want)⟩:=by
  unfold pV eM;simp only;cases Mt ops j with
  |none=>rfl
  |some dj=>
   simp only;unfold gt;cases h:ts[dj]? with
   |none=>cases want<;>simp[Fe,bS]
   |some v=>cases v<;>simp[Fe]
 rw[hg];rw[bO];cases hw:eM ops ts ⟨d,op,t,p,af,some (j,want)⟩with
 |true=>rw[gE,iC rfl];simp;rfl
 |false=>rw[eJ];simp
def ab1{op:Op}{j:Nat}{want:Bool}:bO E true true ops (⟨d,op,t,p,af,some (j,want)⟩::rest) aP ts H l q=
  oh (pV ops ts j want) (bO E true true ops (⟨d,op,t,p,af,none⟩::rest) aP ts H l q)
   (oh (bV E ⟨d,op,t,p,af,none⟩) (kB H[aP]?=true/\bO E true true ops rest (aP+1) (bt d bS ts) H (bH E ts ⟨d,op,t,p,af,none⟩ (.bJ [])::l) q) (bO E true true ops rest aP (bt d bS ts) H (bH E ts ⟨d,op,t,p,af,none⟩ (.bJ [])::l) q)):=by
 have hg:pV ops ts j want=eM ops ts ⟨d,op,t,p,af,some (j,want)⟩:=by
  unfold pV eM;simp only;cases Mt ops j with
  |none=>rfl
  |some dj=>
   simp only;unfold gt;cases h:ts[dj]? with
   |none=>cases want<;>simp[Fe,bS]
   |some v=>cases v<;>simp[Fe]
 have hl:bV E ⟨d,op,t,p,af,some (j,want)⟩=bV E ⟨d,op,t,p,af,none⟩:=rfl;have ht:∀e,bH E ts ⟨d,op,t,p,af,some (j,want)⟩ e=bH E ts ⟨d,op,t,p,af,none⟩ e:=fun _=>rfl
 rw[hg];rw[bO];cases hw:eM ops ts ⟨d,op,t,p,af,some (j,want)⟩with
 |true=>
  rw[gE,bO];rw[if_pos (show eM ops ts ⟨d,op,t,p,af,none⟩=true from rfl)];simp only[hl,ht,if_true];rfl
 |false=>
  rw[eJ];simp only[hl,ht,aK4,if_false,if_true,true_and,forall_const];cases bV E ⟨d,op,t,p,af,none⟩<;>simp[oh]
def alr{x:Operand}:bO E false false ops (⟨d,.move x,t,p,af,none⟩::rest) aP ts H l q=b8 (bT ts x) fun v=>bO E false false ops rest aP (bt d v ts) H l q:=by
 rw[iC rfl];simp only[cW,dH];cases bT ts x<;>rfl
def aje{x:Operand}:bO E true true ops (⟨d,.move x,t,p,af,none⟩::rest) aP ts H l q=b8 (bT ts x) fun v=>bO E true true ops rest aP (bt d v ts) H (bH E ts ⟨d,.move x,t,p,af,none⟩ (.bJ [])::l) q:=by
 rw[rV rfl rfl];simp only[cW,dH];cases bT ts x<;>rfl
def Y3{x:Operand}:bO E false false ops (⟨d,.assign x,t,p,af,none⟩::rest) aP ts H l q=b8 (bT ts x) fun v=>bO E false false ops rest aP (bt d v ts) H l q:=by
 rw[iC rfl];simp only[cW,dH];cases bT ts x<;>rfl
def Wg{x:Operand}:bO E true true ops (⟨d,.assign x,t,p,af,none⟩::rest) aP ts H l q=b8 (bT ts x) fun v=>bO E true true ops rest aP (bt d v ts) H (bH E ts ⟨d,.assign x,t,p,af,none⟩ (.bJ [])::l) q:=by
 rw[rV rfl rfl];simp only[cW,dH];cases bT ts x<;>rfl
def als{c a b:Operand}:bO E false false ops (⟨d,.pick c a b,t,p,af,none⟩::rest) aP ts H l q=b8 (vX (bT ts c) (bT ts a) (bT ts b)) fun v=>bO E false false ops rest aP (bt d v ts) H l q:=by
 rw[iC rfl];simp only[cW,dH,vX];cases hc:bT ts c with
 |none=>rfl
 |some v=>
  cases v<;>try rfl
  rename_i z;cases z
  ·simp only[aK4,if_false];cases bT ts b<;>rfl
  ·simp only[if_true];cases bT ts a<;>rfl
def ajf{c a b:Operand}:bO E true true ops (⟨d,.pick c a b,t,p,af,none⟩::rest) aP ts H l q=b8 (vX (bT ts c) (bT ts a) (bT ts b)) fun v=>bO E true true ops rest aP (bt d v ts) H (bH E ts ⟨d,.pick c a b,t,p,af,none⟩ (.bJ [])::l) q:=by
 rw[rV rfl rfl];simp only[cW,dH,vX];cases hc:bT ts c with
 |none=>rfl
 |some v=>
  cases v<;>try rfl
  rename_i z;cases z
  ·simp only[aK4,if_false];cases bT ts b<;>rfl
  ·simp only[if_true];cases bT ts a<;>rfl
def adU{t1:Nat}:bO E false false ops (⟨d,.alloc t1,t,p,af,none⟩::rest) aP ts H l q=b8 (eo E t1) fun z=>bO E false false ops rest aP (bt d (.bI H.length 0) ts) ((cC.bJ ([(H.length,.cells .live z.cells)])).app H) l q:=by
 rw[iC rfl];simp only[cW,dH];cases eo E t1<;>rfl
def abZ{t1:Nat}:bO E true true ops (⟨d,.alloc t1,t,p,af,none⟩::rest) aP ts H l q=(kB H[aP]?=true/\b8 (eo E t1) fun z=>bO E true true ops rest (aP+1) (bt d (.bI aP 0) ts) ((cC.bJ ([(aP,.cells .live z.cells)])).app H) (bH E ts ⟨d,.alloc t1,t,p,af,none⟩ (.bJ ([(aP,.cells .live z.cells)]))::l) q):=by
 rw[Mq rfl rfl];congr 1;simp only[cW,dH];cases eo E t1<;>rfl
def auF{t1:Nat}{x:Operand}:bO E false false ops (⟨d,.box t1 x,t,p,af,none⟩::rest) aP ts H l q=b8 (bT ts x) fun z=>bO E false false ops rest aP (bt d (.bI H.length 0) ts) ((cC.bJ ([(H.length,.cells .live z.cells)])).app H) l q:=by
 rw[iC rfl];simp only[cW,dH];cases bT ts x<;>rfl
def alq{t1:Nat}{x:Operand}:bO E false false ops (⟨d,.load t1 x,t,p,af,none⟩::rest) aP ts H l q=b8 (bT ts x) fun a=>b8 (dW E H t1 a) fun v=>bO E false false ops rest aP (bt d v ts) H l q:=by
 rw[iC rfl];simp only[cW,dH];rcases bT ts x with _|a
 rfl;simp only[aS];cases dW E H t1 a<;>rfl
def ajd{t1:Nat}{x:Operand}:bO E true true ops (⟨d,.load t1 x,t,p,af,none⟩::rest) aP ts H l q=b8 (bT ts x) fun a=>b8 (dW E H t1 a) fun v=>bO E true true ops rest aP (bt d v ts) H (bH E ts ⟨d,.load t1 x,t,p,af,none⟩ (.bJ [])::l) q:=by
 rw[rV rfl rfl];simp only[cW,dH];rcases bT ts x with _|a
 rfl;simp only[aS];cases dW E H t1 a<;>rfl
def adZ{t1:Nat}{x y:Operand}:bO E false false ops (⟨none,.store t1 x y,t,p,af,none⟩::rest) aP ts H l q=b8 (bT ts x) fun a=>b8 (bT ts y) fun v=>A9 (fe E H t1 a v) fun s=>bO E false false ops rest aP ts ((cC.bJ (s)).app H) l q:=by
 rw[iC rfl];simp only[cW,dH];rcases bT ts x with _|a
 rfl;rcases bT ts y with _|v
 rfl;simp only[aS];cases fe E H t1 a v<;>rfl
def ab3{t1:Nat}{x y:Operand}:bO E true true ops (⟨none,.store t1 x y,t,p,af,none⟩::rest) aP ts H l q=b8 (bT ts x) fun a=>b8 (bT ts y) fun v=>A9 (fe E H t1 a v) fun s=>bO E true true ops rest aP ts ((cC.bJ (s)).app H) (bH E ts ⟨none,.store t1 x y,t,p,af,none⟩ (.bJ (s))::l) q:=by
 rw[rV rfl rfl];simp only[cW,dH];rcases bT ts x with _|a
 rfl;rcases bT ts y with _|v
 rfl;simp only[aS];cases fe E H t1 a v<;>rfl
def auE{op:BinOp}{t1 t2:Nat}{x y:Operand}:bO E false false ops (⟨d,.binOp op t1 x y t2,t,p,af,none⟩::rest) aP ts H l q=b8 (bT ts x) fun a=>b8 (bT ts y) fun b=>b8 (cd E (bC x||bC y) op t1 a b) fun v=>bO E false false ops rest aP (bt d v ts) H l q:=by
 rw[iC rfl];simp only[cW,dH];rcases bT ts x with _|a
 rfl;rcases bT ts y with _|b
 rfl;simp only[aS];cases cd E (bC x||bC y) op t1 a b<;>rfl
def aqA{op:BinOp}{t1 t2:Nat}{x y:Operand}:bO E true true ops (⟨d,.binOp op t1 x y t2,t,p,af,none⟩::rest) aP ts H l q=b8 (bT ts x) fun a=>b8 (bT ts y) fun b=>b8 (cd E (bC x||bC y) op t1 a b) fun v=>bO E true true ops rest aP (bt d v ts) H (bH E ts ⟨d,.binOp op t1 x y t2,t,p,af,none⟩ (.bJ [])::l) q:=by
 rw[rV rfl rfl];simp only[cW,dH];rcases bT ts x with _|a
 rfl;rcases bT ts y with _|b
 rfl;simp only[aS];cases cd E (bC x||bC y) op t1 a b<;>rfl
def aAS{op:UnOp}{t1:Nat}{x:Operand}:bO E false false ops (⟨d,.unOp op t1 x,t,p,af,none⟩::rest) aP ts H l q=b8 (bT ts x) fun a=>b8 (TQ op a) fun v=>bO E false false ops rest aP (bt d v ts) H l q:=by
 rw[iC rfl];simp only[cW,dH];rcases bT ts x with _|a
 rfl;simp only[aS];cases TQ op a<;>rfl
def aAQ{t1 f:Nat}{x:Operand}:bO E false false ops (⟨d,.fieldAddr t1 x f,t,p,af,none⟩::rest) aP ts H l q=b8 (bT ts x) fun a=>b8 (cP E t1 a f) fun v=>bO E false false ops rest aP (bt d v ts) H l q:=by
 rw[iC rfl];simp only[cW,dH];rcases bT ts x with _|a
 rfl;simp only[aS];cases cP E t1 a f<;>rfl
def axZ{t1 f:Nat}{x:Operand}:bO E true true ops (⟨d,.fieldAddr t1 x f,t,p,af,none⟩::rest) aP ts H l q=b8 (bT ts x) fun a=>b8 (cP E t1 a f) fun v=>bO E true true ops rest aP (bt d v ts) H (bH E ts ⟨d,.fieldAddr t1 x f,t,p,af,none⟩ (.bJ [])::l) q:=by
 rw[rV rfl rfl];simp only[cW,dH];rcases bT ts x with _|a
 rfl;simp only[aS];cases cP E t1 a f<;>rfl
def aAR{t1:Nat}{x y:Operand}:bO E false false ops (⟨d,.indexAddr t1 x y,t,p,af,none⟩::rest) aP ts H l q=b8 (bT ts x) fun a=>b8 (bT ts y) fun b=>b8 (b9 E t1 a b) fun v=>bO E false false ops rest aP (bt d v ts) H l q:=by
 rw[iC rfl];simp only[cW,dH];rcases bT ts x with _|a
 rfl;rcases bT ts y with _|b
 rfl;simp only[aS];cases b9 E t1 a b<;>rfl
def ax0{t1:Nat}{x y:Operand}:bO E true true ops (⟨d,.indexAddr t1 x y,t,p,af,none⟩::rest) aP ts H l q=b8 (bT ts x) fun a=>b8 (bT ts y) fun b=>b8 (b9 E t1 a b) fun v=>bO E true true ops rest aP (bt d v ts) H (bH E ts ⟨d,.indexAddr t1 x y,t,p,af,none⟩ (.bJ [])::l) q:=by
 rw[rV rfl rfl];simp only[cW,dH];rcases bT ts x with _|a
 rfl;rcases bT ts y with _|b
 rfl;simp only[aS];cases b9 E t1 a b<;>rfl
def adX{t1:Nat}{x y:Operand}:bO E false false ops (⟨d,.index t1 x y,t,p,af,none⟩::rest) aP ts H l q=b8 (bT ts x) fun a=>b8 (bT ts y) fun b=>b8 (lD E t1 a b) fun v=>bO E false false ops rest aP (bt d v ts) H l q:=by
 rw[iC rfl];simp only[cW,dH];rcases bT ts x with _|a
 rfl;rcases bT ts y with _|b
 rfl;simp only[aS];cases lD E t1 a b<;>rfl
def Y4{t1:Nat}{x y:Operand}{ok:Bool}:bO E false false ops (⟨d,.lookup t1 x y ok,t,p,af,none⟩::rest) aP ts H l q=b8 (bT ts x) fun a=>b8 (bT ts y) fun b=>b8 (jT E H t1 a b ok) fun v=>bO E false false ops rest aP (bt d v ts) H l q:=by
 rw[iC rfl];simp only[cW,dH];rcases bT ts x with _|a
 rfl;rcases bT ts y with _|b
 rfl;simp only[aS];cases jT E H t1 a b ok<;>rfl
def KI{t1:Nat}{x y z:Operand}:bO E false false ops (⟨none,.mapUpdate t1 x y z,t,p,af,none⟩::rest) aP ts H l q=b8 (bT ts x) fun a=>b8 (bT ts y) fun b=>b8 (bT ts z) fun c=>A9 (fU E H t1 a b c) fun s=>bO E false false ops rest aP ts ((cC.bJ (s)).app H) l q:=by
 rw[iC rfl];simp only[cW,dH];rcases bT ts x with _|a
 rfl;rcases bT ts y with _|b
 rfl;rcases bT ts z with _|c
 rfl;simp only[aS];cases fU E H t1 a b c<;>rfl
def KH{t1:Nat}{x y:Operand}:bO E false false ops (⟨d,.makeSlice t1 x y,t,p,af,none⟩::rest) aP ts H l q=b8 (bT ts x) fun a=>b8 (bT ts y) fun b=>qU (fp E H.length t1 a b) fun r=>bO E false false ops rest aP (bt d r.1 ts) ((cC.bJ (r.2)).app H) l q:=by
 rw[iC rfl];simp only[cW,dH];rcases bT ts x with _|a
 rfl;rcases bT ts y with _|b
 rfl;simp only[aS];cases fp E H.length t1 a b<;>rfl
def SW{i:Nat}{x:Operand}:bO E false false ops (⟨d,.extract x i,t,p,af,none⟩::rest) aP ts H l q=b8 (bT ts x) fun a=>b8 (nth a i) fun v=>bO E false false ops rest aP (bt d v ts) H l q:=by
 rw[iC rfl];simp only[cW,dH];rcases bT ts x with _|a
 rfl;simp only[aS];cases a<;>try rfl
 rename_i vs;simp only[nth];cases vs[i]?<;>rfl
def RZ{i:Nat}{x:Operand}:bO E true true ops (⟨d,.extract x i,t,p,af,none⟩::rest) aP ts H l q=b8 (bT ts x) fun a=>b8 (nth a i) fun v=>bO E true true ops rest aP (bt d v ts) H (bH E ts ⟨d,.extract x i,t,p,af,none⟩ (.bJ [])::l) q:=by
 rw[rV rfl rfl];simp only[cW,dH];rcases bT ts x with _|a
 rfl;simp only[aS];cases a<;>try rfl
 rename_i vs;simp only[nth];cases vs[i]?<;>rfl
def adV{t1:Nat}{ps:Array (Nat×Operand)}:bO E false false ops (⟨d,.build t1 ps,t,p,af,none⟩::rest) aP ts H l q=zq (sC ts ps.toList) fun vs=>b8 (eN E t1 vs) fun v=>bO E false false ops rest aP (bt d v ts) H l q:=by
 rw[iC rfl];simp only[cW,dH,eN];cases sC ts ps.toList with
 |none=>cases fA E t1<;>cases (E.ty t1).bind (·.zero)<;>rfl
 |some vs=>
  cases fA E t1 with
  |none=>rfl
  |some pl=>
   cases (E.ty t1).bind (·.zero)with
   |none=>rfl
   |some z=>simp only[fM];cases fD pl z vs<;>rfl
def ab0{t1:Nat}{ps:Array (Nat×Operand)}:bO E true true ops (⟨d,.build t1 ps,t,p,af,none⟩::rest) aP ts H l q=zq (sC ts ps.toList) fun vs=>b8 (eN E t1 vs) fun v=>bO E true true ops rest aP (bt d v ts) H (bH E ts ⟨d,.build t1 ps,t,p,af,none⟩ (.bJ [])::l) q:=by
 rw[rV rfl rfl];simp only[cW,dH,eN];cases sC ts ps.toList with
 |none=>cases fA E t1<;>cases (E.ty t1).bind (·.zero)<;>rfl
 |some vs=>
  cases fA E t1 with
  |none=>rfl
  |some pl=>
   cases (E.ty t1).bind (·.zero)with
   |none=>rfl
   |some z=>simp only[fM];cases fD pl z vs<;>rfl
def Hs{t1 len:Nat}{ps:Array (Nat×Operand)}:bO E false false ops (⟨d,.buildSlice t1 len ps,t,p,af,none⟩::rest) aP ts H l q=zq (sC ts ps.toList) fun vs=>qU (bQ E H.length t1 len vs) fun r=>bO E false false ops rest aP (bt d r.1 ts) ((cC.bJ r.2).app H) l q:=by
 rw[iC rfl];simp only[cW,dH,bQ];cases sC ts ps.toList with
 |none=>
  cases E.ty t1 with
  |none=>rfl
  |some i=>
   obtain⟨cD,jA,jS,jB,jZ,dQ⟩:=i;cases cD<;>try rfl
   rename_i e;simp only;cases E.ty e with
   |none=>rfl
   |some ei=>simp only;cases ei.zero<;>rfl
 |some vs=>
  simp only[fM];cases E.ty t1 with
  |none=>rfl
  |some i=>
   obtain⟨cD,jA,jS,jB,jZ,dQ⟩:=i;cases cD<;>try rfl
   rename_i e;simp only;cases E.ty e with
   |none=>rfl
   |some ei=>
    simp only;cases ei.zero with
    |none=>rfl
    |some z=>
     simp only
     split
     ·cases fD (fun i=>some (i*ei.size,ei.size)) (gD z len) vs<;>rfl
     ·rfl
def GK{t1 len:Nat}{ps:Array (Nat×Operand)}:bO E true true ops (⟨d,.buildSlice t1 len ps,t,p,af,none⟩::rest) aP ts H l q=(kB H[aP]?=true/\zq (sC ts ps.toList) fun vs=>qU (bQ E aP t1 len vs) fun r=>bO E true true ops rest (aP+1) (bt d r.1 ts) ((cC.bJ r.2).app H) (bH E ts ⟨d,.buildSlice t1 len ps,t,p,af,none⟩ (.bJ r.2)::l) q):=by
 rw[Mq rfl rfl];congr 1;simp only[cW,dH,bQ];cases sC ts ps.toList with
 |none=>
  cases E.ty t1 with
  |none=>rfl
  |some i=>
   obtain⟨cD,jA,jS,jB,jZ,dQ⟩:=i;cases cD<;>try rfl
   rename_i e;simp only;cases E.ty e with
   |none=>rfl
   |some ei=>simp only;cases ei.zero<;>rfl
 |some vs=>
  simp only[fM];cases E.ty t1 with
  |none=>rfl
  |some i=>
   obtain⟨cD,jA,jS,jB,jZ,dQ⟩:=i;cases cD<;>try rfl
   rename_i e;simp only;cases E.ty e with
   |none=>rfl
   |some ei=>
    simp only;cases ei.zero with
    |none=>rfl
    |some z=>
     simp only
     split
     ·cases fD (fun i=>some (i*ei.size,ei.size)) (gD z len) vs<;>rfl
     ·rfl
def SU{bi:Builtin}{args:Array Operand}{ats:Array Nat}:bO E false false ops (⟨d,.call {callee:=.builtin bi,args:=args,argTypes:=ats},t,p,af,none⟩::rest) aP ts H l q=nL (km ts args.toList) fun al=>qU (bB E H H.length bi ats.toList al) fun r=>bO E false false ops rest aP (bt d r.1 ts) ((cC.bJ r.2).app H) l q:=by
 rw[iC rfl];simp only[cW,dH];cases km ts args.toList with
 |none=>rfl
 |some al=>simp only[bP];cases bB E H H.length bi ats.toList al<;>rfl
def Wf{args:Array Operand}{ats:Array Nat}:bO E true true ops (⟨d,.call {callee:=.builtin .append,args:=args,argTypes:=ats},t,p,af,none⟩::rest) aP ts H l q=(kB H[aP]?=true/\nL (km ts args.toList) fun al=>qU (bB E H aP .append ats.toList al) fun r=>bO E true true ops rest (aP+1) (bt d r.1 ts) ((cC.bJ r.2).app H) (bH E ts ⟨d,.call {callee:=.builtin .append,args:=args,argTypes:=ats},t,p,af,none⟩ (.bJ r.2)::l) q):=by
 rw[Mq rfl rfl];congr 1;simp only[cW,dH];cases km ts args.toList with
 |none=>rfl
 |some al=>simp only[bP];cases bB E H aP .append ats.toList al<;>rfl
def adY{t1:Nat}{x:Operand}{lo hi:Option Operand}:bO E false false ops (⟨d,.slice t1 x lo hi none,t,p,af,none⟩::rest) aP ts H l q=b8 (bT ts x) fun a=>Ba (gr ts lo) fun b=>Ba (gr ts hi) fun c=>b8 (HR E H t1 a b c) fun v=>bO E false false ops rest aP (bt d v ts) H l q:=by
 rw[iC rfl];simp only[cW,dH,HR];cases bT ts x with
 |none=>rfl
 |some a=>
  cases gr ts lo with
  |none=>rfl
  |some b=>
   cases gr ts hi with
   |none=>rfl
   |some c=>
    simp only[aS,um];cases E.ty t1 with
    |none=>simp only;cases gg E t1 a b c<;>rfl
    |some i=>
     obtain⟨cD,jA,jS,jB,jZ,dQ⟩:=i;cases cD<;>simp only<;>first|(cases gY E H t1 a b c<;>rfl)|(cases gg E t1 a b c<;>rfl)
def ab2{t1:Nat}{x:Operand}{lo hi:Option Operand}:bO E true true ops (⟨d,.slice t1 x lo hi none,t,p,af,none⟩::rest) aP ts H l q=b8 (bT ts x) fun a=>Ba (gr ts lo) fun b=>Ba (gr ts hi) fun c=>b8 (HR E H t1 a b c) fun v=>bO E true true ops rest aP (bt d v ts) H (bH E ts ⟨d,.slice t1 x lo hi none,t,p,af,none⟩ (.bJ [])::l) q:=by
 rw[rV rfl rfl];simp only[cW,dH,HR];cases bT ts x with
 |none=>rfl
 |some a=>
  cases gr ts lo with
  |none=>rfl
  |some b=>
   cases gr ts hi with
   |none=>rfl
   |some c=>
    simp only[aS,um];cases E.ty t1 with
    |none=>simp only;cases gg E t1 a b c<;>rfl
    |some i=>
     obtain⟨cD,jA,jS,jB,jZ,dQ⟩:=i;cases cD<;>simp only<;>first|(cases gY E H t1 a b c<;>rfl)|(cases gg E t1 a b c<;>rfl)
def auG{x:Operand}:bO E false false ops (⟨d,.nilCheck x,t,p,af,none⟩::rest) aP ts H l q=b8 (bT ts x) fun a=>b8 (SZ a) fun v=>bO E false false ops rest aP (bt d v ts) H l q:=by
 rw[iC rfl];simp only[cW,dH,SZ];cases bT ts x with
 |none=>rfl
 |some a=>cases a<;>rfl
def Od{f:Nat}{first cap:Array Operand}:bO E false false ops (⟨d,.makeFunc (.func f) first cap,t,p,af,none⟩::rest) aP ts H l q=nL (km ts first.toList) fun a=>nL (km ts cap.toList) fun c=>bO E false false ops rest aP (bt d (.func f a c) ts) H l q:=by
 rw[iC rfl];simp only[cW,dH];cases km ts first.toList with
 |none=>rfl
 |some a=>cases km ts cap.toList<;>rfl
def SX{t1:Nat}{r0:Option Operand}:bO E false false ops (⟨d,.makeMap t1 r0,t,p,af,none⟩::rest) aP ts H l q=Ba (gr ts r0) fun a=>qU (qD E H.length t1 a) fun r=>bO E false false ops rest aP (bt d r.1 ts) ((cC.bJ r.2).app H) l q:=by
 rw[iC rfl];simp only[cW,dH,qD];cases gr ts r0 with
 |none=>
  cases E.ty t1 with
  |none=>rfl
  |some i=>
   obtain⟨cD,jA,jS,jB,jZ,dQ⟩:=i;cases cD<;>rfl
 |some a=>
  simp only[um];cases E.ty t1 with
  |none=>cases a<;>rfl
  |some i=>
   obtain⟨cD,jA,jS,jB,jZ,dQ⟩:=i;cases cD<;>cases a<;>(try rfl)<;>(rename_i v;cases v<;>rfl)
def FY{s1 d1:Nat}{k0 k':IntKind}{x:Operand}(hs:gk E s1=some k0)(hd:gk E d1=some k'):bV E ⟨d,.convert s1 d1 x,t,p,af,none⟩=false:=by
 unfold gk at hs;unfold bV;simp only;cases h1:E.ty s1 with
 |none=>rfl
 |some si=>
  rw[h1]at hs;obtain⟨cD,jA,jS,jB,jZ,dQ⟩:=si;cases cD<;>first|(cases hs;done)|rfl
def eh{s1 d1:Nat}{k0 k':IntKind}{x:Operand}(hs:gk E s1=some k0)(hd:gk E d1=some k'):bO E false false ops (⟨d,.convert s1 d1 x,t,p,af,none⟩::rest) aP ts H l q=b8 (bT ts x) fun a=>b8 (toK k' a) fun v=>bO E false false ops rest aP (bt d v ts) H l q:=by
 rw[iC rfl];simp only[cW,dH];unfold gk at hs hd;cases h1:E.ty s1 with
 |none=>rw[h1]at hs;cases hs
 |some si=>
  cases h2:E.ty d1 with
  |none=>rw[h2]at hd;cases hd
  |some di=>
   rw[h1]at hs;rw[h2]at hd;obtain⟨cD,jA,jS,jB,jZ,dQ⟩:=si;obtain⟨aan,X6,ahd,Vf,ahn,af0⟩:=di;cases cD<;>first|(cases hs;done)|skip
   cases aan<;>first|(cases hd;done)|skip
   simp only[Option.some.injEq]at hd;subst hd;cases bT ts x with
   |none=>rfl
   |some v=>cases v<;>simp[Cr,h1,h2,toK,b8,Em,nN]
def A8(x:Option (AV×Hp))(k:AV->Hp->Prop):Prop:=match x with
 |some (v,e)=>k v e
 |none=>False
def uk{v:AV}{e:Hp}{k:AV->Hp->Prop}:A8 (some (v,e)) k=k v e:=rfl
@[congr] theorem ahA {a b:Option (AV×Hp)} {k:AV->Hp->Prop} (h:a=b):A8 a k=A8 b k:=by rw[h]
def qm(E:Env)(dr st:Bool)(f:Nat)(bl:List AV)(H:Hp)(k:AV->cC->Prop):Prop:=
 oh (bF E f) (oh (Ft E f&&(dr&&st)) (xE (bW H bl) fun cl bs=>b8 (zC E f cl) fun r=>k r (if bY r=true then cC.looks bs else cC.marks bs)) (A8 (cR E f bl H) fun r H'=>oh ((dr&&st)&&!r9 H H') False (k r (.Es H'))))
  (xE (bW H bl) fun cl bs=>b8 (aR E f cl) fun r=>k r (if bY r=true then cC.looks bs else cC.marks bs))
@[congr] theorem aft {dr st:Bool} {f:Nat} {bl bl':List AV} {H H':Hp} {k:AV->cC->Prop} (h1:bl=bl') (h2:H=H'):qm E dr st f bl H k=qm E dr st f bl' H' k:=by rw[h1,h2]
def GG{st:Bool}{f:Nat}{bl:List AV}{k:AV->cC->Prop}:Iy E dr st f bl H k=qm E dr st f bl H k:=by
 have key:∀(C:Nat->List AV->AV->Prop) (O:Nat->List AV->Option AV),(∀f al r,C f al r->O f al=some r)->(∀f al r,O f al=some r->C f al r)->
   (∃sR bs r,bW H bl=some (sR,bs)/\C f sR r/\k r (if bY r=true then cC.looks bs else cC.marks bs))=(xE (bW H bl) fun cl bs=>b8 (O f cl) fun r=>k r (if bY r=true then cC.looks bs else cC.marks bs)):=by
  intro C O h1 h2;apply propext;constructor
  ·rintro⟨sR,bs,r,g1,g2,g3⟩;rw[g1,dd,h1 _ _ _ g2,aS];exact g3
  ·intro h;cases hz:bW H bl with
   |none=>rw[hz]at h;exact h.elim
   |some y=>
    obtain⟨cl,bs⟩:=y;rw[hz,dd]at h;cases hr:O f cl with
    |none=>rw[hr]at h;exact h.elim
    |some r=>rw[hr,aS]at h;exact⟨cl,bs,r,rfl,h2 _ _ _ hr,h⟩
 unfold Iy qm;cases bF E f with
 |true=>
  simp only[if_true,gE];cases Ft E f&&(dr&&st)with
  |true=>
   simp only[if_true,gE];exact key (xw E) (zC E) (fun _ _ _ h=>RU h) (fun _ _ _ h=>Me h)
  |false=>
   simp only[aK4,if_false,eJ];apply propext;constructor
   ·rintro⟨r,H',g1,hk,g2⟩;rw[zB g1,uk];have Xo:((dr&&st)&&!r9 H H')=false:=by
     cases hds:(dr&&st)with
     |false=>rfl
     |true=>rw[hk hds];rfl
    rw[Xo,eJ];exact g2
   ·intro h;cases hr:cR E f bl H with
    |none=>rw[hr]at h;exact h.elim
    |some x=>
     obtain⟨r,H'⟩:=x;rw[hr,uk]at h;cases Xo:((dr&&st)&&!r9 H H')with
     |true=>rw[Xo]at h;exact h.elim
     |false=>
      rw[Xo,eJ]at h;refine⟨r,H',Md hr,fun hds=>?_,h⟩;rw[hds]at Xo;cases hz:r9 H H' with
      |true=>rfl
      |false=>rw[hz]at Xo;cases Xo
 |false=>
  simp only[aK4,if_false,eJ];exact key (ku E) (aR E) (fun _ _ _ h=>dB h) (fun _ _ _ h=>wu h)
def L0(fv:AV)(al:List AV)(k:Nat->List AV->Prop)(y:Nat->List AV->Prop):Prop:=match fv with
 |.func f a c=>k f (a++al++c)
 |.yield l=>y l al
 |_=>False
def zo{f:Nat}{a c al:List AV}{k y:Nat->List AV->Prop}:L0 (.func f a c) al k y=k f (a++al++c):=rfl
def wj{l:Nat}{al:List AV}{k y:Nat->List AV->Prop}:L0 (.yield l) al k y=y l al:=rfl
def GH{l:Nat}{al:List AV}{k:AV->Hp->Prop}:(∃r H',xx E l al H r H'/\k r H')=A8 (nE E l al H) fun r H'=>k r H':=by
 apply propext;constructor
 ·rintro⟨r,H',g1,g2⟩;rw[vt g1,uk];exact g2
 ·intro h;cases hr:nE E l al H with
  |none=>rw[hr]at h;exact h.elim
  |some x=>
   obtain⟨r,H'⟩:=x;rw[hr,uk]at h;exact⟨r,H',Mf hr,h⟩
def alp{x:Operand}{args:Array Operand}{ats:Array Nat}:bO E false false ops (⟨d,.call {callee:=.value x,args:=args,argTypes:=ats},t,p,af,none⟩::rest) aP ts H l q=b8 (bT ts x) fun fv=>nL (km ts args.toList) fun al=>L0 fv al (fun f bl=>qm E false (mP x) f bl H fun r e=>bO E false false ops rest aP (bt d r ts) (e.app H) l q) (fun l' bl=>A8 (nE E l' bl H) fun r H'=>bO E false false ops rest aP (bt d r ts) ((cC.Es H').app H) l q):=by
 rw[iC rfl];simp only[cW];cases bT ts x with
 |none=>rfl
 |some fv=>
  cases km ts args.toList with
  |none=>cases fv<;>rfl
  |some al=>
   cases fv<;>try rfl
   ·simp only[aS,bP,zo,GG]
   ·simp only[aS,bP,wj,GH]
def ajc{x:Operand}{args:Array Operand}{ats:Array Nat}:bO E true true ops (⟨d,.call {callee:=.value x,args:=args,argTypes:=ats},t,p,af,none⟩::rest) aP ts H l q=b8 (bT ts x) fun fv=>nL (km ts args.toList) fun al=>L0 fv al (fun f bl=>qm E true (mP x) f bl H fun r e=>bO E true true ops rest aP (bt d r ts) (e.app H) (bH E ts ⟨d,.call {callee:=.value x,args:=args,argTypes:=ats},t,p,af,none⟩ e::l) q) (fun l' bl=>A8 (nE E l' bl H) fun r H'=>bO E true true ops rest aP (bt d r ts) ((cC.Es H').app H) (bH E ts ⟨d,.call {callee:=.value x,args:=args,argTypes:=ats},t,p,af,none⟩ (cC.Es H')::l) q):=by
 rw[rV rfl rfl];simp only[cW];cases bT ts x with
 |none=>rfl
 |some fv=>
  cases km ts args.toList with
  |none=>cases fv<;>rfl
  |some al=>
   cases fv<;>try rfl
   ·simp only[aS,bP,zo,GG]
   ·simp only[aS,bP,wj,GH]
def kH{st:Bool}{f:Nat}{bl:List AV}{k:AV->cC->Prop}(h:bF E f=false):qm E dr st f bl H k=xE (bW H bl) fun cl bs=>b8 (aR E f cl) fun r=>k r (if bY r=true then cC.looks bs else cC.marks bs):=by unfold qm;rw[h,eJ]
def aa2{st:Bool}{f:Nat}{bl:List AV}{k:AV->cC->Prop}(h:bF E f=true):qm E false st f bl H k=A8 (cR E f bl H) fun r H'=>k r (.Es H'):=by
 unfold qm;rw[h,gE]
 simp only[aNx,Bool.and_false,eJ]
def aa3{f:Nat}{bl:List AV}{k:AV->cC->Prop}(h:bF E f=true)(h2:Ft E f=false):qm E true true f bl H k=A8 (cR E f bl H) fun r H'=>oh (!r9 H H') False (k r (.Es H')):=by
 unfold qm;rw[h,gE,h2]
 simp only[aNx,eJ,Bool.true_and]
def abl{H':Hp}:(cC.Es H').app H=H':=rfl
def nH{o:Oper}(hg:o.guard=none)(hl:bV E o=false):bO E true false ops (o::rest) aP ts H l q=cW E true o aP ts H fun v e=>bO E true false ops rest aP (bt o.dst v ts) (e.app H) l q:=by rw[bO];rw[if_pos (show eM ops ts o=true by unfold eM;rw[hg])];simp[hl]
def ajh{o:Oper}(hg:o.guard=none)(hl:bV E o=true):bO E true false ops (o::rest) aP ts H l q=(kB H[aP]?=true/\cW E true o aP ts H fun v e=>bO E true false ops rest (aP+1) (bt o.dst v ts) (e.app H) l q):=by rw[bO];rw[if_pos (show eM ops ts o=true by unfold eM;rw[hg])];simp[hl]
def ab8{op:Op}{j:Nat}{want:Bool}:bO E true false ops (⟨d,op,t,p,af,some (j,want)⟩::rest) aP ts H l q=
  oh (pV ops ts j want) (bO E true false ops (⟨d,op,t,p,af,none⟩::rest) aP ts H l q)
   (oh (bV E ⟨d,op,t,p,af,none⟩) (kB H[aP]?=true/\bO E true false ops rest (aP+1) (bt d bS ts) H l q) (bO E true false ops rest aP (bt d bS ts) H l q)):=by
 have hg:pV ops ts j want=eM ops ts ⟨d,op,t,p,af,some (j,want)⟩:=by
  unfold pV eM;simp only;cases Mt ops j with
  |none=>rfl
  |some dj=>
   simp only;unfold gt;cases h:ts[dj]? with
   |none=>cases want<;>simp[Fe,bS]
   |some v=>cases v<;>simp[Fe]
 have hl:bV E ⟨d,op,t,p,af,some (j,want)⟩=bV E ⟨d,op,t,p,af,none⟩:=rfl;rw[hg];rw[bO];cases hw:eM ops ts ⟨d,op,t,p,af,some (j,want)⟩with
 |true=>
  rw[gE,bO];rw[if_pos (show eM ops ts ⟨d,op,t,p,af,none⟩=true from rfl)];simp only[hl,if_true];rfl
 |false=>
  rw[eJ];simp only[hl,aK4,if_false,if_true,true_and,forall_const];cases bV E ⟨d,op,t,p,af,none⟩<;>simp[oh]
def ajk{x:Operand}:bO E true false ops (⟨d,.move x,t,p,af,none⟩::rest) aP ts H l q=b8 (bT ts x) fun v=>bO E true false ops rest aP (bt d v ts) H l q:=by
 rw[nH rfl rfl];simp only[cW,dH];cases bT ts x<;>rfl
def Wr{x:Operand}:bO E true false ops (⟨d,.assign x,t,p,af,none⟩::rest) aP ts H l q=b8 (bT ts x) fun v=>bO E true false ops rest aP (bt d v ts) H l q:=by
 rw[nH rfl rfl];simp only[cW,dH];cases bT ts x<;>rfl
def ajl{c a b:Operand}:bO E true false ops (⟨d,.pick c a b,t,p,af,none⟩::rest) aP ts H l q=b8 (vX (bT ts c) (bT ts a) (bT ts b)) fun v=>bO E true false ops rest aP (bt d v ts) H l q:=by
 rw[nH rfl rfl];simp only[cW,dH,vX];cases hc:bT ts c with
 |none=>rfl
 |some v=>
  cases v<;>try rfl
  rename_i z;cases z
  ·simp only[aK4,if_false];cases bT ts b<;>rfl
  ·simp only[if_true];cases bT ts a<;>rfl
def ajj{t1:Nat}{x:Operand}:bO E true false ops (⟨d,.load t1 x,t,p,af,none⟩::rest) aP ts H l q=b8 (bT ts x) fun a=>b8 (dW E H t1 a) fun v=>bO E true false ops rest aP (bt d v ts) H l q:=by
 rw[nH rfl rfl];simp only[cW,dH];rcases bT ts x with _|a
 rfl;simp only[aS];cases dW E H t1 a<;>rfl
def aca{t1:Nat}{x y:Operand}:bO E true false ops (⟨none,.store t1 x y,t,p,af,none⟩::rest) aP ts H l q=b8 (bT ts x) fun a=>b8 (bT ts y) fun v=>A9 (fe E H t1 a v) fun s=>bO E true false ops rest aP ts ((cC.bJ (s)).app H) l q:=by
 rw[nH rfl rfl];simp only[cW,dH];rcases bT ts x with _|a
 rfl;rcases bT ts y with _|v
 rfl;simp only[aS];cases fe E H t1 a v<;>rfl
def aqE{op:BinOp}{t1 t2:Nat}{x y:Operand}:bO E true false ops (⟨d,.binOp op t1 x y t2,t,p,af,none⟩::rest) aP ts H l q=b8 (bT ts x) fun a=>b8 (bT ts y) fun b=>b8 (cd E (bC x||bC y) op t1 a b) fun v=>bO E true false ops rest aP (bt d v ts) H l q:=by
 rw[nH rfl rfl];simp only[cW,dH];rcases bT ts x with _|a
 rfl;rcases bT ts y with _|b
 rfl;simp only[aS];cases cd E (bC x||bC y) op t1 a b<;>rfl
def ax3{op:UnOp}{t1:Nat}{x:Operand}:bO E true false ops (⟨d,.unOp op t1 x,t,p,af,none⟩::rest) aP ts H l q=b8 (bT ts x) fun a=>b8 (TQ op a) fun v=>bO E true false ops rest aP (bt d v ts) H l q:=by
 rw[nH rfl rfl];simp only[cW,dH];rcases bT ts x with _|a
 rfl;simp only[aS];cases TQ op a<;>rfl
def ax1{t1 f:Nat}{x:Operand}:bO E true false ops (⟨d,.fieldAddr t1 x f,t,p,af,none⟩::rest) aP ts H l q=b8 (bT ts x) fun a=>b8 (cP E t1 a f) fun v=>bO E true false ops rest aP (bt d v ts) H l q:=by
 rw[nH rfl rfl];simp only[cW,dH];rcases bT ts x with _|a
 rfl;simp only[aS];cases cP E t1 a f<;>rfl
def ax2{t1:Nat}{x y:Operand}:bO E true false ops (⟨d,.indexAddr t1 x y,t,p,af,none⟩::rest) aP ts H l q=b8 (bT ts x) fun a=>b8 (bT ts y) fun b=>b8 (b9 E t1 a b) fun v=>bO E true false ops rest aP (bt d v ts) H l q:=by
 rw[nH rfl rfl];simp only[cW,dH];rcases bT ts x with _|a
 rfl;rcases bT ts y with _|b
 rfl;simp only[aS];cases b9 E t1 a b<;>rfl
def R3{i:Nat}{x:Operand}:bO E true false ops (⟨d,.extract x i,t,p,af,none⟩::rest) aP ts H l q=b8 (bT ts x) fun a=>b8 (nth a i) fun v=>bO E true false ops rest aP (bt d v ts) H l q:=by
 rw[nH rfl rfl];simp only[cW,dH];rcases bT ts x with _|a
 rfl;simp only[aS];cases a<;>try rfl
 rename_i vs;simp only[nth];cases vs[i]?<;>rfl
def ab7{t1:Nat}{ps:Array (Nat×Operand)}:bO E true false ops (⟨d,.build t1 ps,t,p,af,none⟩::rest) aP ts H l q=zq (sC ts ps.toList) fun vs=>b8 (eN E t1 vs) fun v=>bO E true false ops rest aP (bt d v ts) H l q:=by
 rw[nH rfl rfl];simp only[cW,dH,eN];cases sC ts ps.toList with
 |none=>cases fA E t1<;>cases (E.ty t1).bind (·.zero)<;>rfl
 |some vs=>
  cases fA E t1 with
  |none=>rfl
  |some pl=>
   cases (E.ty t1).bind (·.zero)with
   |none=>rfl
   |some z=>simp only[fM];cases fD pl z vs<;>rfl
def GL{t1 len:Nat}{ps:Array (Nat×Operand)}:bO E true false ops (⟨d,.buildSlice t1 len ps,t,p,af,none⟩::rest) aP ts H l q=(kB H[aP]?=true/\zq (sC ts ps.toList) fun vs=>qU (bQ E aP t1 len vs) fun r=>bO E true false ops rest (aP+1) (bt d r.1 ts) ((cC.bJ r.2).app H) l q):=by
 rw[ajh rfl rfl];congr 1;simp only[cW,dH,bQ];cases sC ts ps.toList with
 |none=>
  cases E.ty t1 with
  |none=>rfl
  |some i=>
   obtain⟨cD,jA,jS,jB,jZ,dQ⟩:=i;cases cD<;>try rfl
   rename_i e;simp only;cases E.ty e with
   |none=>rfl
   |some ei=>simp only;cases ei.zero<;>rfl
 |some vs=>
  simp only[fM];cases E.ty t1 with
  |none=>rfl
  |some i=>
   obtain⟨cD,jA,jS,jB,jZ,dQ⟩:=i;cases cD<;>try rfl
   rename_i e;simp only;cases E.ty e with
   |none=>rfl
   |some ei=>
    simp only;cases ei.zero with
    |none=>rfl
    |some z=>
     simp only
     split
     ·cases fD (fun i=>some (i*ei.size,ei.size)) (gD z len) vs<;>rfl
     ·rfl
def aqF{args:Array Operand}{ats:Array Nat}:bO E true false ops (⟨d,.call {callee:=.builtin .len,args:=args,argTypes:=ats},t,p,af,none⟩::rest) aP ts H l q=nL (km ts args.toList) fun al=>qU (bB E H aP .len ats.toList al) fun r=>bO E true false ops rest aP (bt d r.1 ts) ((cC.bJ r.2).app H) l q:=by
 rw[nH rfl rfl];simp only[cW,dH];cases km ts args.toList with
 |none=>rfl
 |some al=>simp only[bP];cases bB E H aP .len ats.toList al<;>rfl
def ab9{t1:Nat}{x:Operand}{lo hi:Option Operand}:bO E true false ops (⟨d,.slice t1 x lo hi none,t,p,af,none⟩::rest) aP ts H l q=b8 (bT ts x) fun a=>Ba (gr ts lo) fun b=>Ba (gr ts hi) fun c=>b8 (HR E H t1 a b c) fun v=>bO E true false ops rest aP (bt d v ts) H l q:=by
 rw[nH rfl rfl];simp only[cW,dH,HR];cases bT ts x with
 |none=>rfl
 |some a=>
  cases gr ts lo with
  |none=>rfl
  |some b=>
   cases gr ts hi with
   |none=>rfl
   |some c=>
    simp only[aS,um];cases E.ty t1 with
    |none=>simp only;cases gg E t1 a b c<;>rfl
    |some i=>
     obtain⟨cD,jA,jS,jB,jZ,dQ⟩:=i;cases cD<;>simp only<;>first|(cases gY E H t1 a b c<;>rfl)|(cases gg E t1 a b c<;>rfl)
def aqG{x:Operand}:bO E true false ops (⟨d,.nilCheck x,t,p,af,none⟩::rest) aP ts H l q=b8 (bT ts x) fun a=>b8 (SZ a) fun v=>bO E true false ops rest aP (bt d v ts) H l q:=by
 rw[nH rfl rfl];simp only[cW,dH,SZ];cases bT ts x with
 |none=>rfl
 |some a=>cases a<;>rfl
def Cx{s1 d1:Nat}{k0 k':IntKind}{x:Operand}(hs:gk E s1=some k0)(hd:gk E d1=some k'):bO E true false ops (⟨d,.convert s1 d1 x,t,p,af,none⟩::rest) aP ts H l q=b8 (bT ts x) fun a=>b8 (toK k' a) fun v=>bO E true false ops rest aP (bt d v ts) H l q:=by
 rw[nH rfl (FY hs hd)];simp only[cW,dH];unfold gk at hs hd;cases h1:E.ty s1 with
 |none=>rw[h1]at hs;cases hs
 |some si=>
  cases h2:E.ty d1 with
  |none=>rw[h2]at hd;cases hd
  |some di=>
   rw[h1]at hs;rw[h2]at hd;obtain⟨cD,jA,jS,jB,jZ,dQ⟩:=si;obtain⟨aan,X6,ahd,Vf,ahn,af0⟩:=di;cases cD<;>first|(cases hs;done)|skip
   cases aan<;>first|(cases hd;done)|skip
   simp only[Option.some.injEq]at hd;subst hd;cases bT ts x with
   |none=>rfl
   |some v=>cases v<;>simp[Cr,h1,h2,toK,b8,Em,nN]
def aji{x:Operand}{args:Array Operand}{ats:Array Nat}:bO E true false ops (⟨d,.call {callee:=.value x,args:=args,argTypes:=ats},t,p,af,none⟩::rest) aP ts H l q=b8 (bT ts x) fun fv=>nL (km ts args.toList) fun al=>L0 fv al (fun f bl=>qm E true (mP x) f bl H fun r e=>bO E true false ops rest aP (bt d r ts) (e.app H) l q) (fun l' bl=>A8 (nE E l' bl H) fun r H'=>bO E true false ops rest aP (bt d r ts) ((cC.Es H').app H) l q):=by
 rw[nH rfl rfl];simp only[cW];cases bT ts x with
 |none=>rfl
 |some fv=>
  cases km ts args.toList with
  |none=>cases fv<;>rfl
  |some al=>
   cases fv<;>try rfl
   ·simp only[aS,bP,zo,GG]
   ·simp only[aS,bP,wj,GH]
def amd{x:Operand}{e:cC}:bH E ts ⟨d,.move x,t,p,af,none⟩ e=([],[]):=rfl
def aab{x:Operand}{e:cC}:bH E ts ⟨d,.assign x,t,p,af,none⟩ e=([],[]):=rfl
def ame{a b c:Operand}{e:cC}:bH E ts ⟨d,.pick a b c,t,p,af,none⟩ e=([],[]):=rfl
def avy{op:BinOp}{t1 t2:Nat}{x y:Operand}{e:cC}:bH E ts ⟨d,.binOp op t1 x y t2,t,p,af,none⟩ e=([],[]):=rfl
def aBn{op:UnOp}{t1:Nat}{x:Operand}{e:cC}:bH E ts ⟨d,.unOp op t1 x,t,p,af,none⟩ e=([],[]):=rfl
def aBl{t1 f:Nat}{x:Operand}{e:cC}:bH E ts ⟨d,.fieldAddr t1 x f,t,p,af,none⟩ e=([],[]):=rfl
def aeQ{t1 f:Nat}{x:Operand}{e:cC}:bH E ts ⟨d,.field t1 x f,t,p,af,none⟩ e=([],[]):=rfl
def aBm{t1:Nat}{x y:Operand}{e:cC}:bH E ts ⟨d,.indexAddr t1 x y,t,p,af,none⟩ e=([],[]):=rfl
def aeR{t1:Nat}{x y:Operand}{e:cC}:bH E ts ⟨d,.index t1 x y,t,p,af,none⟩ e=([],[]):=rfl
def TK{i:Nat}{x:Operand}{e:cC}:bH E ts ⟨d,.extract x i,t,p,af,none⟩ e=([],[]):=rfl
def aeP{t1:Nat}{ps:Array (Nat×Operand)}{e:cC}:bH E ts ⟨d,.build t1 ps,t,p,af,none⟩ e=([],[]):=rfl
def avD{t1:Nat}{x:Operand}{e:cC}:bH E ts ⟨d,.sliceToArrayPointer t1 x,t,p,af,none⟩ e=([],[]):=rfl
def avC{x:Operand}{e:cC}:bH E ts ⟨d,.nilCheck x,t,p,af,none⟩ e=([],[]):=rfl
def OU{f:Go.Fn}{first cap:Array Operand}{e:cC}:bH E ts ⟨d,.makeFunc f first cap,t,p,af,none⟩ e=([],[]):=rfl
def avA{args:Array Operand}{ats:Array Nat}{e:cC}:bH E ts ⟨d,.call {callee:=.builtin .max,args:=args,argTypes:=ats},t,p,af,none⟩ e=([],[]):=rfl
def avB{args:Array Operand}{ats:Array Nat}{e:cC}:bH E ts ⟨d,.call {callee:=.builtin .min,args:=args,argTypes:=ats},t,p,af,none⟩ e=([],[]):=rfl
def amc{t1:Nat}{x:Operand}{s:List (Nat×ct)}:bH E ts ⟨d,.load t1 x,t,p,af,none⟩ (.bJ s)=(OC ts [x],s.map (·.1)):=rfl
def aad{t1:Nat}{x y:Operand}{ok:Bool}{s:List (Nat×ct)}:bH E ts ⟨d,.lookup t1 x y ok,t,p,af,none⟩ (.bJ s)=(OC ts [x,y],s.map (·.1)):=rfl
def aeS{t1:Nat}{x y:Operand}{s:List (Nat×ct)}:bH E ts ⟨d,.store t1 x y,t,p,af,none⟩ (.bJ s)=(OC ts [x,y],s.map (·.1)):=rfl
def aeO{t1:Nat}{s:List (Nat×ct)}:bH E ts ⟨d,.alloc t1,t,p,af,none⟩ (.bJ s)=(OC ts [],s.map (·.1)):=rfl
def avz{t1:Nat}{x:Operand}{s:List (Nat×ct)}:bH E ts ⟨d,.box t1 x,t,p,af,none⟩ (.bJ s)=(OC ts [x],s.map (·.1)):=rfl
def Lu{t1:Nat}{x y:Operand}{s:List (Nat×ct)}:bH E ts ⟨d,.makeSlice t1 x y,t,p,af,none⟩ (.bJ s)=(OC ts [x,y],s.map (·.1)):=rfl
def Lv{t1:Nat}{x y z:Operand}{s:List (Nat×ct)}:bH E ts ⟨d,.mapUpdate t1 x y z,t,p,af,none⟩ (.bJ s)=(OC ts [x,y,z],s.map (·.1)):=rfl
def aac{t1:Nat}{x y z:Operand}{s:List (Nat×ct)}:bH E ts ⟨d,.insert t1 x y z,t,p,af,none⟩ (.bJ s)=(OC ts [x,y,z],s.map (·.1)):=rfl
def aaa{args:Array Operand}{ats:Array Nat}{s:List (Nat×ct)}:bH E ts ⟨d,.call {callee:=.builtin .append,args:=args,argTypes:=ats},t,p,af,none⟩ (.bJ s)=(OC ts args.toList,s.map (·.1)):=by
 unfold bH;simp only[iJ,lG,Op.operands,Call.operands,OC]
 simp
 rfl
def HY{t1 len:Nat}{ps:Array (Nat×Operand)}{s:List (Nat×ct)}:bH E ts ⟨d,.buildSlice t1 len ps,t,p,af,none⟩ (.bJ s)=(OC ts (ps.toList.map (·.2)),s.map (·.1)):=rfl
def amb{x:Operand}{args:Array Operand}{ats:Array Nat}{r:Bool}{bs:List Nat}:bH E ts ⟨d,.call {callee:=.value x,args:=args,argTypes:=ats},t,p,af,none⟩ (if r=true then cC.looks bs else cC.marks bs)=(bs,[]):=by
 have h:iJ E ⟨d,.call {callee:=.value x,args:=args,argTypes:=ats},t,p,af,none⟩=.r∨iJ E ⟨d,.call {callee:=.value x,args:=args,argTypes:=ats},t,p,af,none⟩=.w:=by
  unfold iJ;simp only;cases x with
  |func f=>
   simp only
   split<;>first|exact .inl rfl|exact .inr rfl
  |_=>exact .inr rfl
 unfold bH;rcases h with h|h<;>rw[h]<;>cases r<;>rfl
def amv{x:Operand}{g:Option (Nat×Bool)}:bV E ⟨d,.move x,t,p,af,g⟩=false:=rfl
def aaB{x:Operand}{g:Option (Nat×Bool)}:bV E ⟨d,.assign x,t,p,af,g⟩=false:=rfl
def amw{a b c:Operand}{g:Option (Nat×Bool)}:bV E ⟨d,.pick a b c,t,p,af,g⟩=false:=rfl
def avS{op:BinOp}{t1 t2:Nat}{x y:Operand}{g:Option (Nat×Bool)}:bV E ⟨d,.binOp op t1 x y t2,t,p,af,g⟩=false:=rfl
def aBJ{op:UnOp}{t1:Nat}{x:Operand}{g:Option (Nat×Bool)}:bV E ⟨d,.unOp op t1 x,t,p,af,g⟩=false:=rfl
def aBH{t1 f:Nat}{x:Operand}{g:Option (Nat×Bool)}:bV E ⟨d,.fieldAddr t1 x f,t,p,af,g⟩=false:=rfl
def afm{t1 f:Nat}{x:Operand}{g:Option (Nat×Bool)}:bV E ⟨d,.field t1 x f,t,p,af,g⟩=false:=rfl
def aBI{t1:Nat}{x y:Operand}{g:Option (Nat×Bool)}:bV E ⟨d,.indexAddr t1 x y,t,p,af,g⟩=false:=rfl
def afn{t1:Nat}{x y:Operand}{g:Option (Nat×Bool)}:bV E ⟨d,.index t1 x y,t,p,af,g⟩=false:=rfl
def T4{i:Nat}{x:Operand}{g:Option (Nat×Bool)}:bV E ⟨d,.extract x i,t,p,af,g⟩=false:=rfl
def afl{t1:Nat}{ps:Array (Nat×Operand)}{g:Option (Nat×Bool)}:bV E ⟨d,.build t1 ps,t,p,af,g⟩=false:=rfl
def avY{t1:Nat}{x:Operand}{g:Option (Nat×Bool)}:bV E ⟨d,.sliceToArrayPointer t1 x,t,p,af,g⟩=false:=rfl
def avX{x:Operand}{g:Option (Nat×Bool)}:bV E ⟨d,.nilCheck x,t,p,af,g⟩=false:=rfl
def Pg{f:Go.Fn}{first cap:Array Operand}{g:Option (Nat×Bool)}:bV E ⟨d,.makeFunc f first cap,t,p,af,g⟩=false:=rfl
def avV{args:Array Operand}{ats:Array Nat}{g:Option (Nat×Bool)}:bV E ⟨d,.call {callee:=.builtin .max,args:=args,argTypes:=ats},t,p,af,g⟩=false:=rfl
def avW{args:Array Operand}{ats:Array Nat}{g:Option (Nat×Bool)}:bV E ⟨d,.call {callee:=.builtin .min,args:=args,argTypes:=ats},t,p,af,g⟩=false:=rfl
def avU{args:Array Operand}{ats:Array Nat}{g:Option (Nat×Bool)}:bV E ⟨d,.call {callee:=.builtin .len,args:=args,argTypes:=ats},t,p,af,g⟩=false:=rfl
def amt{x:Operand}{args:Array Operand}{ats:Array Nat}{g:Option (Nat×Bool)}:bV E ⟨d,.call {callee:=.value x,args:=args,argTypes:=ats},t,p,af,g⟩=false:=rfl
def amu{t1:Nat}{x:Operand}{g:Option (Nat×Bool)}:bV E ⟨d,.load t1 x,t,p,af,g⟩=false:=rfl
def aaD{t1:Nat}{x y:Operand}{ok:Bool}{g:Option (Nat×Bool)}:bV E ⟨d,.lookup t1 x y ok,t,p,af,g⟩=false:=rfl
def afp{t1:Nat}{x y:Operand}{g:Option (Nat×Bool)}:bV E ⟨d,.store t1 x y,t,p,af,g⟩=false:=rfl
def LH{t1:Nat}{x y z:Operand}{g:Option (Nat×Bool)}:bV E ⟨d,.mapUpdate t1 x y z,t,p,af,g⟩=false:=rfl
def aaC{t1:Nat}{x y z:Operand}{g:Option (Nat×Bool)}:bV E ⟨d,.insert t1 x y z,t,p,af,g⟩=false:=rfl
def afo{t1:Nat}{x:Operand}{lo hi mx:Option Operand}{g:Option (Nat×Bool)}:bV E ⟨d,.slice t1 x lo hi mx,t,p,af,g⟩=false:=rfl
def afk{t1:Nat}{g:Option (Nat×Bool)}:bV E ⟨d,.alloc t1,t,p,af,g⟩=true:=rfl
def avT{t1:Nat}{x:Operand}{g:Option (Nat×Bool)}:bV E ⟨d,.box t1 x,t,p,af,g⟩=true:=rfl
def LG{t1:Nat}{x y:Operand}{g:Option (Nat×Bool)}:bV E ⟨d,.makeSlice t1 x y,t,p,af,g⟩=true:=rfl
def aaA{args:Array Operand}{ats:Array Nat}{g:Option (Nat×Bool)}:bV E ⟨d,.call {callee:=.builtin .append,args:=args,argTypes:=ats},t,p,af,g⟩=true:=rfl
def Ie{t1 len:Nat}{ps:Array (Nat×Operand)}{g:Option (Nat×Bool)}:bV E ⟨d,.buildSlice t1 len ps,t,p,af,g⟩=true:=rfl
def T5{t1:Nat}{r0:Option Operand}{g:Option (Nat×Bool)}:bV E ⟨d,.makeMap t1 r0,t,p,af,g⟩=true:=rfl
def adD:kB (some dw)=true:=rfl
def Mk:nj E []=0:=rfl
def I4{o:Oper}{l:List Oper}:nj E (o::l)=UZ (bV E o) (nj E l):=rfl
def aeq:tY 0=[]:=rfl
def aer{n:Nat}:tY (n+1)=dw::tY n:=rfl
def xd{s1 d1:Nat}{k0 k':IntKind}{x:Operand}{g:Option (Nat×Bool)}(hs:gk E s1=some k0)(hd:gk E d1=some k'):bV E ⟨d,.convert s1 d1 x,t,p,af,g⟩=false:=FY (af:=af) (p:=p) (t:=t) (d:=d) (x:=x) hs hd
end
class axb where
 q:Ex->List AV->Hp->Prop
def CvB(E:Env)(c:Code)(ts:List AV)(H:Hp) [b:axb]:Prop:=Cv E c ts H b.q
class axa where
 I:Nat->List AV->Hp->Prop
 k:Nat
def afw(ts:List AV)(H:Hp) [b:axa]:Prop:=∃k',k'<b.k/\b.I k' ts H
def V(E:Env):Code->List AV->Hp->(Ex->List AV->Hp->Prop)->Prop
 |.skip,ts,H,Q=>Q .normal ts H
 |.exit id,ts,H,Q=>Q (.exit id) ts H
 |.ret,ts,H,Q=>Q .ret ts H
 |.seq a b,ts,H,Q=>V E a ts H (sN (fun ts H=>V E b ts H Q) Q)
 |.block id a,ts,H,Q=>V E a ts H (lS id Q)
 |.cond c a b,ts,H,Q=>b8 (bT ts c) fun v=>xy v (V E a ts H Q) (V E b ts H Q)
 |.region id ops false,ts,H,Q=>bO E false false (sj ops.toList) ops.toList 0 ts H [] (fun ts H _=>Q .normal ts H)
 |.region id ops true,ts,H,Q=>oh (E.pairs id ops.toList.length).isEmpty (bO E true false (sj ops.toList) ops.toList H.length ts (H++tY (nj E ops.toList)) [] (fun ts H _=>Q .normal ts H)) (bO E true true (sj ops.toList) ops.toList H.length ts (H++tY (nj E ops.toList)) [] (fun ts H l=>(E.pairs id ops.toList.length).all (rE l.reverse)=true/\Q .normal ts H))
 |c,ts,H,Q=>Cv E c ts H Q
def V.cv{E:Env}:∀{c:Code} {ts:List AV} {H:Hp} {Q:Ex->List AV->Hp->Prop},V E c ts H Q->Cv E c ts H Q
 |.skip,_,_,_,h=>Cv.skip h
 |.exit _,_,_,_,h=>Cv.exit h
 |.ret,_,_,_,h=>Cv.ret h
 |.seq a b,ts,H,Q,h=>by
  refine Cv.seq ?_
  have:=V.cv (c:=a) h
  refine this.mono ?_;intro ex ts' H' k;cases ex with
  |normal=>exact V.cv (c:=b) k
  |ret=>exact k
  |exit id=>exact k
 |.block id a,ts,H,Q,h=>by
  refine Cv.block ?_;refine(V.cv (c:=a) h).mono ?_;intro ex ts' H' k;cases ex<;>exact k
 |.cond c a b,ts,H,Q,h=>by
  unfold V at h;cases hc:bT ts c with
  |none=>rw[hc]at h;exact h.elim
  |some v=>
   rw[hc,aS]at h;cases v<;>try exact h.elim
   rename_i z;refine Cv.cond hc ?_;rw[dE]at h;cases z
   ·simp only[aK4,if_false]at h⊢;exact V.cv h
   ·simp only[if_true]at h⊢;exact V.cv h
 |.region id ops false,_,_,_,h=>Cv.aBd h
 |.region id ops true,ts,H,Q,h=>by
  unfold V at h;cases hp:(E.pairs id ops.toList.length).isEmpty with
  |true=>rw[hp,gE]at h;exact Cv.avr (List.isEmpty_iff.1 hp) h
  |false=>rw[hp,eJ]at h;exact Cv.avq h
 |.loop _,_,_,_,h=>h
 |.label _,_,_,_,h=>h
 |.scope _,_,_,_,h=>h
 |.rangeFunc ..,_,_,_,h=>h
 |.goto _,_,_,_,h=>h
 |.refuse _,_,_,_,h=>h
section
variable{E:Env}{ts:List AV}{H:Hp}{Q:Ex->List AV->Hp->Prop}
@[congr] theorem awa {c:Code} {ts ts':List AV} {H H':Hp} (h1:ts=ts') (h2:H=H'):V E c ts H Q=V E c ts' H' Q:=by rw[h1,h2]
end
def sK(I:Nat->List AV->Hp->Prop)(k:Nat)(Q:Ex->List AV->Hp->Prop)(ex:Ex)(ts:List AV)(H:Hp):Prop:=match ex with
 |.normal=>∃k',k'<k/\I k' ts H
 |e=>Q e ts H
@[congr] theorem afv {I:Nat->List AV->Hp->Prop} {k:Nat} {Q:Ex->List AV->Hp->Prop} {ex ex':Ex} {ts ts':List AV} {H H':Hp} (h:ex=ex') (h1:ts=ts') (h2:H=H'):sK I k Q ex ts H=sK I k Q ex' ts' H':=by rw[h,h1,h2]
def gH{I:Nat->List AV->Hp->Prop}{k:Nat}{Q:Ex->List AV->Hp->Prop}{ts:List AV}{H:Hp}:sK I k Q .normal ts H=∃k',k'<k/\I k' ts H:=rfl
def gG{I:Nat->List AV->Hp->Prop}{k id:Nat}{Q:Ex->List AV->Hp->Prop}{ts:List AV}{H:Hp}:sK I k Q (.exit id) ts H=Q (.exit id) ts H:=rfl
def F0{E:Env}{body:Code}{Q:Ex->List AV->Hp->Prop}(I:Nat->List AV->Hp->Prop)(k:Nat)(ym:∀k ts H,I k ts H->W E body ts H (sK I k Q)){ts:List AV}{H:Hp}(h:I k ts H):Cv E (.loop body) ts H Q:=by
 refine Cv.loop I ?_ k ts H h;intro k ts H hi;refine(W.cv (ym k ts H hi)).mono ?_;intro ex ts' H' q;cases ex<;>exact q
def cE{E:Env}{body:Code}{Q:Ex->List AV->Hp->Prop}(I:Nat->List AV->Hp->Prop)(k:Nat)(ym:∀k ts H,I k ts H->V E body ts H (sK I k Q)){ts:List AV}{H:Hp}(h:I k ts H):@CvB E (.loop body) ts H ⟨Q⟩:=by
 show Cv E (.loop body) ts H Q
 refine Cv.loop I ?_ k ts H h;intro k ts H hi;refine(V.cv (ym k ts H hi)).mono ?_;intro ex ts' H' q;cases ex<;>exact q
def bK{I:Nat->List AV->Hp->Prop}{k:Nat}{ts:List AV}{H:Hp}(h:∃k',k'<k/\I k' ts H):@afw ts H ⟨I,k⟩:=h
def Un(E:Env)(body:Code):Nat->List AV->Hp->(Ex->List AV->Hp->Prop)->Prop
 |0,_,_,_=>False
 |n+1,ts,H,Q=>V E body ts H (sN (fun ts H=>Un E body n ts H Q) Q)
@[congr] theorem anH {E:Env} {body:Code} {n:Nat} {ts ts':List AV} {H H':Hp} {Q:Ex->List AV->Hp->Prop} (h1:ts=ts') (h2:H=H'):Un E body n ts H Q=Un E body n ts' H' Q:=by rw[h1,h2]
def Rw{E:Env}{body:Code}{Q:Ex->List AV->Hp->Prop}:∀(n:Nat) {ts:List AV} {H:Hp},Un E body n ts H Q->Cv E (.loop body) ts H Q
 |0,_,_,h=>h.elim
 |n+1,ts,H,h=>by
  refine Cv.round ?_;refine(V.cv h).mono ?_;intro ex ts' H' k;cases ex with
  |normal=>exact Rw n k
  |ret=>exact k
  |exit id=>exact k
def rN{E:Env}{body:Code}{Q:Ex->List AV->Hp->Prop}(n:Nat){ts:List AV}{H:Hp}(h:Un E body n ts H Q):@CvB E (.loop body) ts H ⟨Q⟩:=Rw n h
def CL{E:Env}{f:Nat}{code:Code}{nt:Nat}{results:List ResultVar}{pu du:Bool}{args:List AV}{G:AV->Prop}(ke:E.ov f args=none)(fB:E.fn f=some {code:=code,ntmps:=nt,results:=results,pure:=pu,eE:=du})(hp:pu=true)
  (h:V E code (args++List.replicate (nt-args.length) bS) [] (lU E results G)):∃r,aR E f args=some r/\G r:=by
 have:∃r,ku E f args r/\G r:=by
  refine Cj ke fB hp ((V.cv h).mono ?_);intro ex ts H k;cases ex with
  |exit id=>exact k.elim
  |normal=>
   rw[UN]at k;refine⟨fun id h=>(by cases h),?_⟩;show∃rs r bs,fL H E ts results=some rs/\_
   cases h1:fL H E ts results with
   |none=>rw[h1]at k;exact k.elim
   |some rs=>
    rw[h1,bP]at k;cases h2:bW H [gV rs]with
    |none=>rw[h2]at k;exact k.elim
    |some y=>
     obtain⟨rl,bs⟩:=y;rw[h2,dd]at k;obtain⟨r,rfl,g⟩:=k;exact⟨rs,r,bs,rfl,h2,g⟩
  |ret=>
   rw[jf]at k;refine⟨fun id h=>(by cases h),?_⟩;show∃rs r bs,fL H E ts results=some rs/\_
   cases h1:fL H E ts results with
   |none=>rw[h1]at k;exact k.elim
   |some rs=>
    rw[h1,bP]at k;cases h2:bW H [gV rs]with
    |none=>rw[h2]at k;exact k.elim
    |some y=>
     obtain⟨rl,bs⟩:=y;rw[h2,dd]at k;obtain⟨r,rfl,g⟩:=k;exact⟨rs,r,bs,rfl,h2,g⟩
 obtain⟨r,h1,h2⟩:=this;exact⟨r,dB h1,h2⟩
def pO(E:Env)(results:List ResultVar)(G:AV->Hp->Prop)(ex:Ex)(ts:List AV)(H:Hp):Prop:=match ex with
 |.exit _=>False
 |_=>nL (fL H E ts results) fun rs=>G (gV rs) H
def UM{E:Env}{results:List ResultVar}{G:AV->Hp->Prop}{ts:List AV}{H:Hp}:pO E results G .ret ts H=nL (fL H E ts results) fun rs=>G (gV rs) H:=rfl
def UL{E:Env}{results:List ResultVar}{G:AV->Hp->Prop}{ts:List AV}{H:Hp}:pO E results G .normal ts H=nL (fL H E ts results) fun rs=>G (gV rs) H:=rfl
@[congr] theorem ahr {E:Env} {results:List ResultVar} {G:AV->Hp->Prop} {ex:Ex} {ts ts':List AV} {H H':Hp} (h1:ts=ts') (h2:H=H'):pO E results G ex ts H=pO E results G ex ts' H':=by rw[h1,h2]
def CE{E:Env}{f:Nat}{code:Code}{nt:Nat}{results:List ResultVar}{pu du:Bool}{args:List AV}{H:Hp}{G:AV->Hp->Prop}(ke:E.rC f args H=none)(fB:E.fn f=some {code:=code,ntmps:=nt,results:=results,pure:=pu,eE:=du})
  (h:V E code (args++List.replicate (nt-args.length) bS) H (pO E results G)):∃r H',cR E f args H=some (r,H')/\G r H':=by
 obtain⟨n,ex,ts,H',h1,h2⟩:=V.cv h;have key:∃rs,fL H' E ts results=some rs/\G (gV rs) H'/\∀id,ex≠ .exit id:=by
  cases ex with
  |exit id=>exact h2.elim
  |normal=>
   rw[UL]at h2;cases h3:fL H' E ts results with
   |none=>rw[h3]at h2;exact h2.elim
   |some rs=>rw[h3,bP]at h2;exact⟨rs,rfl,h2,fun id h=>(by cases h)⟩
  |ret=>
   rw[UM]at h2;cases h3:fL H' E ts results with
   |none=>rw[h3]at h2;exact h2.elim
   |some rs=>rw[h3,bP]at h2;exact⟨rs,rfl,h2,fun id h=>(by cases h)⟩
 obtain⟨rs,h3,h4,h5⟩:=key;refine⟨gV rs,H',zB ⟨n,?_⟩,h4⟩;unfold kQ oF;simp only[ke,fB,h1];cases ex with
 |exit id=>exact absurd rfl (h5 id)
 |normal=>simp only[h3,aLt]
 |ret=>simp only[h3,aLt]
section
variable{E:Env}{f:Nat}{code:Code}{nt:Nat}{results:List ResultVar}{pu du:Bool}{a b c e:AV}{G:AV->Prop}
def fv0(ke:E.ov f []=none)(fB:E.fn f=some {code:=code,ntmps:=nt,results:=results,pure:=pu,eE:=du})(hp:pu=true)
  (h:∀ts:List AV,ts.length=nt->V E code ts [] (lU E results G)):∃r,aR E f []=some r/\G r:=
 CL ke fB hp (h _ (by simp))
def fv1(ke:E.ov f [a]=none)(fB:E.fn f=some {code:=code,ntmps:=nt,results:=results,pure:=pu,eE:=du})(hp:pu=true)(hn:1<=nt)
  (h:∀ts:List AV,ts.length=nt->gt ts 0=a->V E code ts [] (lU E results G)):∃r,aR E f [a]=some r/\G r:=
 CL ke fB hp (h _ (by simp;omega) rfl)
def fv2(ke:E.ov f [a,b]=none)(fB:E.fn f=some {code:=code,ntmps:=nt,results:=results,pure:=pu,eE:=du})(hp:pu=true)(hn:2<=nt)
  (h:∀ts:List AV,ts.length=nt->gt ts 0=a->gt ts 1=b->V E code ts [] (lU E results G)):∃r,aR E f [a,b]=some r/\G r:=
 CL ke fB hp (h _ (by simp;omega) rfl rfl)
def fv3(ke:E.ov f [a,b,c]=none)(fB:E.fn f=some {code:=code,ntmps:=nt,results:=results,pure:=pu,eE:=du})(hp:pu=true)(hn:3<=nt)
  (h:∀ts:List AV,ts.length=nt->gt ts 0=a->gt ts 1=b->gt ts 2=c->V E code ts [] (lU E results G)):∃r,aR E f [a,b,c]=some r/\G r:=
 CL ke fB hp (h _ (by simp;omega) rfl rfl rfl)
def fv4(ke:E.ov f [a,b,c,e]=none)(fB:E.fn f=some {code:=code,ntmps:=nt,results:=results,pure:=pu,eE:=du})(hp:pu=true)(hn:4<=nt)
  (h:∀ts:List AV,ts.length=nt->gt ts 0=a->gt ts 1=b->gt ts 2=c->gt ts 3=e->V E code ts [] (lU E results G)):∃r,aR E f [a,b,c,e]=some r/\G r:=
 CL ke fB hp (h _ (by simp;omega) rfl rfl rfl rfl)
end
section
variable{E:Env}{f:Nat}{code:Code}{nt:Nat}{results:List ResultVar}{pu du:Bool}{a b c e:AV}{H:Hp}{G:AV->Hp->Prop}
def fi1(ke:E.rC f [a] H=none)(fB:E.fn f=some {code:=code,ntmps:=nt,results:=results,pure:=pu,eE:=du})(hn:1<=nt)
  (h:∀ts:List AV,ts.length=nt->gt ts 0=a->V E code ts H (pO E results G)):∃r H',cR E f [a] H=some (r,H')/\G r H':=
 CE ke fB (h _ (by simp;omega) rfl)
def fi2(ke:E.rC f [a,b] H=none)(fB:E.fn f=some {code:=code,ntmps:=nt,results:=results,pure:=pu,eE:=du})(hn:2<=nt)
  (h:∀ts:List AV,ts.length=nt->gt ts 0=a->gt ts 1=b->V E code ts H (pO E results G)):∃r H',cR E f [a,b] H=some (r,H')/\G r H':=
 CE ke fB (h _ (by simp;omega) rfl rfl)
def fi4(ke:E.rC f [a,b,c,e] H=none)(fB:E.fn f=some {code:=code,ntmps:=nt,results:=results,pure:=pu,eE:=du})(hn:4<=nt)
  (h:∀ts:List AV,ts.length=nt->gt ts 0=a->gt ts 1=b->gt ts 2=c->gt ts 3=e->V E code ts H (pO E results G)):∃r H',cR E f [a,b,c,e] H=some (r,H')/\G r H':=
 CE ke fB (h _ (by simp;omega) rfl rfl rfl rfl)
end
def S(b:List AV):List (Nat×AV)->List AV
 |[]=>b
 |(i,v)::l=>(S b l).set i v
def bc{b:List AV}:∀{l:List (Nat×AV)},(S b l).length=b.length
 |[]=>rfl
 |(i,v)::l=>by rw[S,aPI,bc]
def Qb{b:List AV}{j:Nat}:gt (S b []) j=gt b j:=rfl
def Qa{b:List AV}{l:List (Nat×AV)}{i:Nat}{v:AV}(h:i<b.length):gt (S b ((i,v)::l)) i=v:=aN (by rw[bc];exact h)
def Jl{b:List AV}{l:List (Nat×AV)}{i j:Nat}{v:AV}(h:i≠j):gt (S b ((i,v)::l)) j=gt (S b l) j:=aY h
def aA9{b:List AV}{l:List (Nat×AV)}{d:Nat}{v:AV}:bt (some d) v (S b l)=S b ((d,v)::l):=by cases l<;>rfl
def VS{E:Env}{c:Code}{ts:List AV}{H:Hp}{Q:Ex->List AV->Hp->Prop}(h:V E c (S ts []) H Q):V E c ts H Q:=h
section
variable{E:Env}{f:Nat}{code:Code}{nt:Nat}{results:List ResultVar}{pu du:Bool}{a b c e:AV}{G:AV->Prop}
def gv0(ke:E.ov f []=none)(fB:E.fn f=some {code:=code,ntmps:=nt,results:=results,pure:=pu,eE:=du})(hp:pu=true)
  (h:∀ts:List AV,ts.length=nt->V E code (S ts []) [] (lU E results G)):∃r,aR E f []=some r/\G r:=fv0 ke fB hp h
def gv1(ke:E.ov f [a]=none)(fB:E.fn f=some {code:=code,ntmps:=nt,results:=results,pure:=pu,eE:=du})(hp:pu=true)(hn:1<=nt)
  (h:∀ts:List AV,ts.length=nt->gt ts 0=a->V E code (S ts []) [] (lU E results G)):∃r,aR E f [a]=some r/\G r:=fv1 ke fB hp hn h
def gv2(ke:E.ov f [a,b]=none)(fB:E.fn f=some {code:=code,ntmps:=nt,results:=results,pure:=pu,eE:=du})(hp:pu=true)(hn:2<=nt)
  (h:∀ts:List AV,ts.length=nt->gt ts 0=a->gt ts 1=b->V E code (S ts []) [] (lU E results G)):∃r,aR E f [a,b]=some r/\G r:=fv2 ke fB hp hn h
def gv3(ke:E.ov f [a,b,c]=none)(fB:E.fn f=some {code:=code,ntmps:=nt,results:=results,pure:=pu,eE:=du})(hp:pu=true)(hn:3<=nt)
  (h:∀ts:List AV,ts.length=nt->gt ts 0=a->gt ts 1=b->gt ts 2=c->V E code (S ts []) [] (lU E results G)):∃r,aR E f [a,b,c]=some r/\G r:=fv3 ke fB hp hn h
def gv4(ke:E.ov f [a,b,c,e]=none)(fB:E.fn f=some {code:=code,ntmps:=nt,results:=results,pure:=pu,eE:=du})(hp:pu=true)(hn:4<=nt)
  (h:∀ts:List AV,ts.length=nt->gt ts 0=a->gt ts 1=b->gt ts 2=c->gt ts 3=e->V E code (S ts []) [] (lU E results G)):∃r,aR E f [a,b,c,e]=some r/\G r:=fv4 ke fB hp hn h
end
section
variable{E:Env}{f:Nat}{code:Code}{nt:Nat}{results:List ResultVar}{pu du:Bool}{a b c e:AV}{H:Hp}{G:AV->Hp->Prop}
def gi1(ke:E.rC f [a] H=none)(fB:E.fn f=some {code:=code,ntmps:=nt,results:=results,pure:=pu,eE:=du})(hn:1<=nt)
  (h:∀ts:List AV,ts.length=nt->gt ts 0=a->V E code (S ts []) H (pO E results G)):∃r H',cR E f [a] H=some (r,H')/\G r H':=fi1 ke fB hn h
def gi2(ke:E.rC f [a,b] H=none)(fB:E.fn f=some {code:=code,ntmps:=nt,results:=results,pure:=pu,eE:=du})(hn:2<=nt)
  (h:∀ts:List AV,ts.length=nt->gt ts 0=a->gt ts 1=b->V E code (S ts []) H (pO E results G)):∃r H',cR E f [a,b] H=some (r,H')/\G r H':=fi2 ke fB hn h
def gi4(ke:E.rC f [a,b,c,e] H=none)(fB:E.fn f=some {code:=code,ntmps:=nt,results:=results,pure:=pu,eE:=du})(hn:4<=nt)
  (h:∀ts:List AV,ts.length=nt->gt ts 0=a->gt ts 1=b->gt ts 2=c->gt ts 3=e->V E code (S ts []) H (pO E results G)):∃r H',cR E f [a,b,c,e] H=some (r,H')/\G r H':=fi4 ke fB hn h
end
section
variable{E:Env}{ts:List AV}{H:Hp}{Q:Ex->List AV->Hp->Prop}{k:List AV->Hp->Prop}{id:Nat}{a b:Code}
def afi:V E .skip ts H Q=Q .normal ts H:=propext Iff.rfl
def afg:V E (.exit id) ts H Q=Q (.exit id) ts H:=propext Iff.rfl
def amq:V E .ret ts H Q=Q .ret ts H:=propext Iff.rfl
def amr:V E (.seq a b) ts H Q=V E a ts H (sN (fun ts H=>V E b ts H Q) Q):=propext Iff.rfl
def aaz:V E (.block id a) ts H Q=V E a ts H (lS id Q):=propext Iff.rfl
def aff{c:Operand}:V E (.cond c a b) ts H Q=b8 (bT ts c) fun v=>xy v (V E a ts H Q) (V E b ts H Q):=propext Iff.rfl
def T3{ops:Array Oper}:V E (.region id ops false) ts H Q=bO E false false (sj ops.toList) ops.toList 0 ts H [] (fun ts H _=>Q .normal ts H):=propext Iff.rfl
def Pf{ops:Array Oper}:V E (.region id ops true) ts H Q=oh (E.pairs id ops.toList.length).isEmpty (bO E true false (sj ops.toList) ops.toList H.length ts (H++tY (nj E ops.toList)) [] (fun ts H _=>Q .normal ts H)) (bO E true true (sj ops.toList) ops.toList H.length ts (H++tY (nj E ops.toList)) [] (fun ts H l=>(E.pairs id ops.toList.length).all (rE l.reverse)=true/\Q .normal ts H)):=propext Iff.rfl
def afh:V E (.loop b) ts H Q=@CvB E (.loop b) ts H ⟨Q⟩:=propext Iff.rfl
def afd:sN k Q .normal ts H=k ts H:=propext Iff.rfl
def afe:sN k Q .ret ts H=Q .ret ts H:=propext Iff.rfl
def afc:sN k Q (.exit id) ts H=Q (.exit id) ts H:=propext Iff.rfl
def T0:lS id Q .normal ts H=Q .normal ts H:=propext Iff.rfl
def T1:lS id Q .ret ts H=Q .ret ts H:=propext Iff.rfl
def TZ{j:Nat}:lS id Q (.exit j) ts H=if j=id then Q .normal ts H else Q (.exit j) ts H:=propext Iff.rfl
def aaw{I:Nat->List AV->Hp->Prop}{k:Nat}:sK I k Q .normal ts H=@afw ts H ⟨I,k⟩:=propext Iff.rfl
def aay{I:Nat->List AV->Hp->Prop}{k:Nat}:sK I k Q .ret ts H=Q .ret ts H:=propext Iff.rfl
def aax{I:Nat->List AV->Hp->Prop}{k:Nat}:sK I k Q (.exit id) ts H=Q (.exit id) ts H:=propext Iff.rfl
def avR{n:Nat}:Un E b (n+1) ts H Q=V E b ts H (sN (fun ts H=>Un E b n ts H Q) Q):=propext Iff.rfl
def afb{results:List ResultVar}{G:AV->Prop}:lU E results G .ret ts H=nL (fL H E ts results) fun rs=>xE (bW H [gV rs]) fun rl bs=>∃r,rl=[r]/\G r:=propext Iff.rfl
def afa{results:List ResultVar}{G:AV->Hp->Prop}:pO E results G .ret ts H=nL (fL H E ts results) fun rs=>G (gV rs) H:=propext Iff.rfl
def ae9{results:List ResultVar}{G:AV->Hp->Prop}:pO E results G .normal ts H=nL (fL H E ts results) fun rs=>G (gV rs) H:=propext Iff.rfl
def afj{dr tr:Bool}{ops:List (Option Nat)}{aP:Nat}{l:List UR}{q:List AV->Hp->List UR->Prop}:bO E dr tr ops [] aP ts H l q=q ts H l:=propext Iff.rfl
end
class KB(α:Type) where
 k:α->Prop
class KB2(α β:Type) where
 k:α->β->Prop
class KBD where
 k:Nat->List AV->Prop
 y:Nat->List AV->Prop
class TwB where
 a:Prop
 b:Prop
def afC(x:Option AV) [b:KB AV]:Prop:=b8 x b.k
def afD(x:Option (AV×List (Nat×ct))) [b:KB (AV×List (Nat×ct))]:Prop:=qU x b.k
def afB(x:Option (List (Nat×ct))) [b:KB (List (Nat×ct))]:Prop:=A9 x b.k
def afy(x:Option (List AV)) [b:KB (List AV)]:Prop:=nL x b.k
def afF(x:Option (List (Nat×AV))) [b:KB (List (Nat×AV))]:Prop:=zq x b.k
def afz(x:Option (List AV×List Nat)) [b:KB2 (List AV) (List Nat)]:Prop:=xE x b.k
def afE(x:Option (Option AV)) [b:KB (Option AV)]:Prop:=Ba x b.k
def afA(x:Option (AV×Hp)) [b:KB2 AV Hp]:Prop:=A8 x b.k
def UQ(fv:AV)(al:List AV) [b:KBD]:Prop:=L0 fv al b.k b.y
def UP(c:Bool) [b:TwB]:Prop:=oh c b.a b.b
def UF(v:AV) [b:TwB]:Prop:=xy v b.a b.b
def auP{x:Option AV}{k:AV->Prop}:b8 x k=@afC x ⟨k⟩:=propext Iff.rfl
def auQ{x:Option (AV×List (Nat×ct))}{k:AV×List (Nat×ct)->Prop}:qU x k=@afD x ⟨k⟩:=propext Iff.rfl
def auO{x:Option (List (Nat×ct))}{k:List (Nat×ct)->Prop}:A9 x k=@afB x ⟨k⟩:=propext Iff.rfl
def auK{x:Option (List AV)}{k:List AV->Prop}:nL x k=@afy x ⟨k⟩:=propext Iff.rfl
def auS{x:Option (List (Nat×AV))}{k:List (Nat×AV)->Prop}:zq x k=@afF x ⟨k⟩:=propext Iff.rfl
def auM{x:Option (List AV×List Nat)}{k:List AV->List Nat->Prop}:xE x k=@afz x ⟨k⟩:=propext Iff.rfl
def auR{x:Option (Option AV)}{k:Option AV->Prop}:Ba x k=@afE x ⟨k⟩:=propext Iff.rfl
def auN{x:Option (AV×Hp)}{k:AV->Hp->Prop}:A8 x k=@afA x ⟨k⟩:=propext Iff.rfl
def auL{x:AV}{al:List AV}{k y:Nat->List AV->Prop}:L0 x al k y=@UQ x al ⟨k,y⟩:=propext Iff.rfl
def Zb{c:Bool}{a b:Prop}:oh c a b=@UP c ⟨a,b⟩:=propext Iff.rfl
def Za{v:AV}{a b:Prop}:xy v a b=@UF v ⟨a,b⟩:=propext Iff.rfl
def av5{v:AV}{k:AV->Prop}:@afC (some v) ⟨k⟩=k v:=propext Iff.rfl
def av6{v:AV×List (Nat×ct)}{k:AV×List (Nat×ct)->Prop}:@afD (some v) ⟨k⟩=k v:=propext Iff.rfl
def av4{v:List (Nat×ct)}{k:List (Nat×ct)->Prop}:@afB (some v) ⟨k⟩=k v:=propext Iff.rfl
def av0{l:List AV}{k:List AV->Prop}:@afy (some l) ⟨k⟩=k l:=propext Iff.rfl
def av8{l:List (Nat×AV)}{k:List (Nat×AV)->Prop}:@afF (some l) ⟨k⟩=k l:=propext Iff.rfl
def av2{v:List AV}{e:List Nat}{k:List AV->List Nat->Prop}:@afz (some (v,e)) ⟨k⟩=k v e:=propext Iff.rfl
def av3{v:AV}{e:Hp}{k:AV->Hp->Prop}:@afA (some (v,e)) ⟨k⟩=k v e:=propext Iff.rfl
def av7{v:Option AV}{k:Option AV->Prop}:@afE (some v) ⟨k⟩=k v:=propext Iff.rfl
def av1{f:Nat}{a c al:List AV}{k y:Nat->List AV->Prop}:@UQ (.func f a c) al ⟨k,y⟩=k f (a++al++c):=propext Iff.rfl
def amA{l:Nat}{al:List AV}{k y:Nat->List AV->Prop}:@UQ (.yield l) al ⟨k,y⟩=y l al:=propext Iff.rfl
def afq{a b:Prop}:@UP true ⟨a,b⟩=a:=by rw[<-Zb,gE]
def aaF{a b:Prop}:@UP false ⟨a,b⟩=b:=by rw[<-Zb,eJ]
def afs{a b:Prop}:@UF (.bool true) ⟨a,b⟩=a:=by rw[<-Za,dE,if_pos rfl]
def afr{a b:Prop}:@UF (.bool false) ⟨a,b⟩=b:=by rw[<-Za,dE,if_neg (by decide)]
def zaB{b:Bool}:Fe (.bool b)=some b:=rfl
def zaU:Fe bS=none:=rfl
def zsn{b:Bool}:((none:Option Bool)==some b)=false:=by cases b<;>decide
def aBL:(some false==some true)=false:=by decide
def aBM:(some true==some false)=false:=by decide
end Dv
namespace Dv
open Go
def dJ{a b c d:Prop}(h1:a)(h2:b)(h3:c)(h4:d):(a/\b)/\c/\d:=⟨⟨h1,h2⟩,h3,h4⟩
@[reducible] def ew (f:Func):Code:=match f.body with|some c=>c|none=>.skip
abbrev fI(c:Code)(n:Nat)(r:List ResultVar):Option FnI:=some {code:=c,ntmps:=n,results:=r,pure:=true,eE:=false}
abbrev fJ(c:Code)(n:Nat)(r:List ResultVar)(d:Bool):Option FnI:=some {code:=c,ntmps:=n,results:=r,pure:=false,eE:=d}
def bh{p:Prop} [Decidable p](h:p:=by omega):decide p=true:=decide_eq_true h
def bj{p:Prop} [Decidable p](h:¬p:=by omega):decide p=false:=decide_eq_false h
def cG{a b:Prop}(k:b)(h:a:=by first|trivial|rfl|(congr 1;omega)|(simp;done)|(simp;omega)):a/\b:=⟨h,k⟩
def shB{a b:Prop}(k:b)(h:a:=by first|trivial|omega|(simp;done)):a/\b:=⟨h,k⟩
def rI{o:Option AV}{v:AV}(h:∃u,o=some u/\u=v):o=some v:=by obtain⟨u,h1,rfl⟩:=h;exact h1
end Dv
namespace Dv
open Go Dv
def aL:=dJ (dJ (dJ @afi (And.intro @afg @amq) @amr (And.intro @aaz @aff)) (dJ @T3 (And.intro @Pf @afh) (And.intro @afd @afe) (And.intro @afc @T0)) (dJ @T1 (And.intro @TZ @Za) @afs (And.intro @afr @afb)) (dJ @afa (And.intro @ae9 @aay) (And.intro @aax @afj) (And.intro @adW @ab1))) (dJ (dJ @SU (And.intro @Wf @alr) @Y3 (And.intro @als @adU)) (dJ @auF (And.intro @alq @adZ) (And.intro @auE @aAS) (And.intro @aAQ @aAR)) (dJ @adX (And.intro @Y4 @KI) (And.intro @KH @SW) (And.intro @adV @Hs)) (dJ @adY (And.intro @auG @Od) (And.intro @SX @alp) (And.intro @aje @Wg))) (dJ (dJ @ajf (And.intro @abZ @ajd) @ab3 (And.intro @aqA @axZ)) (dJ @ax0 (And.intro @RZ @ab0) (And.intro @GK @ab2) (And.intro @ajc @auP)) (dJ @av5 (And.intro @auQ @av6) @auO (And.intro @av4 @Zb)) (dJ @afq (And.intro @aaF @auK) (And.intro @av0 @auS) (And.intro @av8 @auM))) (dJ (dJ @av2 (And.intro @auR @av7) @auN (And.intro @av3 @auL)) (dJ @av1 (And.intro @amA @ajk) (And.intro @Wr @ajl) (And.intro @ajj @aca)) (dJ @aqE (And.intro @ax3 @ax1) (And.intro @ax2 @R3) (And.intro @ab7 @GL)) (dJ @ab9 (And.intro @aqG @aji) (And.intro @ab8 @aqF) (And.intro @aaw @avR)))
def jg:=dJ (dJ (dJ (And.intro @aK4 (And.intro @if_true.{1} @if_false.{1})) (And.intro @ne_eq.{1} (And.intro @not_false_eq_true @List.map_cons.{0,0})) (And.intro @aLt.{0,0} (And.intro @List.length_cons.{0} @List.length_nil.{0})) (And.intro @List.drop_zero.{0} (And.intro @Bool.not_false @Bool.not_true))) (dJ (And.intro @List.map_nil.{0,0} (And.intro @Nat.add_zero @List.all_cons.{0})) (And.intro @Option.bind_some.{0,0} (And.intro @Bool.false_or @true_and)) (And.intro @List.nil_append.{0} (And.intro @List.append_nil.{0} @aNx)) (dJ @Bool.and_self @Bool.true_and @Nat.zero_add @List.getElem?_cons_zero.{0})) (dJ (And.intro @beq_self_eq_true.{0} (And.intro @Bool.and_false @and_self)) (And.intro @Int.toNat_natCast (And.intro @List.getElem?_cons_succ.{0} @and_true)) (And.intro @lu (And.intro @List.all_nil.{0} @List.toList_toArray.{0})) (dJ @aN @aY @aPI.{0} @kL)) (dJ (And.intro @lW (And.intro @zx @L5)) (And.intro @ga (And.intro @OW @L7)) (And.intro @ah0 (And.intro @zw @L6)) (dJ @List.cons_append.{0} @List.reverse_cons.{0} @List.reverse_nil.{0} @aQ))) (dJ (dJ (And.intro @jx (And.intro @gJ @rJ)) (And.intro @jM (And.intro @tL @auU)) (And.intro @dh (And.intro @CA @qu)) (dJ @dO @gA @CC @CB)) (dJ (And.intro @cB (And.intro @kM @Q8)) (And.intro @Q7 (And.intro @fF @mE)) (And.intro @Bool.and_true (And.intro @nN @ur)) (dJ @sU @Bool.or_false @Bool.or_self @Bool.or_true)) (dJ (And.intro @List.take_succ_cons.{0} (And.intro @List.take_zero.{0} @List.drop_succ_cons.{0})) (And.intro @List.drop_nil.{0} (And.intro @Nat.le_refl @decide_true)) (And.intro @List.take_nil.{0} (And.intro @gh @List.modify_succ_cons.{0})) (dJ @List.modify_zero_cons.{0} @bc @Qb @Qa)) (dJ (And.intro @Jl (And.intro @amd @aab)) (And.intro @ame (And.intro @avy @aBn)) (And.intro @aBl (And.intro @aeQ @aBm)) (dJ @aeR @TK @aeP @avD))) (dJ (dJ (And.intro @avC (And.intro @OU @avA)) (And.intro @avB (And.intro @amc @aad)) (And.intro @aeS (And.intro @aeO @avz)) (And.intro @Lu (And.intro @Lv @aac))) (dJ (And.intro @aaa (And.intro @HY @amb)) (And.intro @amv (And.intro @aaB @amw)) (And.intro @avS (And.intro @aBJ @aBH)) (dJ @afm @aBI @afn @T4)) (dJ (And.intro @afl (And.intro @avY @avX)) (And.intro @Pg (And.intro @avV @avW)) (And.intro @avU (And.intro @amt @amu)) (dJ @aaD @afp @LH @aaC)) (dJ (And.intro @afo (And.intro @afk @avT)) (And.intro @LG (And.intro @aaA @Ie)) (And.intro @T5 (And.intro @adD @Mk)) (dJ @I4 @aeq @aer @aeG))) (dJ (dJ (And.intro @ZW (And.intro @ZV @aex)) (And.intro @ZQ (And.intro @ZP @Ww)) (And.intro @My (And.intro @Mz @N8)) (dJ @S7 @abl @zaB @zaU)) (dJ (And.intro @zsn (And.intro @aBL @aBM)) (And.intro @aeV (And.intro @Int.natCast_nonneg @Nat.mul_one)) (And.intro @Int.cast_ofNat_Int (And.intro @decide_false @ahP)) (dJ @ahO @List.isEmpty_nil.{0} @List.isEmpty_cons.{0} @aA9)) (dJ (And.intro @id_eq.{1} (And.intro @List.contains_cons.{0} @List.contains_nil.{0})) (And.intro @auV (And.intro @ew.eq_1 @aU.eq_1)) (And.intro @aU.eq_2 (And.intro @aU.eq_3 @aU.eq_4)) (dJ @aU.eq_5 @aU.eq_6 @aU.eq_7 @aU.eq_8)) (dJ (And.intro @aU.eq_9 (And.intro @aV.eq_1 @aV.eq_2)) (And.intro @bC.eq_1 (And.intro @bC.eq_2 @mP.eq_1)) (And.intro @mP.eq_2 (And.intro @rE.eq_1 @wk.eq_1)) (dJ @pV.eq_1 @Mt.eq_1 @sj.eq_1 @sj.eq_2)))
def aZ:=dJ (And.intro @Qb @Qa) (And.intro @Jl @bc) (And.intro @aN @aY) (And.intro @aPI.{0} (And.intro @ne_eq.{1} @not_false_eq_true))
end Dv
