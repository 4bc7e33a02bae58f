/- Lemmas for AssemblyRefuses; no condition. -/
import Derived.Test.YtmkjgfnicfpjpaaGreatDoorRak
set_option linter.all false
set_option maxHeartbeats 100000000
set_option maxRecDepth 100000
noncomputable section
open Bool renaming false_eq_true->aLT,false_and->aOn
open Option renaming map_some->aMi
open List renaming length_set->aQx
namespace Dv
open Go Go.RowKit
def OH(ts:List AV)(l:List Operand):List Nat:=l.flatMap fun x=>match bU ts x with
 |some v=>eg v
 |none=>[]
def rt1:Option AV->List Nat
 |some v=>eg v
 |none=>[]
def aeM{ts:List AV}:OH ts []=[]:=rfl
def ZV{ts:List AV}{x:Operand}{l:List Operand}:OH ts (x::l)=rt1 (bU ts x)++OH ts l:=by unfold OH rt1;rw[List.flatMap_cons]
def ZU{v:AV}:rt1 (some v)=eg v:=rfl
def aeD{b o:Nat}:eg (.bK b o)=[b]:=rfl
def ZP{b o n e k:Nat}:eg (.aI b o n e k)=[b]:=rfl
def ZO{b:Nat}:eg (.eR b)=[b]:=rfl
def bZ(E:Env)(aR t len:Nat)(vs:List (Nat×AV)):Option (AV×List (Nat×cE)):=match E.ty t with
 |some {cD:=.slice e,..}=>(match E.ty e with
  |some ei=>(match ei.zero with
   |some z=>if z.length=ei.size/\0<ei.size/\len*ei.size<=16777216 then
     (fP (fun i=>some (i*ei.size,ei.size)) (gJ z len) vs).map fun cs=>(.aI aR 0 len ei.size len,[(aR,.cells .live cs)])
    else none
   |none=>none)
  |none=>none)
 |_=>none
def HT(E:Env)(H:Hp)(t:Nat)(a:AV)(l h:Option AV):Option AV:=match E.ty t with
 |some {cD:=.array ..,..}=>gY E H t a l h
 |_=>gg E t a l h
def A7(x:Option (Option AV))(k:Option AV->Prop):Prop:=match x with
 |some v=>k v
 |none=>False
def ux{v:Option AV}{k:Option AV->Prop}:A7 (some v) k=k v:=rfl
@[congr] theorem ahI {a b:Option (Option AV)} {k:Option AV->Prop} (h:a=b):A7 a k=A7 b k:=by rw[h]
def YW(x:Option AV):Option (Option AV):=match x with
 |some v=>some (some v)
 |none=>none
def Od{v:AV}:YW (some v)=some (some v):=rfl
def MD{ts:List AV}:gq ts none=some none:=rfl
def ME{ts:List AV}{x:Operand}:gq ts (some x)=YW (bU ts x):=by
 show(bU ts x).map some=YW (bU ts x)
 cases bU ts x<;>rfl
def Td(a:AV):Option AV:=match a with
 |.bK b off=>some (.bK b off)
 |.cS cs off=>some (.cS cs off)
 |.ie g off=>some (.ie g off)
 |.func f a b=>some (.func f a b)
 |.yield l=>some (.yield l)
 |_=>none
def qI(E:Env)(aR t:Nat)(r:Option AV):Option (AV×List (Nat×cE)):=match E.ty t,r with
 |some {cD:=.map _ _,..},none=>some (.eR aR,[(aR,.map .live [] [])])
 |some {cD:=.map _ _,..},some (.int _ _)=>some (.eR aR,[(aR,.map .live [] [])])
 |_,_=>none
def toK(k:IntKind):AV->Option AV
 |.int _ n=>some (.int k (aW k n))
 |_=>none
def gh{k k':IntKind}{n:Int}:toK k (.int k' n)=some (.int k (aW k n)):=rfl
def gk(E:Env)(t:Nat):Option IntKind:=match E.ty t with
 |some i=>(match i.cD with|.int k=>some k|_=>none)
 |none=>none
def kN(E:Env)(t:Nat):Bool:=match E.ty t with
 |some i=>(match i.cD with|.string=>true|_=>false)
 |none=>false
def toStr:AV->Option AV
 |.str s=>some (.str s)
 |_=>none
def ae1{s:List UInt8}:toStr (.str s)=some (.str s):=rfl
@[congr] theorem ahD {E:Env} {dr tr:Bool} {ops:List (Option Nat)} {rest:List Oper} {aR nid':Nat} {ts ts':List AV} {H H':Hp} {l l':List UZ} {q:List AV->Hp->List UZ->Prop} (h0:aR=nid') (h1:ts=ts') (h2:H=H') (h3:l=l'):bP E dr tr ops rest aR ts H l q=bP E dr tr ops rest nid' ts' H' l' q:=by rw[h0,h1,h2,h3]
section
variable{E:Env}{dr tr:Bool}{ops:List (Option Nat)}{rest:List Oper}{aR:Nat}{ts:List AV}{H:Hp}{l:List UZ}{q:List AV->Hp->List UZ->Prop}{d:Option Nat}{t:Nat}{p:String}{af:Array Edge}
def qc(ds:List (Option Nat))(ts:List AV)(j:Nat)(want:Bool):Bool:=match My ds j with
 |some dj=>Fa (gt ts dj)==some want
 |none=>false
def iB{o:Oper}(hg:o.guard=none):bP E false false ops (o::rest) aR ts H l q=cW E false o H.length ts H fun v e=>bP E false false ops rest aR (bA o.dst v ts) (e.app H) l q:=by
 rw[bP];rw[if_pos (show eM ops ts o=true by unfold eM;rw[hg])]
 simp
def rZ{o:Oper}(hg:o.guard=none)(hl:bW E o=false):bP E true true ops (o::rest) aR ts H l q=cW E true o aR ts H fun v e=>bP E true true ops rest aR (bA o.dst v ts) (e.app H) (bH E ts o e::l) q:=by rw[bP];rw[if_pos (show eM ops ts o=true by unfold eM;rw[hg])];simp[hl]
def Mv{o:Oper}(hg:o.guard=none)(hl:bW E o=true):bP E true true ops (o::rest) aR ts H l q=(kE H[aR]?=true/\cW E true o aR ts H fun v e=>bP E true true ops rest (aR+1) (bA o.dst v ts) (e.app H) (bH E ts o e::l) q):=by rw[bP];rw[if_pos (show eM ops ts o=true by unfold eM;rw[hg])];simp[hl]
def ad3{op:Op}{j:Nat}{want:Bool}:bP E false false ops (⟨d,op,t,p,af,some (j,want)⟩::rest) aR ts H l q=
  om (qc ops ts j want) (bP E false false ops (⟨d,op,t,p,af,none⟩::rest) aR ts H l q) (bP E false false ops rest aR (bA d bT ts) H l q):=by
 have hg:qc ops ts j want=eM ops ts ⟨d,op,t,p,af,some (j,want)⟩:=by
  unfold qc eM;simp only;cases My ops j with
  |none=>rfl
  |some dj=>
   simp only;unfold gt;cases h:ts[dj]? with
   |none=>cases want<;>simp[Fa,bT]
   |some v=>cases v<;>simp[Fa]
 rw[hg];rw[bP];cases hw:eM ops ts ⟨d,op,t,p,af,some (j,want)⟩with
 |true=>rw[gD,iB rfl];simp;rfl
 |false=>rw[eI];simp
def ab3{op:Op}{j:Nat}{want:Bool}:bP E true true ops (⟨d,op,t,p,af,some (j,want)⟩::rest) aR ts H l q=
  om (qc ops ts j want) (bP E true true ops (⟨d,op,t,p,af,none⟩::rest) aR ts H l q)
   (om (bW E ⟨d,op,t,p,af,none⟩) (kE H[aR]?=true/\bP E true true ops rest (aR+1) (bA d bT ts) H (bH E ts ⟨d,op,t,p,af,none⟩ (.bJ [])::l) q) (bP E true true ops rest aR (bA d bT ts) H (bH E ts ⟨d,op,t,p,af,none⟩ (.bJ [])::l) q)):=by
 have hg:qc ops ts j want=eM ops ts ⟨d,op,t,p,af,some (j,want)⟩:=by
  unfold qc eM;simp only;cases My ops j with
  |none=>rfl
  |some dj=>
   simp only;unfold gt;cases h:ts[dj]? with
   |none=>cases want<;>simp[Fa,bT]
   |some v=>cases v<;>simp[Fa]
 have hl:bW E ⟨d,op,t,p,af,some (j,want)⟩=bW E ⟨d,op,t,p,af,none⟩:=rfl;have ht:∀e,bH E ts ⟨d,op,t,p,af,some (j,want)⟩ e=bH E ts ⟨d,op,t,p,af,none⟩ e:=fun _=>rfl
 rw[hg];rw[bP];cases hw:eM ops ts ⟨d,op,t,p,af,some (j,want)⟩with
 |true=>
  rw[gD,bP];rw[if_pos (show eM ops ts ⟨d,op,t,p,af,none⟩=true from rfl)];simp only[hl,ht,if_true];rfl
 |false=>
  rw[eI];simp only[hl,ht,aLT,if_false,if_true,true_and,forall_const];cases bW E ⟨d,op,t,p,af,none⟩<;>simp[om]
def als{x:Operand}:bP E false false ops (⟨d,.move x,t,p,af,none⟩::rest) aR ts H l q=b9 (bU ts x) fun v=>bP E false false ops rest aR (bA d v ts) H l q:=by
 rw[iB rfl];simp only[cW,dH];cases bU ts x<;>rfl
def ajh{x:Operand}:bP E true true ops (⟨d,.move x,t,p,af,none⟩::rest) aR ts H l q=b9 (bU ts x) fun v=>bP E true true ops rest aR (bA d v ts) H (bH E ts ⟨d,.move x,t,p,af,none⟩ (.bJ [])::l) q:=by
 rw[rZ rfl rfl];simp only[cW,dH];cases bU ts x<;>rfl
def Y3{x:Operand}:bP E false false ops (⟨d,.assign x,t,p,af,none⟩::rest) aR ts H l q=b9 (bU ts x) fun v=>bP E false false ops rest aR (bA d v ts) H l q:=by
 rw[iB rfl];simp only[cW,dH];cases bU ts x<;>rfl
def Wl{x:Operand}:bP E true true ops (⟨d,.assign x,t,p,af,none⟩::rest) aR ts H l q=b9 (bU ts x) fun v=>bP E true true ops rest aR (bA d v ts) H (bH E ts ⟨d,.assign x,t,p,af,none⟩ (.bJ [])::l) q:=by
 rw[rZ rfl rfl];simp only[cW,dH];cases bU ts x<;>rfl
def alu{c a b:Operand}:bP E false false ops (⟨d,.pick c a b,t,p,af,none⟩::rest) aR ts H l q=b9 (wc (bU ts c) (bU ts a) (bU ts b)) fun v=>bP E false false ops rest aR (bA d v ts) H l q:=by
 rw[iB rfl];simp only[cW,dH,wc];cases hc:bU ts c with
 |none=>rfl
 |some v=>
  cases v<;>try rfl
  rename_i z;cases z
  ·simp only[aLT,if_false];cases bU ts b<;>rfl
  ·simp only[if_true];cases bU ts a<;>rfl
def aji{c a b:Operand}:bP E true true ops (⟨d,.pick c a b,t,p,af,none⟩::rest) aR ts H l q=b9 (wc (bU ts c) (bU ts a) (bU ts b)) fun v=>bP E true true ops rest aR (bA d v ts) H (bH E ts ⟨d,.pick c a b,t,p,af,none⟩ (.bJ [])::l) q:=by
 rw[rZ rfl rfl];simp only[cW,dH,wc];cases hc:bU ts c with
 |none=>rfl
 |some v=>
  cases v<;>try rfl
  rename_i z;cases z
  ·simp only[aLT,if_false];cases bU ts b<;>rfl
  ·simp only[if_true];cases bU ts a<;>rfl
def ad1{t1:Nat}:bP E false false ops (⟨d,.alloc t1,t,p,af,none⟩::rest) aR ts H l q=b9 (ek E t1) fun z=>bP E false false ops rest aR (bA d (.bK H.length 0) ts) ((cF.bJ ([(H.length,.cells .live z.cells)])).app H) l q:=by
 rw[iB rfl];simp only[cW,dH];cases ek E t1<;>rfl
def ab1{t1:Nat}:bP E true true ops (⟨d,.alloc t1,t,p,af,none⟩::rest) aR ts H l q=(kE H[aR]?=true/\b9 (ek E t1) fun z=>bP E true true ops rest (aR+1) (bA d (.bK aR 0) ts) ((cF.bJ ([(aR,.cells .live z.cells)])).app H) (bH E ts ⟨d,.alloc t1,t,p,af,none⟩ (.bJ ([(aR,.cells .live z.cells)]))::l) q):=by
 rw[Mv rfl rfl];congr 1;simp only[cW,dH];cases ek E t1<;>rfl
def auI{t1:Nat}{x:Operand}:bP E false false ops (⟨d,.box t1 x,t,p,af,none⟩::rest) aR ts H l q=b9 (bU ts x) fun z=>bP E false false ops rest aR (bA d (.bK H.length 0) ts) ((cF.bJ ([(H.length,.cells .live z.cells)])).app H) l q:=by
 rw[iB rfl];simp only[cW,dH];cases bU ts x<;>rfl
def alr{t1:Nat}{x:Operand}:bP E false false ops (⟨d,.load t1 x,t,p,af,none⟩::rest) aR ts H l q=b9 (bU ts x) fun a=>b9 (dU E H t1 a) fun v=>bP E false false ops rest aR (bA d v ts) H l q:=by
 rw[iB rfl];simp only[cW,dH];rcases bU ts x with _|a
 rfl;simp only[aT];cases dU E H t1 a<;>rfl
def ajg{t1:Nat}{x:Operand}:bP E true true ops (⟨d,.load t1 x,t,p,af,none⟩::rest) aR ts H l q=b9 (bU ts x) fun a=>b9 (dU E H t1 a) fun v=>bP E true true ops rest aR (bA d v ts) H (bH E ts ⟨d,.load t1 x,t,p,af,none⟩ (.bJ [])::l) q:=by
 rw[rZ rfl rfl];simp only[cW,dH];rcases bU ts x with _|a
 rfl;simp only[aT];cases dU E H t1 a<;>rfl
def ad6{t1:Nat}{x y:Operand}:bP E false false ops (⟨none,.store t1 x y,t,p,af,none⟩::rest) aR ts H l q=b9 (bU ts x) fun a=>b9 (bU ts y) fun v=>A6 (fh E H t1 a v) fun s=>bP E false false ops rest aR ts ((cF.bJ (s)).app H) l q:=by
 rw[iB rfl];simp only[cW,dH];rcases bU ts x with _|a
 rfl;rcases bU ts y with _|v
 rfl;simp only[aT];cases fh E H t1 a v<;>rfl
def ab5{t1:Nat}{x y:Operand}:bP E true true ops (⟨none,.store t1 x y,t,p,af,none⟩::rest) aR ts H l q=b9 (bU ts x) fun a=>b9 (bU ts y) fun v=>A6 (fh E H t1 a v) fun s=>bP E true true ops rest aR ts ((cF.bJ (s)).app H) (bH E ts ⟨none,.store t1 x y,t,p,af,none⟩ (.bJ (s))::l) q:=by
 rw[rZ rfl rfl];simp only[cW,dH];rcases bU ts x with _|a
 rfl;rcases bU ts y with _|v
 rfl;simp only[aT];cases fh E H t1 a v<;>rfl
def auH{op:BinOp}{t1 t2:Nat}{x y:Operand}:bP E false false ops (⟨d,.binOp op t1 x y t2,t,p,af,none⟩::rest) aR ts H l q=b9 (bU ts x) fun a=>b9 (bU ts y) fun b=>b9 (cp E (bC x||bC y) op t1 a b) fun v=>bP E false false ops rest aR (bA d v ts) H l q:=by
 rw[iB rfl];simp only[cW,dH];rcases bU ts x with _|a
 rfl;rcases bU ts y with _|b
 rfl;simp only[aT];cases cp E (bC x||bC y) op t1 a b<;>rfl
def aqH{op:BinOp}{t1 t2:Nat}{x y:Operand}:bP E true true ops (⟨d,.binOp op t1 x y t2,t,p,af,none⟩::rest) aR ts H l q=b9 (bU ts x) fun a=>b9 (bU ts y) fun b=>b9 (cp E (bC x||bC y) op t1 a b) fun v=>bP E true true ops rest aR (bA d v ts) H (bH E ts ⟨d,.binOp op t1 x y t2,t,p,af,none⟩ (.bJ [])::l) q:=by
 rw[rZ rfl rfl];simp only[cW,dH];rcases bU ts x with _|a
 rfl;rcases bU ts y with _|b
 rfl;simp only[aT];cases cp E (bC x||bC y) op t1 a b<;>rfl
def aAP{op:UnOp}{t1:Nat}{x:Operand}:bP E false false ops (⟨d,.unOp op t1 x,t,p,af,none⟩::rest) aR ts H l q=b9 (bU ts x) fun a=>b9 (T1 op a) fun v=>bP E false false ops rest aR (bA d v ts) H l q:=by
 rw[iB rfl];simp only[cW,dH];rcases bU ts x with _|a
 rfl;simp only[aT];cases T1 op a<;>rfl
def aAN{t1 f:Nat}{x:Operand}:bP E false false ops (⟨d,.fieldAddr t1 x f,t,p,af,none⟩::rest) aR ts H l q=b9 (bU ts x) fun a=>b9 (cQ E t1 a f) fun v=>bP E false false ops rest aR (bA d v ts) H l q:=by
 rw[iB rfl];simp only[cW,dH];rcases bU ts x with _|a
 rfl;simp only[aT];cases cQ E t1 a f<;>rfl
def ax7{t1 f:Nat}{x:Operand}:bP E true true ops (⟨d,.fieldAddr t1 x f,t,p,af,none⟩::rest) aR ts H l q=b9 (bU ts x) fun a=>b9 (cQ E t1 a f) fun v=>bP E true true ops rest aR (bA d v ts) H (bH E ts ⟨d,.fieldAddr t1 x f,t,p,af,none⟩ (.bJ [])::l) q:=by
 rw[rZ rfl rfl];simp only[cW,dH];rcases bU ts x with _|a
 rfl;simp only[aT];cases cQ E t1 a f<;>rfl
def aAO{t1:Nat}{x y:Operand}:bP E false false ops (⟨d,.indexAddr t1 x y,t,p,af,none⟩::rest) aR ts H l q=b9 (bU ts x) fun a=>b9 (bU ts y) fun b=>b9 (cd E t1 a b) fun v=>bP E false false ops rest aR (bA d v ts) H l q:=by
 rw[iB rfl];simp only[cW,dH];rcases bU ts x with _|a
 rfl;rcases bU ts y with _|b
 rfl;simp only[aT];cases cd E t1 a b<;>rfl
def ax8{t1:Nat}{x y:Operand}:bP E true true ops (⟨d,.indexAddr t1 x y,t,p,af,none⟩::rest) aR ts H l q=b9 (bU ts x) fun a=>b9 (bU ts y) fun b=>b9 (cd E t1 a b) fun v=>bP E true true ops rest aR (bA d v ts) H (bH E ts ⟨d,.indexAddr t1 x y,t,p,af,none⟩ (.bJ [])::l) q:=by
 rw[rZ rfl rfl];simp only[cW,dH];rcases bU ts x with _|a
 rfl;rcases bU ts y with _|b
 rfl;simp only[aT];cases cd E t1 a b<;>rfl
def ad4{t1:Nat}{x y:Operand}:bP E false false ops (⟨d,.index t1 x y,t,p,af,none⟩::rest) aR ts H l q=b9 (bU ts x) fun a=>b9 (bU ts y) fun b=>b9 (lF E t1 a b) fun v=>bP E false false ops rest aR (bA d v ts) H l q:=by
 rw[iB rfl];simp only[cW,dH];rcases bU ts x with _|a
 rfl;rcases bU ts y with _|b
 rfl;simp only[aT];cases lF E t1 a b<;>rfl
def Y4{t1:Nat}{x y:Operand}{ok:Bool}:bP E false false ops (⟨d,.lookup t1 x y ok,t,p,af,none⟩::rest) aR ts H l q=b9 (bU ts x) fun a=>b9 (bU ts y) fun b=>b9 (jU E H t1 a b ok) fun v=>bP E false false ops rest aR (bA d v ts) H l q:=by
 rw[iB rfl];simp only[cW,dH];rcases bU ts x with _|a
 rfl;rcases bU ts y with _|b
 rfl;simp only[aT];cases jU E H t1 a b ok<;>rfl
def KF{t1:Nat}{x y z:Operand}:bP E false false ops (⟨none,.mapUpdate t1 x y z,t,p,af,none⟩::rest) aR ts H l q=b9 (bU ts x) fun a=>b9 (bU ts y) fun b=>b9 (bU ts z) fun c=>A6 (fV E H t1 a b c) fun s=>bP E false false ops rest aR ts ((cF.bJ (s)).app H) l q:=by
 rw[iB rfl];simp only[cW,dH];rcases bU ts x with _|a
 rfl;rcases bU ts y with _|b
 rfl;rcases bU ts z with _|c
 rfl;simp only[aT];cases fV E H t1 a b c<;>rfl
def KE{t1:Nat}{x y:Operand}:bP E false false ops (⟨d,.makeSlice t1 x y,t,p,af,none⟩::rest) aR ts H l q=b9 (bU ts x) fun a=>b9 (bU ts y) fun b=>qZ (fp E H.length t1 a b) fun r=>bP E false false ops rest aR (bA d r.1 ts) ((cF.bJ (r.2)).app H) l q:=by
 rw[iB rfl];simp only[cW,dH];rcases bU ts x with _|a
 rfl;rcases bU ts y with _|b
 rfl;simp only[aT];cases fp E H.length t1 a b<;>rfl
def Ta{i:Nat}{x:Operand}:bP E false false ops (⟨d,.extract x i,t,p,af,none⟩::rest) aR ts H l q=b9 (bU ts x) fun a=>b9 (nth a i) fun v=>bP E false false ops rest aR (bA d v ts) H l q:=by
 rw[iB rfl];simp only[cW,dH];rcases bU ts x with _|a
 rfl;simp only[aT];cases a<;>try rfl
 rename_i vs;simp only[nth];cases vs[i]?<;>rfl
def Sa{i:Nat}{x:Operand}:bP E true true ops (⟨d,.extract x i,t,p,af,none⟩::rest) aR ts H l q=b9 (bU ts x) fun a=>b9 (nth a i) fun v=>bP E true true ops rest aR (bA d v ts) H (bH E ts ⟨d,.extract x i,t,p,af,none⟩ (.bJ [])::l) q:=by
 rw[rZ rfl rfl];simp only[cW,dH];rcases bU ts x with _|a
 rfl;simp only[aT];cases a<;>try rfl
 rename_i vs;simp only[nth];cases vs[i]?<;>rfl
def ad2{t1:Nat}{ps:Array (Nat×Operand)}:bP E false false ops (⟨d,.build t1 ps,t,p,af,none⟩::rest) aR ts H l q=zq (sJ ts ps.toList) fun vs=>b9 (eN E t1 vs) fun v=>bP E false false ops rest aR (bA d v ts) H l q:=by
 rw[iB rfl];simp only[cW,dH,eN];cases sJ ts ps.toList with
 |none=>cases fB E t1<;>cases (E.ty t1).bind (·.zero)<;>rfl
 |some vs=>
  cases fB E t1 with
  |none=>rfl
  |some pl=>
   cases (E.ty t1).bind (·.zero)with
   |none=>rfl
   |some z=>simp only[fM];cases fP pl z vs<;>rfl
def ab2{t1:Nat}{ps:Array (Nat×Operand)}:bP E true true ops (⟨d,.build t1 ps,t,p,af,none⟩::rest) aR ts H l q=zq (sJ ts ps.toList) fun vs=>b9 (eN E t1 vs) fun v=>bP E true true ops rest aR (bA d v ts) H (bH E ts ⟨d,.build t1 ps,t,p,af,none⟩ (.bJ [])::l) q:=by
 rw[rZ rfl rfl];simp only[cW,dH,eN];cases sJ ts ps.toList with
 |none=>cases fB E t1<;>cases (E.ty t1).bind (·.zero)<;>rfl
 |some vs=>
  cases fB E t1 with
  |none=>rfl
  |some pl=>
   cases (E.ty t1).bind (·.zero)with
   |none=>rfl
   |some z=>simp only[fM];cases fP pl z vs<;>rfl
def Hu{t1 len:Nat}{ps:Array (Nat×Operand)}:bP E false false ops (⟨d,.buildSlice t1 len ps,t,p,af,none⟩::rest) aR ts H l q=zq (sJ ts ps.toList) fun vs=>qZ (bZ E H.length t1 len vs) fun r=>bP E false false ops rest aR (bA d r.1 ts) ((cF.bJ r.2).app H) l q:=by
 rw[iB rfl];simp only[cW,dH,bZ];cases sJ ts ps.toList with
 |none=>
  cases E.ty t1 with
  |none=>rfl
  |some i=>
   obtain⟨cD,jA,jS,jB,jZ,dK⟩:=i;cases cD<;>try rfl
   rename_i e;simp only;cases E.ty e with
   |none=>rfl
   |some ei=>simp only;cases ei.zero<;>rfl
 |some vs=>
  simp only[fM];cases E.ty t1 with
  |none=>rfl
  |some i=>
   obtain⟨cD,jA,jS,jB,jZ,dK⟩:=i;cases cD<;>try rfl
   rename_i e;simp only;cases E.ty e with
   |none=>rfl
   |some ei=>
    simp only;cases ei.zero with
    |none=>rfl
    |some z=>
     simp only
     split
     ·cases fP (fun i=>some (i*ei.size,ei.size)) (gJ z len) vs<;>rfl
     ·rfl
def GK{t1 len:Nat}{ps:Array (Nat×Operand)}:bP E true true ops (⟨d,.buildSlice t1 len ps,t,p,af,none⟩::rest) aR ts H l q=(kE H[aR]?=true/\zq (sJ ts ps.toList) fun vs=>qZ (bZ E aR t1 len vs) fun r=>bP E true true ops rest (aR+1) (bA d r.1 ts) ((cF.bJ r.2).app H) (bH E ts ⟨d,.buildSlice t1 len ps,t,p,af,none⟩ (.bJ r.2)::l) q):=by
 rw[Mv rfl rfl];congr 1;simp only[cW,dH,bZ];cases sJ ts ps.toList with
 |none=>
  cases E.ty t1 with
  |none=>rfl
  |some i=>
   obtain⟨cD,jA,jS,jB,jZ,dK⟩:=i;cases cD<;>try rfl
   rename_i e;simp only;cases E.ty e with
   |none=>rfl
   |some ei=>simp only;cases ei.zero<;>rfl
 |some vs=>
  simp only[fM];cases E.ty t1 with
  |none=>rfl
  |some i=>
   obtain⟨cD,jA,jS,jB,jZ,dK⟩:=i;cases cD<;>try rfl
   rename_i e;simp only;cases E.ty e with
   |none=>rfl
   |some ei=>
    simp only;cases ei.zero with
    |none=>rfl
    |some z=>
     simp only
     split
     ·cases fP (fun i=>some (i*ei.size,ei.size)) (gJ z len) vs<;>rfl
     ·rfl
def S9{bi:Builtin}{args:Array Operand}{ats:Array Nat}:bP E false false ops (⟨d,.call {callee:=.builtin bi,args:=args,argTypes:=ats},t,p,af,none⟩::rest) aR ts H l q=nM (kr ts args.toList) fun al=>qZ (bM E H H.length bi ats.toList al) fun r=>bP E false false ops rest aR (bA d r.1 ts) ((cF.bJ r.2).app H) l q:=by
 rw[iB rfl];simp only[cW,dH];cases kr ts args.toList with
 |none=>rfl
 |some al=>simp only[bR];cases bM E H H.length bi ats.toList al<;>rfl
def Wk{args:Array Operand}{ats:Array Nat}:bP E true true ops (⟨d,.call {callee:=.builtin .append,args:=args,argTypes:=ats},t,p,af,none⟩::rest) aR ts H l q=(kE H[aR]?=true/\nM (kr ts args.toList) fun al=>qZ (bM E H aR .append ats.toList al) fun r=>bP E true true ops rest (aR+1) (bA d r.1 ts) ((cF.bJ r.2).app H) (bH E ts ⟨d,.call {callee:=.builtin .append,args:=args,argTypes:=ats},t,p,af,none⟩ (.bJ r.2)::l) q):=by
 rw[Mv rfl rfl];congr 1;simp only[cW,dH];cases kr ts args.toList with
 |none=>rfl
 |some al=>simp only[bR];cases bM E H aR .append ats.toList al<;>rfl
def ad5{t1:Nat}{x:Operand}{lo hi:Option Operand}:bP E false false ops (⟨d,.slice t1 x lo hi none,t,p,af,none⟩::rest) aR ts H l q=b9 (bU ts x) fun a=>A7 (gq ts lo) fun b=>A7 (gq ts hi) fun c=>b9 (HT E H t1 a b c) fun v=>bP E false false ops rest aR (bA d v ts) H l q:=by
 rw[iB rfl];simp only[cW,dH,HT];cases bU ts x with
 |none=>rfl
 |some a=>
  cases gq ts lo with
  |none=>rfl
  |some b=>
   cases gq ts hi with
   |none=>rfl
   |some c=>
    simp only[aT,ux];cases E.ty t1 with
    |none=>simp only;cases gg E t1 a b c<;>rfl
    |some i=>
     obtain⟨cD,jA,jS,jB,jZ,dK⟩:=i;cases cD<;>simp only<;>first|(cases gY E H t1 a b c<;>rfl)|(cases gg E t1 a b c<;>rfl)
def ab4{t1:Nat}{x:Operand}{lo hi:Option Operand}:bP E true true ops (⟨d,.slice t1 x lo hi none,t,p,af,none⟩::rest) aR ts H l q=b9 (bU ts x) fun a=>A7 (gq ts lo) fun b=>A7 (gq ts hi) fun c=>b9 (HT E H t1 a b c) fun v=>bP E true true ops rest aR (bA d v ts) H (bH E ts ⟨d,.slice t1 x lo hi none,t,p,af,none⟩ (.bJ [])::l) q:=by
 rw[rZ rfl rfl];simp only[cW,dH,HT];cases bU ts x with
 |none=>rfl
 |some a=>
  cases gq ts lo with
  |none=>rfl
  |some b=>
   cases gq ts hi with
   |none=>rfl
   |some c=>
    simp only[aT,ux];cases E.ty t1 with
    |none=>simp only;cases gg E t1 a b c<;>rfl
    |some i=>
     obtain⟨cD,jA,jS,jB,jZ,dK⟩:=i;cases cD<;>simp only<;>first|(cases gY E H t1 a b c<;>rfl)|(cases gg E t1 a b c<;>rfl)
def auJ{x:Operand}:bP E false false ops (⟨d,.nilCheck x,t,p,af,none⟩::rest) aR ts H l q=b9 (bU ts x) fun a=>b9 (Td a) fun v=>bP E false false ops rest aR (bA d v ts) H l q:=by
 rw[iB rfl];simp only[cW,dH,Td];cases bU ts x with
 |none=>rfl
 |some a=>cases a<;>rfl
def Oh{f:Nat}{first cap:Array Operand}:bP E false false ops (⟨d,.makeFunc (.func f) first cap,t,p,af,none⟩::rest) aR ts H l q=nM (kr ts first.toList) fun a=>nM (kr ts cap.toList) fun c=>bP E false false ops rest aR (bA d (.func f a c) ts) H l q:=by
 rw[iB rfl];simp only[cW,dH];cases kr ts first.toList with
 |none=>rfl
 |some a=>cases kr ts cap.toList<;>rfl
def Tb{t1:Nat}{r0:Option Operand}:bP E false false ops (⟨d,.makeMap t1 r0,t,p,af,none⟩::rest) aR ts H l q=A7 (gq ts r0) fun a=>qZ (qI E H.length t1 a) fun r=>bP E false false ops rest aR (bA d r.1 ts) ((cF.bJ r.2).app H) l q:=by
 rw[iB rfl];simp only[cW,dH,qI];cases gq ts r0 with
 |none=>
  cases E.ty t1 with
  |none=>rfl
  |some i=>
   obtain⟨cD,jA,jS,jB,jZ,dK⟩:=i;cases cD<;>rfl
 |some a=>
  simp only[ux];cases E.ty t1 with
  |none=>cases a<;>rfl
  |some i=>
   obtain⟨cD,jA,jS,jB,jZ,dK⟩:=i;cases cD<;>cases a<;>(try rfl)<;>(rename_i v;cases v<;>rfl)
def FW{s1 d1:Nat}{k0 k':IntKind}{x:Operand}(hs:gk E s1=some k0)(hd:gk E d1=some k'):bW E ⟨d,.convert s1 d1 x,t,p,af,none⟩=false:=by
 unfold gk at hs;unfold bW;simp only;cases h1:E.ty s1 with
 |none=>rfl
 |some si=>
  rw[h1]at hs;obtain⟨cD,jA,jS,jB,jZ,dK⟩:=si;cases cD<;>first|(cases hs;done)|rfl
def ef{s1 d1:Nat}{k0 k':IntKind}{x:Operand}(hs:gk E s1=some k0)(hd:gk E d1=some k'):bP E false false ops (⟨d,.convert s1 d1 x,t,p,af,none⟩::rest) aR ts H l q=b9 (bU ts x) fun a=>b9 (toK k' a) fun v=>bP E false false ops rest aR (bA d v ts) H l q:=by
 rw[iB rfl];simp only[cW,dH];unfold gk at hs hd;cases h1:E.ty s1 with
 |none=>rw[h1]at hs;cases hs
 |some si=>
  cases h2:E.ty d1 with
  |none=>rw[h2]at hd;cases hd
  |some di=>
   rw[h1]at hs;rw[h2]at hd;obtain⟨cD,jA,jS,jB,jZ,dK⟩:=si;obtain⟨aam,X6,ahf,Vj,ahq,af7⟩:=di;cases cD<;>first|(cases hs;done)|skip
   cases aam<;>first|(cases hd;done)|skip
   simp only[Option.some.injEq]at hd;subst hd;cases bU ts x with
   |none=>rfl
   |some v=>cases v<;>simp[Cn,h1,h2,toK,b9,Ek,nO]
def A5(x:Option (AV×Hp))(k:AV->Hp->Prop):Prop:=match x with
 |some (v,e)=>k v e
 |none=>False
def uw{v:AV}{e:Hp}{k:AV->Hp->Prop}:A5 (some (v,e)) k=k v e:=rfl
@[congr] theorem ahE {a b:Option (AV×Hp)} {k:AV->Hp->Prop} (h:a=b):A5 a k=A5 b k:=by rw[h]
def qs(E:Env)(dr st:Bool)(f:Nat)(bl:List AV)(H:Hp)(k:AV->cF->Prop):Prop:=
 om (bF E f) (om (Fq E f&&(dr&&st)) (xH (bX H bl) fun cl bs=>b9 (zC E f cl) fun r=>k r (if bQ r=true then cF.looks bs else cF.marks bs)) (A5 (cV E f bl H) fun r H'=>om ((dr&&st)&&!sf H H') False (k r (.Ep H'))))
  (xH (bX H bl) fun cl bs=>b9 (aP E f cl) fun r=>k r (if bQ r=true then cF.looks bs else cF.marks bs))
@[congr] theorem afz {dr st:Bool} {f:Nat} {bl bl':List AV} {H H':Hp} {k:AV->cF->Prop} (h1:bl=bl') (h2:H=H'):qs E dr st f bl H k=qs E dr st f bl' H' k:=by rw[h1,h2]
def GH{st:Bool}{f:Nat}{bl:List AV}{k:AV->cF->Prop}:Iz E dr st f bl H k=qs E dr st f bl H k:=by
 have key:∀(C:Nat->List AV->AV->Prop) (O:Nat->List AV->Option AV),(∀f al r,C f al r->O f al=some r)->(∀f al r,O f al=some r->C f al r)->
   (∃sV bs r,bX H bl=some (sV,bs)/\C f sV r/\k r (if bQ r=true then cF.looks bs else cF.marks bs))=(xH (bX H bl) fun cl bs=>b9 (O f cl) fun r=>k r (if bQ r=true then cF.looks bs else cF.marks bs)):=by
  intro C O h1 h2;apply propext;constructor
  ·rintro⟨sV,bs,r,g1,g2,g3⟩;rw[g1,dd,h1 _ _ _ g2,aT];exact g3
  ·intro h;cases hz:bX H bl with
   |none=>rw[hz]at h;exact h.elim
   |some y=>
    obtain⟨cl,bs⟩:=y;rw[hz,dd]at h;cases hr:O f cl with
    |none=>rw[hr]at h;exact h.elim
    |some r=>rw[hr,aT]at h;exact⟨cl,bs,r,rfl,h2 _ _ _ hr,h⟩
 unfold Iz qs;cases bF E f with
 |true=>
  simp only[if_true,gD];cases Fq E f&&(dr&&st)with
  |true=>
   simp only[if_true,gD];exact key (xy E) (zC E) (fun _ _ _ h=>R4 h) (fun _ _ _ h=>Mj h)
  |false=>
   simp only[aLT,if_false,eI];apply propext;constructor
   ·rintro⟨r,H',g1,hk,g2⟩;rw[zB g1,uw];have Xq:((dr&&st)&&!sf H H')=false:=by
     cases hds:(dr&&st)with
     |false=>rfl
     |true=>rw[hk hds];rfl
    rw[Xq,eI];exact g2
   ·intro h;cases hr:cV E f bl H with
    |none=>rw[hr]at h;exact h.elim
    |some x=>
     obtain⟨r,H'⟩:=x;rw[hr,uw]at h;cases Xq:((dr&&st)&&!sf H H')with
     |true=>rw[Xq]at h;exact h.elim
     |false=>
      rw[Xq,eI]at h;refine⟨r,H',Mi hr,fun hds=>?_,h⟩;rw[hds]at Xq;cases hz:sf H H' with
      |true=>rfl
      |false=>rw[hz]at Xq;cases Xq
 |false=>
  simp only[aLT,if_false,eI];exact key (kC E) (aP E) (fun _ _ _ h=>dB h) (fun _ _ _ h=>wF h)
def L4(fv:AV)(al:List AV)(k:Nat->List AV->Prop)(y:Nat->List AV->Prop):Prop:=match fv with
 |.func f a c=>k f (a++al++c)
 |.yield l=>y l al
 |_=>False
def zo{f:Nat}{a c al:List AV}{k y:Nat->List AV->Prop}:L4 (.func f a c) al k y=k f (a++al++c):=rfl
def wB{l:Nat}{al:List AV}{k y:Nat->List AV->Prop}:L4 (.yield l) al k y=y l al:=rfl
def GI{l:Nat}{al:List AV}{k:AV->Hp->Prop}:(∃r H',xz E l al H r H'/\k r H')=A5 (nG E l al H) fun r H'=>k r H':=by
 apply propext;constructor
 ·rintro⟨r,H',g1,g2⟩;rw[vH g1,uw];exact g2
 ·intro h;cases hr:nG E l al H with
  |none=>rw[hr]at h;exact h.elim
  |some x=>
   obtain⟨r,H'⟩:=x;rw[hr,uw]at h;exact⟨r,H',Mk hr,h⟩
def alq{x:Operand}{args:Array Operand}{ats:Array Nat}:bP E false false ops (⟨d,.call {callee:=.value x,args:=args,argTypes:=ats},t,p,af,none⟩::rest) aR ts H l q=b9 (bU ts x) fun fv=>nM (kr ts args.toList) fun al=>L4 fv al (fun f bl=>qs E false (mS x) f bl H fun r e=>bP E false false ops rest aR (bA d r ts) (e.app H) l q) (fun l' bl=>A5 (nG E l' bl H) fun r H'=>bP E false false ops rest aR (bA d r ts) ((cF.Ep H').app H) l q):=by
 rw[iB rfl];simp only[cW];cases bU ts x with
 |none=>rfl
 |some fv=>
  cases kr ts args.toList with
  |none=>cases fv<;>rfl
  |some al=>
   cases fv<;>try rfl
   ·simp only[aT,bR,zo,GH]
   ·simp only[aT,bR,wB,GI]
def ajf{x:Operand}{args:Array Operand}{ats:Array Nat}:bP E true true ops (⟨d,.call {callee:=.value x,args:=args,argTypes:=ats},t,p,af,none⟩::rest) aR ts H l q=b9 (bU ts x) fun fv=>nM (kr ts args.toList) fun al=>L4 fv al (fun f bl=>qs E true (mS x) f bl H fun r e=>bP E true true ops rest aR (bA d r ts) (e.app H) (bH E ts ⟨d,.call {callee:=.value x,args:=args,argTypes:=ats},t,p,af,none⟩ e::l) q) (fun l' bl=>A5 (nG E l' bl H) fun r H'=>bP E true true ops rest aR (bA d r ts) ((cF.Ep H').app H) (bH E ts ⟨d,.call {callee:=.value x,args:=args,argTypes:=ats},t,p,af,none⟩ (cF.Ep H')::l) q):=by
 rw[rZ rfl rfl];simp only[cW];cases bU ts x with
 |none=>rfl
 |some fv=>
  cases kr ts args.toList with
  |none=>cases fv<;>rfl
  |some al=>
   cases fv<;>try rfl
   ·simp only[aT,bR,zo,GH]
   ·simp only[aT,bR,wB,GI]
def jy{st:Bool}{f:Nat}{bl:List AV}{k:AV->cF->Prop}(h:bF E f=false):qs E dr st f bl H k=xH (bX H bl) fun cl bs=>b9 (aP E f cl) fun r=>k r (if bQ r=true then cF.looks bs else cF.marks bs):=by unfold qs;rw[h,eI]
def aa5{st:Bool}{f:Nat}{bl:List AV}{k:AV->cF->Prop}(h:bF E f=true):qs E false st f bl H k=A5 (cV E f bl H) fun r H'=>k r (.Ep H'):=by
 unfold qs;rw[h,gD]
 simp only[aOn,Bool.and_false,eI]
def aa6{f:Nat}{bl:List AV}{k:AV->cF->Prop}(h:bF E f=true)(h2:Fq E f=false):qs E true true f bl H k=A5 (cV E f bl H) fun r H'=>om (!sf H H') False (k r (.Ep H')):=by
 unfold qs;rw[h,gD,h2]
 simp only[aOn,eI,Bool.true_and]
def abm{H':Hp}:(cF.Ep H').app H=H':=rfl
def nI{o:Oper}(hg:o.guard=none)(hl:bW E o=false):bP E true false ops (o::rest) aR ts H l q=cW E true o aR ts H fun v e=>bP E true false ops rest aR (bA o.dst v ts) (e.app H) l q:=by rw[bP];rw[if_pos (show eM ops ts o=true by unfold eM;rw[hg])];simp[hl]
def ajk{o:Oper}(hg:o.guard=none)(hl:bW E o=true):bP E true false ops (o::rest) aR ts H l q=(kE H[aR]?=true/\cW E true o aR ts H fun v e=>bP E true false ops rest (aR+1) (bA o.dst v ts) (e.app H) l q):=by rw[bP];rw[if_pos (show eM ops ts o=true by unfold eM;rw[hg])];simp[hl]
def aca{op:Op}{j:Nat}{want:Bool}:bP E true false ops (⟨d,op,t,p,af,some (j,want)⟩::rest) aR ts H l q=
  om (qc ops ts j want) (bP E true false ops (⟨d,op,t,p,af,none⟩::rest) aR ts H l q)
   (om (bW E ⟨d,op,t,p,af,none⟩) (kE H[aR]?=true/\bP E true false ops rest (aR+1) (bA d bT ts) H l q) (bP E true false ops rest aR (bA d bT ts) H l q)):=by
 have hg:qc ops ts j want=eM ops ts ⟨d,op,t,p,af,some (j,want)⟩:=by
  unfold qc eM;simp only;cases My ops j with
  |none=>rfl
  |some dj=>
   simp only;unfold gt;cases h:ts[dj]? with
   |none=>cases want<;>simp[Fa,bT]
   |some v=>cases v<;>simp[Fa]
 have hl:bW E ⟨d,op,t,p,af,some (j,want)⟩=bW E ⟨d,op,t,p,af,none⟩:=rfl;rw[hg];rw[bP];cases hw:eM ops ts ⟨d,op,t,p,af,some (j,want)⟩with
 |true=>
  rw[gD,bP];rw[if_pos (show eM ops ts ⟨d,op,t,p,af,none⟩=true from rfl)];simp only[hl,if_true];rfl
 |false=>
  rw[eI];simp only[hl,aLT,if_false,if_true,true_and,forall_const];cases bW E ⟨d,op,t,p,af,none⟩<;>simp[om]
def ajn{x:Operand}:bP E true false ops (⟨d,.move x,t,p,af,none⟩::rest) aR ts H l q=b9 (bU ts x) fun v=>bP E true false ops rest aR (bA d v ts) H l q:=by
 rw[nI rfl rfl];simp only[cW,dH];cases bU ts x<;>rfl
def Ww{x:Operand}:bP E true false ops (⟨d,.assign x,t,p,af,none⟩::rest) aR ts H l q=b9 (bU ts x) fun v=>bP E true false ops rest aR (bA d v ts) H l q:=by
 rw[nI rfl rfl];simp only[cW,dH];cases bU ts x<;>rfl
def ajo{c a b:Operand}:bP E true false ops (⟨d,.pick c a b,t,p,af,none⟩::rest) aR ts H l q=b9 (wc (bU ts c) (bU ts a) (bU ts b)) fun v=>bP E true false ops rest aR (bA d v ts) H l q:=by
 rw[nI rfl rfl];simp only[cW,dH,wc];cases hc:bU ts c with
 |none=>rfl
 |some v=>
  cases v<;>try rfl
  rename_i z;cases z
  ·simp only[aLT,if_false];cases bU ts b<;>rfl
  ·simp only[if_true];cases bU ts a<;>rfl
def ajm{t1:Nat}{x:Operand}:bP E true false ops (⟨d,.load t1 x,t,p,af,none⟩::rest) aR ts H l q=b9 (bU ts x) fun a=>b9 (dU E H t1 a) fun v=>bP E true false ops rest aR (bA d v ts) H l q:=by
 rw[nI rfl rfl];simp only[cW,dH];rcases bU ts x with _|a
 rfl;simp only[aT];cases dU E H t1 a<;>rfl
def acd{t1:Nat}{x y:Operand}:bP E true false ops (⟨none,.store t1 x y,t,p,af,none⟩::rest) aR ts H l q=b9 (bU ts x) fun a=>b9 (bU ts y) fun v=>A6 (fh E H t1 a v) fun s=>bP E true false ops rest aR ts ((cF.bJ (s)).app H) l q:=by
 rw[nI rfl rfl];simp only[cW,dH];rcases bU ts x with _|a
 rfl;rcases bU ts y with _|v
 rfl;simp only[aT];cases fh E H t1 a v<;>rfl
def aqL{op:BinOp}{t1 t2:Nat}{x y:Operand}:bP E true false ops (⟨d,.binOp op t1 x y t2,t,p,af,none⟩::rest) aR ts H l q=b9 (bU ts x) fun a=>b9 (bU ts y) fun b=>b9 (cp E (bC x||bC y) op t1 a b) fun v=>bP E true false ops rest aR (bA d v ts) H l q:=by
 rw[nI rfl rfl];simp only[cW,dH];rcases bU ts x with _|a
 rfl;rcases bU ts y with _|b
 rfl;simp only[aT];cases cp E (bC x||bC y) op t1 a b<;>rfl
def ayb{op:UnOp}{t1:Nat}{x:Operand}:bP E true false ops (⟨d,.unOp op t1 x,t,p,af,none⟩::rest) aR ts H l q=b9 (bU ts x) fun a=>b9 (T1 op a) fun v=>bP E true false ops rest aR (bA d v ts) H l q:=by
 rw[nI rfl rfl];simp only[cW,dH];rcases bU ts x with _|a
 rfl;simp only[aT];cases T1 op a<;>rfl
def ax9{t1 f:Nat}{x:Operand}:bP E true false ops (⟨d,.fieldAddr t1 x f,t,p,af,none⟩::rest) aR ts H l q=b9 (bU ts x) fun a=>b9 (cQ E t1 a f) fun v=>bP E true false ops rest aR (bA d v ts) H l q:=by
 rw[nI rfl rfl];simp only[cW,dH];rcases bU ts x with _|a
 rfl;simp only[aT];cases cQ E t1 a f<;>rfl
def aya{t1:Nat}{x y:Operand}:bP E true false ops (⟨d,.indexAddr t1 x y,t,p,af,none⟩::rest) aR ts H l q=b9 (bU ts x) fun a=>b9 (bU ts y) fun b=>b9 (cd E t1 a b) fun v=>bP E true false ops rest aR (bA d v ts) H l q:=by
 rw[nI rfl rfl];simp only[cW,dH];rcases bU ts x with _|a
 rfl;rcases bU ts y with _|b
 rfl;simp only[aT];cases cd E t1 a b<;>rfl
def Sc{i:Nat}{x:Operand}:bP E true false ops (⟨d,.extract x i,t,p,af,none⟩::rest) aR ts H l q=b9 (bU ts x) fun a=>b9 (nth a i) fun v=>bP E true false ops rest aR (bA d v ts) H l q:=by
 rw[nI rfl rfl];simp only[cW,dH];rcases bU ts x with _|a
 rfl;simp only[aT];cases a<;>try rfl
 rename_i vs;simp only[nth];cases vs[i]?<;>rfl
def ab9{t1:Nat}{ps:Array (Nat×Operand)}:bP E true false ops (⟨d,.build t1 ps,t,p,af,none⟩::rest) aR ts H l q=zq (sJ ts ps.toList) fun vs=>b9 (eN E t1 vs) fun v=>bP E true false ops rest aR (bA d v ts) H l q:=by
 rw[nI rfl rfl];simp only[cW,dH,eN];cases sJ ts ps.toList with
 |none=>cases fB E t1<;>cases (E.ty t1).bind (·.zero)<;>rfl
 |some vs=>
  cases fB E t1 with
  |none=>rfl
  |some pl=>
   cases (E.ty t1).bind (·.zero)with
   |none=>rfl
   |some z=>simp only[fM];cases fP pl z vs<;>rfl
def GL{t1 len:Nat}{ps:Array (Nat×Operand)}:bP E true false ops (⟨d,.buildSlice t1 len ps,t,p,af,none⟩::rest) aR ts H l q=(kE H[aR]?=true/\zq (sJ ts ps.toList) fun vs=>qZ (bZ E aR t1 len vs) fun r=>bP E true false ops rest (aR+1) (bA d r.1 ts) ((cF.bJ r.2).app H) l q):=by
 rw[ajk rfl rfl];congr 1;simp only[cW,dH,bZ];cases sJ ts ps.toList with
 |none=>
  cases E.ty t1 with
  |none=>rfl
  |some i=>
   obtain⟨cD,jA,jS,jB,jZ,dK⟩:=i;cases cD<;>try rfl
   rename_i e;simp only;cases E.ty e with
   |none=>rfl
   |some ei=>simp only;cases ei.zero<;>rfl
 |some vs=>
  simp only[fM];cases E.ty t1 with
  |none=>rfl
  |some i=>
   obtain⟨cD,jA,jS,jB,jZ,dK⟩:=i;cases cD<;>try rfl
   rename_i e;simp only;cases E.ty e with
   |none=>rfl
   |some ei=>
    simp only;cases ei.zero with
    |none=>rfl
    |some z=>
     simp only
     split
     ·cases fP (fun i=>some (i*ei.size,ei.size)) (gJ z len) vs<;>rfl
     ·rfl
def aqM{args:Array Operand}{ats:Array Nat}:bP E true false ops (⟨d,.call {callee:=.builtin .len,args:=args,argTypes:=ats},t,p,af,none⟩::rest) aR ts H l q=nM (kr ts args.toList) fun al=>qZ (bM E H aR .len ats.toList al) fun r=>bP E true false ops rest aR (bA d r.1 ts) ((cF.bJ r.2).app H) l q:=by
 rw[nI rfl rfl];simp only[cW,dH];cases kr ts args.toList with
 |none=>rfl
 |some al=>simp only[bR];cases bM E H aR .len ats.toList al<;>rfl
def acb{t1:Nat}{x:Operand}{lo hi:Option Operand}:bP E true false ops (⟨d,.slice t1 x lo hi none,t,p,af,none⟩::rest) aR ts H l q=b9 (bU ts x) fun a=>A7 (gq ts lo) fun b=>A7 (gq ts hi) fun c=>b9 (HT E H t1 a b c) fun v=>bP E true false ops rest aR (bA d v ts) H l q:=by
 rw[nI rfl rfl];simp only[cW,dH,HT];cases bU ts x with
 |none=>rfl
 |some a=>
  cases gq ts lo with
  |none=>rfl
  |some b=>
   cases gq ts hi with
   |none=>rfl
   |some c=>
    simp only[aT,ux];cases E.ty t1 with
    |none=>simp only;cases gg E t1 a b c<;>rfl
    |some i=>
     obtain⟨cD,jA,jS,jB,jZ,dK⟩:=i;cases cD<;>simp only<;>first|(cases gY E H t1 a b c<;>rfl)|(cases gg E t1 a b c<;>rfl)
def aqN{x:Operand}:bP E true false ops (⟨d,.nilCheck x,t,p,af,none⟩::rest) aR ts H l q=b9 (bU ts x) fun a=>b9 (Td a) fun v=>bP E true false ops rest aR (bA d v ts) H l q:=by
 rw[nI rfl rfl];simp only[cW,dH,Td];cases bU ts x with
 |none=>rfl
 |some a=>cases a<;>rfl
def Ct{s1 d1:Nat}{k0 k':IntKind}{x:Operand}(hs:gk E s1=some k0)(hd:gk E d1=some k'):bP E true false ops (⟨d,.convert s1 d1 x,t,p,af,none⟩::rest) aR ts H l q=b9 (bU ts x) fun a=>b9 (toK k' a) fun v=>bP E true false ops rest aR (bA d v ts) H l q:=by
 rw[nI rfl (FW hs hd)];simp only[cW,dH];unfold gk at hs hd;cases h1:E.ty s1 with
 |none=>rw[h1]at hs;cases hs
 |some si=>
  cases h2:E.ty d1 with
  |none=>rw[h2]at hd;cases hd
  |some di=>
   rw[h1]at hs;rw[h2]at hd;obtain⟨cD,jA,jS,jB,jZ,dK⟩:=si;obtain⟨aam,X6,ahf,Vj,ahq,af7⟩:=di;cases cD<;>first|(cases hs;done)|skip
   cases aam<;>first|(cases hd;done)|skip
   simp only[Option.some.injEq]at hd;subst hd;cases bU ts x with
   |none=>rfl
   |some v=>cases v<;>simp[Cn,h1,h2,toK,b9,Ek,nO]
def ajl{x:Operand}{args:Array Operand}{ats:Array Nat}:bP E true false ops (⟨d,.call {callee:=.value x,args:=args,argTypes:=ats},t,p,af,none⟩::rest) aR ts H l q=b9 (bU ts x) fun fv=>nM (kr ts args.toList) fun al=>L4 fv al (fun f bl=>qs E true (mS x) f bl H fun r e=>bP E true false ops rest aR (bA d r ts) (e.app H) l q) (fun l' bl=>A5 (nG E l' bl H) fun r H'=>bP E true false ops rest aR (bA d r ts) ((cF.Ep H').app H) l q):=by
 rw[nI rfl rfl];simp only[cW];cases bU ts x with
 |none=>rfl
 |some fv=>
  cases kr ts args.toList with
  |none=>cases fv<;>rfl
  |some al=>
   cases fv<;>try rfl
   ·simp only[aT,bR,zo,GH]
   ·simp only[aT,bR,wB,GI]
def amh{x:Operand}{e:cF}:bH E ts ⟨d,.move x,t,p,af,none⟩ e=([],[]):=rfl
def aaa{x:Operand}{e:cF}:bH E ts ⟨d,.assign x,t,p,af,none⟩ e=([],[]):=rfl
def ami{a b c:Operand}{e:cF}:bH E ts ⟨d,.pick a b c,t,p,af,none⟩ e=([],[]):=rfl
def avG{op:BinOp}{t1 t2:Nat}{x y:Operand}{e:cF}:bH E ts ⟨d,.binOp op t1 x y t2,t,p,af,none⟩ e=([],[]):=rfl
def aBL{op:UnOp}{t1:Nat}{x:Operand}{e:cF}:bH E ts ⟨d,.unOp op t1 x,t,p,af,none⟩ e=([],[]):=rfl
def aBJ{t1 f:Nat}{x:Operand}{e:cF}:bH E ts ⟨d,.fieldAddr t1 x f,t,p,af,none⟩ e=([],[]):=rfl
def aeW{t1 f:Nat}{x:Operand}{e:cF}:bH E ts ⟨d,.field t1 x f,t,p,af,none⟩ e=([],[]):=rfl
def aBK{t1:Nat}{x y:Operand}{e:cF}:bH E ts ⟨d,.indexAddr t1 x y,t,p,af,none⟩ e=([],[]):=rfl
def aeX{t1:Nat}{x y:Operand}{e:cF}:bH E ts ⟨d,.index t1 x y,t,p,af,none⟩ e=([],[]):=rfl
def TV{i:Nat}{x:Operand}{e:cF}:bH E ts ⟨d,.extract x i,t,p,af,none⟩ e=([],[]):=rfl
def aeV{t1:Nat}{ps:Array (Nat×Operand)}{e:cF}:bH E ts ⟨d,.build t1 ps,t,p,af,none⟩ e=([],[]):=rfl
def avL{t1:Nat}{x:Operand}{e:cF}:bH E ts ⟨d,.sliceToArrayPointer t1 x,t,p,af,none⟩ e=([],[]):=rfl
def avK{x:Operand}{e:cF}:bH E ts ⟨d,.nilCheck x,t,p,af,none⟩ e=([],[]):=rfl
def OX{f:Go.Fn}{first cap:Array Operand}{e:cF}:bH E ts ⟨d,.makeFunc f first cap,t,p,af,none⟩ e=([],[]):=rfl
def avI{args:Array Operand}{ats:Array Nat}{e:cF}:bH E ts ⟨d,.call {callee:=.builtin .max,args:=args,argTypes:=ats},t,p,af,none⟩ e=([],[]):=rfl
def avJ{args:Array Operand}{ats:Array Nat}{e:cF}:bH E ts ⟨d,.call {callee:=.builtin .min,args:=args,argTypes:=ats},t,p,af,none⟩ e=([],[]):=rfl
def amg{t1:Nat}{x:Operand}{s:List (Nat×cE)}:bH E ts ⟨d,.load t1 x,t,p,af,none⟩ (.bJ s)=(OH ts [x],s.map (·.1)):=rfl
def aac{t1:Nat}{x y:Operand}{ok:Bool}{s:List (Nat×cE)}:bH E ts ⟨d,.lookup t1 x y ok,t,p,af,none⟩ (.bJ s)=(OH ts [x,y],s.map (·.1)):=rfl
def aeY{t1:Nat}{x y:Operand}{s:List (Nat×cE)}:bH E ts ⟨d,.store t1 x y,t,p,af,none⟩ (.bJ s)=(OH ts [x,y],s.map (·.1)):=rfl
def aeU{t1:Nat}{s:List (Nat×cE)}:bH E ts ⟨d,.alloc t1,t,p,af,none⟩ (.bJ s)=(OH ts [],s.map (·.1)):=rfl
def avH{t1:Nat}{x:Operand}{s:List (Nat×cE)}:bH E ts ⟨d,.box t1 x,t,p,af,none⟩ (.bJ s)=(OH ts [x],s.map (·.1)):=rfl
def Lv{t1:Nat}{x y:Operand}{s:List (Nat×cE)}:bH E ts ⟨d,.makeSlice t1 x y,t,p,af,none⟩ (.bJ s)=(OH ts [x,y],s.map (·.1)):=rfl
def Lx{t1:Nat}{x y z:Operand}{s:List (Nat×cE)}:bH E ts ⟨d,.mapUpdate t1 x y z,t,p,af,none⟩ (.bJ s)=(OH ts [x,y,z],s.map (·.1)):=rfl
def aab{t1:Nat}{x y z:Operand}{s:List (Nat×cE)}:bH E ts ⟨d,.insert t1 x y z,t,p,af,none⟩ (.bJ s)=(OH ts [x,y,z],s.map (·.1)):=rfl
def Z9{args:Array Operand}{ats:Array Nat}{s:List (Nat×cE)}:bH E ts ⟨d,.call {callee:=.builtin .append,args:=args,argTypes:=ats},t,p,af,none⟩ (.bJ s)=(OH ts args.toList,s.map (·.1)):=by
 unfold bH;simp only[iJ,lJ,Op.operands,Call.operands,OH]
 simp
 rfl
def H8{t1 len:Nat}{ps:Array (Nat×Operand)}{s:List (Nat×cE)}:bH E ts ⟨d,.buildSlice t1 len ps,t,p,af,none⟩ (.bJ s)=(OH ts (ps.toList.map (·.2)),s.map (·.1)):=rfl
def amf{x:Operand}{args:Array Operand}{ats:Array Nat}{r:Bool}{bs:List Nat}:bH E ts ⟨d,.call {callee:=.value x,args:=args,argTypes:=ats},t,p,af,none⟩ (if r=true then cF.looks bs else cF.marks bs)=(bs,[]):=by
 have h:iJ E ⟨d,.call {callee:=.value x,args:=args,argTypes:=ats},t,p,af,none⟩=.r∨iJ E ⟨d,.call {callee:=.value x,args:=args,argTypes:=ats},t,p,af,none⟩=.w:=by
  unfold iJ;simp only;cases x with
  |func f=>
   simp only
   split<;>first|exact .inl rfl|exact .inr rfl
  |_=>exact .inr rfl
 unfold bH;rcases h with h|h<;>rw[h]<;>cases r<;>rfl
def amz{x:Operand}{g:Option (Nat×Bool)}:bW E ⟨d,.move x,t,p,af,g⟩=false:=rfl
def aaB{x:Operand}{g:Option (Nat×Bool)}:bW E ⟨d,.assign x,t,p,af,g⟩=false:=rfl
def amA{a b c:Operand}{g:Option (Nat×Bool)}:bW E ⟨d,.pick a b c,t,p,af,g⟩=false:=rfl
def av0{op:BinOp}{t1 t2:Nat}{x y:Operand}{g:Option (Nat×Bool)}:bW E ⟨d,.binOp op t1 x y t2,t,p,af,g⟩=false:=rfl
def aB7{op:UnOp}{t1:Nat}{x:Operand}{g:Option (Nat×Bool)}:bW E ⟨d,.unOp op t1 x,t,p,af,g⟩=false:=rfl
def aB5{t1 f:Nat}{x:Operand}{g:Option (Nat×Bool)}:bW E ⟨d,.fieldAddr t1 x f,t,p,af,g⟩=false:=rfl
def afs{t1 f:Nat}{x:Operand}{g:Option (Nat×Bool)}:bW E ⟨d,.field t1 x f,t,p,af,g⟩=false:=rfl
def aB6{t1:Nat}{x y:Operand}{g:Option (Nat×Bool)}:bW E ⟨d,.indexAddr t1 x y,t,p,af,g⟩=false:=rfl
def aft{t1:Nat}{x y:Operand}{g:Option (Nat×Bool)}:bW E ⟨d,.index t1 x y,t,p,af,g⟩=false:=rfl
def Ue{i:Nat}{x:Operand}{g:Option (Nat×Bool)}:bW E ⟨d,.extract x i,t,p,af,g⟩=false:=rfl
def afr{t1:Nat}{ps:Array (Nat×Operand)}{g:Option (Nat×Bool)}:bW E ⟨d,.build t1 ps,t,p,af,g⟩=false:=rfl
def av6{t1:Nat}{x:Operand}{g:Option (Nat×Bool)}:bW E ⟨d,.sliceToArrayPointer t1 x,t,p,af,g⟩=false:=rfl
def av5{x:Operand}{g:Option (Nat×Bool)}:bW E ⟨d,.nilCheck x,t,p,af,g⟩=false:=rfl
def Pk{f:Go.Fn}{first cap:Array Operand}{g:Option (Nat×Bool)}:bW E ⟨d,.makeFunc f first cap,t,p,af,g⟩=false:=rfl
def av3{args:Array Operand}{ats:Array Nat}{g:Option (Nat×Bool)}:bW E ⟨d,.call {callee:=.builtin .max,args:=args,argTypes:=ats},t,p,af,g⟩=false:=rfl
def av4{args:Array Operand}{ats:Array Nat}{g:Option (Nat×Bool)}:bW E ⟨d,.call {callee:=.builtin .min,args:=args,argTypes:=ats},t,p,af,g⟩=false:=rfl
def av2{args:Array Operand}{ats:Array Nat}{g:Option (Nat×Bool)}:bW E ⟨d,.call {callee:=.builtin .len,args:=args,argTypes:=ats},t,p,af,g⟩=false:=rfl
def amx{x:Operand}{args:Array Operand}{ats:Array Nat}{g:Option (Nat×Bool)}:bW E ⟨d,.call {callee:=.value x,args:=args,argTypes:=ats},t,p,af,g⟩=false:=rfl
def amy{t1:Nat}{x:Operand}{g:Option (Nat×Bool)}:bW E ⟨d,.load t1 x,t,p,af,g⟩=false:=rfl
def aaD{t1:Nat}{x y:Operand}{ok:Bool}{g:Option (Nat×Bool)}:bW E ⟨d,.lookup t1 x y ok,t,p,af,g⟩=false:=rfl
def afv{t1:Nat}{x y:Operand}{g:Option (Nat×Bool)}:bW E ⟨d,.store t1 x y,t,p,af,g⟩=false:=rfl
def LJ{t1:Nat}{x y z:Operand}{g:Option (Nat×Bool)}:bW E ⟨d,.mapUpdate t1 x y z,t,p,af,g⟩=false:=rfl
def aaC{t1:Nat}{x y z:Operand}{g:Option (Nat×Bool)}:bW E ⟨d,.insert t1 x y z,t,p,af,g⟩=false:=rfl
def afu{t1:Nat}{x:Operand}{lo hi mx:Option Operand}{g:Option (Nat×Bool)}:bW E ⟨d,.slice t1 x lo hi mx,t,p,af,g⟩=false:=rfl
def afq{t1:Nat}{g:Option (Nat×Bool)}:bW E ⟨d,.alloc t1,t,p,af,g⟩=true:=rfl
def av1{t1:Nat}{x:Operand}{g:Option (Nat×Bool)}:bW E ⟨d,.box t1 x,t,p,af,g⟩=true:=rfl
def LI{t1:Nat}{x y:Operand}{g:Option (Nat×Bool)}:bW E ⟨d,.makeSlice t1 x y,t,p,af,g⟩=true:=rfl
def aaA{args:Array Operand}{ats:Array Nat}{g:Option (Nat×Bool)}:bW E ⟨d,.call {callee:=.builtin .append,args:=args,argTypes:=ats},t,p,af,g⟩=true:=rfl
def Ih{t1 len:Nat}{ps:Array (Nat×Operand)}{g:Option (Nat×Bool)}:bW E ⟨d,.buildSlice t1 len ps,t,p,af,g⟩=true:=rfl
def Uf{t1:Nat}{r0:Option Operand}{g:Option (Nat×Bool)}:bW E ⟨d,.makeMap t1 r0,t,p,af,g⟩=true:=rfl
def adK:kE (some dp)=true:=rfl
def Mr:nv E []=0:=rfl
def I1{o:Oper}{l:List Oper}:nv E (o::l)=U7 (bW E o) (nv E l):=rfl
def aeu:uk 0=[]:=rfl
def aev{n:Nat}:uk (n+1)=dp::uk n:=rfl
def xg{s1 d1:Nat}{k0 k':IntKind}{x:Operand}{g:Option (Nat×Bool)}(hs:gk E s1=some k0)(hd:gk E d1=some k'):bW E ⟨d,.convert s1 d1 x,t,p,af,g⟩=false:=FW (af:=af) (p:=p) (t:=t) (d:=d) (x:=x) hs hd
end
class axl where
 q:Ex->List AV->Hp->Prop
def CvB(E:Env)(c:Code)(ts:List AV)(H:Hp) [b:axl]:Prop:=Cv E c ts H b.q
class axk where
 I:Nat->List AV->Hp->Prop
 k:Nat
def afC(ts:List AV)(H:Hp) [b:axk]:Prop:=∃k',k'<b.k/\b.I k' ts H
def V(E:Env):Code->List AV->Hp->(Ex->List AV->Hp->Prop)->Prop
 |.skip,ts,H,Q=>Q .normal ts H
 |.exit id,ts,H,Q=>Q (.exit id) ts H
 |.ret,ts,H,Q=>Q .ret ts H
 |.seq a b,ts,H,Q=>V E a ts H (sS (fun ts H=>V E b ts H Q) Q)
 |.block id a,ts,H,Q=>V E a ts H (lX id Q)
 |.cond c a b,ts,H,Q=>b9 (bU ts c) fun v=>xD v (V E a ts H Q) (V E b ts H Q)
 |.region id ops false,ts,H,Q=>bP E false false (sq ops.toList) ops.toList 0 ts H [] (fun ts H _=>Q .normal ts H)
 |.region id ops true,ts,H,Q=>om (E.pairs id ops.toList.length).isEmpty (bP E true false (sq ops.toList) ops.toList H.length ts (H++uk (nv E ops.toList)) [] (fun ts H _=>Q .normal ts H)) (bP E true true (sq ops.toList) ops.toList H.length ts (H++uk (nv E ops.toList)) [] (fun ts H l=>(E.pairs id ops.toList.length).all (rJ l.reverse)=true/\Q .normal ts H))
 |c,ts,H,Q=>Cv E c ts H Q
def V.cv{E:Env}:∀{c:Code} {ts:List AV} {H:Hp} {Q:Ex->List AV->Hp->Prop},V E c ts H Q->Cv E c ts H Q
 |.skip,_,_,_,h=>Cv.skip h
 |.exit _,_,_,_,h=>Cv.exit h
 |.ret,_,_,_,h=>Cv.ret h
 |.seq a b,ts,H,Q,h=>by
  refine Cv.seq ?_
  have:=V.cv (c:=a) h
  refine this.mono ?_;intro ex ts' H' k;cases ex with
  |normal=>exact V.cv (c:=b) k
  |ret=>exact k
  |exit id=>exact k
 |.block id a,ts,H,Q,h=>by
  refine Cv.block ?_;refine(V.cv (c:=a) h).mono ?_;intro ex ts' H' k;cases ex<;>exact k
 |.cond c a b,ts,H,Q,h=>by
  unfold V at h;cases hc:bU ts c with
  |none=>rw[hc]at h;exact h.elim
  |some v=>
   rw[hc,aT]at h;cases v<;>try exact h.elim
   rename_i z;refine Cv.cond hc ?_;rw[dE]at h;cases z
   ·simp only[aLT,if_false]at h⊢;exact V.cv h
   ·simp only[if_true]at h⊢;exact V.cv h
 |.region id ops false,_,_,_,h=>Cv.aBw h
 |.region id ops true,ts,H,Q,h=>by
  unfold V at h;cases hp:(E.pairs id ops.toList.length).isEmpty with
  |true=>rw[hp,gD]at h;exact Cv.avz (List.isEmpty_iff.1 hp) h
  |false=>rw[hp,eI]at h;exact Cv.avy h
 |.loop _,_,_,_,h=>h
 |.label _,_,_,_,h=>h
 |.scope _,_,_,_,h=>h
 |.rangeFunc ..,_,_,_,h=>h
 |.goto _,_,_,_,h=>h
 |.refuse _,_,_,_,h=>h
section
variable{E:Env}{ts:List AV}{H:Hp}{Q:Ex->List AV->Hp->Prop}
@[congr] theorem awi {c:Code} {ts ts':List AV} {H H':Hp} (h1:ts=ts') (h2:H=H'):V E c ts H Q=V E c ts' H' Q:=by rw[h1,h2]
end
def sQ(I:Nat->List AV->Hp->Prop)(k:Nat)(Q:Ex->List AV->Hp->Prop)(ex:Ex)(ts:List AV)(H:Hp):Prop:=match ex with
 |.normal=>∃k',k'<k/\I k' ts H
 |e=>Q e ts H
@[congr] theorem afB {I:Nat->List AV->Hp->Prop} {k:Nat} {Q:Ex->List AV->Hp->Prop} {ex ex':Ex} {ts ts':List AV} {H H':Hp} (h:ex=ex') (h1:ts=ts') (h2:H=H'):sQ I k Q ex ts H=sQ I k Q ex' ts' H':=by rw[h,h1,h2]
def gG{I:Nat->List AV->Hp->Prop}{k:Nat}{Q:Ex->List AV->Hp->Prop}{ts:List AV}{H:Hp}:sQ I k Q .normal ts H=∃k',k'<k/\I k' ts H:=rfl
def gF{I:Nat->List AV->Hp->Prop}{k id:Nat}{Q:Ex->List AV->Hp->Prop}{ts:List AV}{H:Hp}:sQ I k Q (.exit id) ts H=Q (.exit id) ts H:=rfl
def FY{E:Env}{body:Code}{Q:Ex->List AV->Hp->Prop}(I:Nat->List AV->Hp->Prop)(k:Nat)(yo:∀k ts H,I k ts H->W E body ts H (sQ I k Q)){ts:List AV}{H:Hp}(h:I k ts H):Cv E (.loop body) ts H Q:=by
 refine Cv.loop I ?_ k ts H h;intro k ts H hi;refine(W.cv (yo k ts H hi)).mono ?_;intro ex ts' H' q;cases ex<;>exact q
def cC{E:Env}{body:Code}{Q:Ex->List AV->Hp->Prop}(I:Nat->List AV->Hp->Prop)(k:Nat)(yo:∀k ts H,I k ts H->V E body ts H (sQ I k Q)){ts:List AV}{H:Hp}(h:I k ts H):@CvB E (.loop body) ts H ⟨Q⟩:=by
 show Cv E (.loop body) ts H Q
 refine Cv.loop I ?_ k ts H h;intro k ts H hi;refine(V.cv (yo k ts H hi)).mono ?_;intro ex ts' H' q;cases ex<;>exact q
def bI{I:Nat->List AV->Hp->Prop}{k:Nat}{ts:List AV}{H:Hp}(h:∃k',k'<k/\I k' ts H):@afC ts H ⟨I,k⟩:=h
def Un(E:Env)(body:Code):Nat->List AV->Hp->(Ex->List AV->Hp->Prop)->Prop
 |0,_,_,_=>False
 |n+1,ts,H,Q=>V E body ts H (sS (fun ts H=>Un E body n ts H Q) Q)
@[congr] theorem anM {E:Env} {body:Code} {n:Nat} {ts ts':List AV} {H H':Hp} {Q:Ex->List AV->Hp->Prop} (h1:ts=ts') (h2:H=H'):Un E body n ts H Q=Un E body n ts' H' Q:=by rw[h1,h2]
def RB{E:Env}{body:Code}{Q:Ex->List AV->Hp->Prop}:∀(n:Nat) {ts:List AV} {H:Hp},Un E body n ts H Q->Cv E (.loop body) ts H Q
 |0,_,_,h=>h.elim
 |n+1,ts,H,h=>by
  refine Cv.round ?_;refine(V.cv h).mono ?_;intro ex ts' H' k;cases ex with
  |normal=>exact RB n k
  |ret=>exact k
  |exit id=>exact k
def rS{E:Env}{body:Code}{Q:Ex->List AV->Hp->Prop}(n:Nat){ts:List AV}{H:Hp}(h:Un E body n ts H Q):@CvB E (.loop body) ts H ⟨Q⟩:=RB n h
def CL{E:Env}{f:Nat}{code:Code}{nt:Nat}{results:List ResultVar}{pu du:Bool}{args:List AV}{G:AV->Prop}(kh:E.ov f args=none)(fC:E.fn f=some {code:=code,ntmps:=nt,results:=results,pure:=pu,eD:=du})(hp:pu=true)
  (h:V E code (args++List.replicate (nt-args.length) bT) [] (lZ E results G)):∃r,aP E f args=some r/\G r:=by
 have:∃r,kC E f args r/\G r:=by
  refine Ch kh fC hp ((V.cv h).mono ?_);intro ex ts H k;cases ex with
  |exit id=>exact k.elim
  |normal=>
   rw[UU]at k;refine⟨fun id h=>(by cases h),?_⟩;show∃rs r bs,fL H E ts results=some rs/\_
   cases h1:fL H E ts results with
   |none=>rw[h1]at k;exact k.elim
   |some rs=>
    rw[h1,bR]at k;cases h2:bX H [gV rs]with
    |none=>rw[h2]at k;exact k.elim
    |some y=>
     obtain⟨rl,bs⟩:=y;rw[h2,dd]at k;obtain⟨r,rfl,g⟩:=k;exact⟨rs,r,bs,rfl,h2,g⟩
  |ret=>
   rw[jf]at k;refine⟨fun id h=>(by cases h),?_⟩;show∃rs r bs,fL H E ts results=some rs/\_
   cases h1:fL H E ts results with
   |none=>rw[h1]at k;exact k.elim
   |some rs=>
    rw[h1,bR]at k;cases h2:bX H [gV rs]with
    |none=>rw[h2]at k;exact k.elim
    |some y=>
     obtain⟨rl,bs⟩:=y;rw[h2,dd]at k;obtain⟨r,rfl,g⟩:=k;exact⟨rs,r,bs,rfl,h2,g⟩
 obtain⟨r,h1,h2⟩:=this;exact⟨r,dB h1,h2⟩
def o6(E:Env)(results:List ResultVar)(G:AV->Hp->Prop)(ex:Ex)(ts:List AV)(H:Hp):Prop:=match ex with
 |.exit _=>False
 |_=>nM (fL H E ts results) fun rs=>G (gV rs) H
def UT{E:Env}{results:List ResultVar}{G:AV->Hp->Prop}{ts:List AV}{H:Hp}:o6 E results G .ret ts H=nM (fL H E ts results) fun rs=>G (gV rs) H:=rfl
def US{E:Env}{results:List ResultVar}{G:AV->Hp->Prop}{ts:List AV}{H:Hp}:o6 E results G .normal ts H=nM (fL H E ts results) fun rs=>G (gV rs) H:=rfl
@[congr] theorem ahv {E:Env} {results:List ResultVar} {G:AV->Hp->Prop} {ex:Ex} {ts ts':List AV} {H H':Hp} (h1:ts=ts') (h2:H=H'):o6 E results G ex ts H=o6 E results G ex ts' H':=by rw[h1,h2]
def CD{E:Env}{f:Nat}{code:Code}{nt:Nat}{results:List ResultVar}{pu du:Bool}{args:List AV}{H:Hp}{G:AV->Hp->Prop}(kh:E.rH f args H=none)(fC:E.fn f=some {code:=code,ntmps:=nt,results:=results,pure:=pu,eD:=du})
  (h:V E code (args++List.replicate (nt-args.length) bT) H (o6 E results G)):∃r H',cV E f args H=some (r,H')/\G r H':=by
 obtain⟨n,ex,ts,H',h1,h2⟩:=V.cv h;have key:∃rs,fL H' E ts results=some rs/\G (gV rs) H'/\∀id,ex≠ .exit id:=by
  cases ex with
  |exit id=>exact h2.elim
  |normal=>
   rw[US]at h2;cases h3:fL H' E ts results with
   |none=>rw[h3]at h2;exact h2.elim
   |some rs=>rw[h3,bR]at h2;exact⟨rs,rfl,h2,fun id h=>(by cases h)⟩
  |ret=>
   rw[UT]at h2;cases h3:fL H' E ts results with
   |none=>rw[h3]at h2;exact h2.elim
   |some rs=>rw[h3,bR]at h2;exact⟨rs,rfl,h2,fun id h=>(by cases h)⟩
 obtain⟨rs,h3,h4,h5⟩:=key;refine⟨gV rs,H',zB ⟨n,?_⟩,h4⟩;unfold kQ oI;simp only[kh,fC,h1];cases ex with
 |exit id=>exact absurd rfl (h5 id)
 |normal=>simp only[h3,aMi]
 |ret=>simp only[h3,aMi]
section
variable{E:Env}{f:Nat}{code:Code}{nt:Nat}{results:List ResultVar}{pu du:Bool}{a b c e:AV}{G:AV->Prop}
def fv0(kh:E.ov f []=none)(fC:E.fn f=some {code:=code,ntmps:=nt,results:=results,pure:=pu,eD:=du})(hp:pu=true)
  (h:∀ts:List AV,ts.length=nt->V E code ts [] (lZ E results G)):∃r,aP E f []=some r/\G r:=
 CL kh fC hp (h _ (by simp))
def fv1(kh:E.ov f [a]=none)(fC:E.fn f=some {code:=code,ntmps:=nt,results:=results,pure:=pu,eD:=du})(hp:pu=true)(hn:1<=nt)
  (h:∀ts:List AV,ts.length=nt->gt ts 0=a->V E code ts [] (lZ E results G)):∃r,aP E f [a]=some r/\G r:=
 CL kh fC hp (h _ (by simp;omega) rfl)
def fv2(kh:E.ov f [a,b]=none)(fC:E.fn f=some {code:=code,ntmps:=nt,results:=results,pure:=pu,eD:=du})(hp:pu=true)(hn:2<=nt)
  (h:∀ts:List AV,ts.length=nt->gt ts 0=a->gt ts 1=b->V E code ts [] (lZ E results G)):∃r,aP E f [a,b]=some r/\G r:=
 CL kh fC hp (h _ (by simp;omega) rfl rfl)
def fv3(kh:E.ov f [a,b,c]=none)(fC:E.fn f=some {code:=code,ntmps:=nt,results:=results,pure:=pu,eD:=du})(hp:pu=true)(hn:3<=nt)
  (h:∀ts:List AV,ts.length=nt->gt ts 0=a->gt ts 1=b->gt ts 2=c->V E code ts [] (lZ E results G)):∃r,aP E f [a,b,c]=some r/\G r:=
 CL kh fC hp (h _ (by simp;omega) rfl rfl rfl)
def fv4(kh:E.ov f [a,b,c,e]=none)(fC:E.fn f=some {code:=code,ntmps:=nt,results:=results,pure:=pu,eD:=du})(hp:pu=true)(hn:4<=nt)
  (h:∀ts:List AV,ts.length=nt->gt ts 0=a->gt ts 1=b->gt ts 2=c->gt ts 3=e->V E code ts [] (lZ E results G)):∃r,aP E f [a,b,c,e]=some r/\G r:=
 CL kh fC hp (h _ (by simp;omega) rfl rfl rfl rfl)
end
section
variable{E:Env}{f:Nat}{code:Code}{nt:Nat}{results:List ResultVar}{pu du:Bool}{a b c e:AV}{H:Hp}{G:AV->Hp->Prop}
def fi1(kh:E.rH f [a] H=none)(fC:E.fn f=some {code:=code,ntmps:=nt,results:=results,pure:=pu,eD:=du})(hn:1<=nt)
  (h:∀ts:List AV,ts.length=nt->gt ts 0=a->V E code ts H (o6 E results G)):∃r H',cV E f [a] H=some (r,H')/\G r H':=
 CD kh fC (h _ (by simp;omega) rfl)
def fi2(kh:E.rH f [a,b] H=none)(fC:E.fn f=some {code:=code,ntmps:=nt,results:=results,pure:=pu,eD:=du})(hn:2<=nt)
  (h:∀ts:List AV,ts.length=nt->gt ts 0=a->gt ts 1=b->V E code ts H (o6 E results G)):∃r H',cV E f [a,b] H=some (r,H')/\G r H':=
 CD kh fC (h _ (by simp;omega) rfl rfl)
def fi4(kh:E.rH f [a,b,c,e] H=none)(fC:E.fn f=some {code:=code,ntmps:=nt,results:=results,pure:=pu,eD:=du})(hn:4<=nt)
  (h:∀ts:List AV,ts.length=nt->gt ts 0=a->gt ts 1=b->gt ts 2=c->gt ts 3=e->V E code ts H (o6 E results G)):∃r H',cV E f [a,b,c,e] H=some (r,H')/\G r H':=
 CD kh fC (h _ (by simp;omega) rfl rfl rfl rfl)
end
def S(b:List AV):List (Nat×AV)->List AV
 |[]=>b
 |(i,v)::l=>(S b l).set i v
def bc{b:List AV}:∀{l:List (Nat×AV)},(S b l).length=b.length
 |[]=>rfl
 |(i,v)::l=>by rw[S,aQx,bc]
def Qh{b:List AV}{j:Nat}:gt (S b []) j=gt b j:=rfl
def Qg{b:List AV}{l:List (Nat×AV)}{i:Nat}{v:AV}(h:i<b.length):gt (S b ((i,v)::l)) i=v:=aN (by rw[bc];exact h)
def Ji{b:List AV}{l:List (Nat×AV)}{i j:Nat}{v:AV}(h:i≠j):gt (S b ((i,v)::l)) j=gt (S b l) j:=aZ h
def aA6{b:List AV}{l:List (Nat×AV)}{d:Nat}{v:AV}:bA (some d) v (S b l)=S b ((d,v)::l):=by cases l<;>rfl
def VS{E:Env}{c:Code}{ts:List AV}{H:Hp}{Q:Ex->List AV->Hp->Prop}(h:V E c (S ts []) H Q):V E c ts H Q:=h
section
variable{E:Env}{f:Nat}{code:Code}{nt:Nat}{results:List ResultVar}{pu du:Bool}{a b c e:AV}{G:AV->Prop}
def gv0(kh:E.ov f []=none)(fC:E.fn f=some {code:=code,ntmps:=nt,results:=results,pure:=pu,eD:=du})(hp:pu=true)
  (h:∀ts:List AV,ts.length=nt->V E code (S ts []) [] (lZ E results G)):∃r,aP E f []=some r/\G r:=fv0 kh fC hp h
def gv1(kh:E.ov f [a]=none)(fC:E.fn f=some {code:=code,ntmps:=nt,results:=results,pure:=pu,eD:=du})(hp:pu=true)(hn:1<=nt)
  (h:∀ts:List AV,ts.length=nt->gt ts 0=a->V E code (S ts []) [] (lZ E results G)):∃r,aP E f [a]=some r/\G r:=fv1 kh fC hp hn h
def gv2(kh:E.ov f [a,b]=none)(fC:E.fn f=some {code:=code,ntmps:=nt,results:=results,pure:=pu,eD:=du})(hp:pu=true)(hn:2<=nt)
  (h:∀ts:List AV,ts.length=nt->gt ts 0=a->gt ts 1=b->V E code (S ts []) [] (lZ E results G)):∃r,aP E f [a,b]=some r/\G r:=fv2 kh fC hp hn h
def gv3(kh:E.ov f [a,b,c]=none)(fC:E.fn f=some {code:=code,ntmps:=nt,results:=results,pure:=pu,eD:=du})(hp:pu=true)(hn:3<=nt)
  (h:∀ts:List AV,ts.length=nt->gt ts 0=a->gt ts 1=b->gt ts 2=c->V E code (S ts []) [] (lZ E results G)):∃r,aP E f [a,b,c]=some r/\G r:=fv3 kh fC hp hn h
def gv4(kh:E.ov f [a,b,c,e]=none)(fC:E.fn f=some {code:=code,ntmps:=nt,results:=results,pure:=pu,eD:=du})(hp:pu=true)(hn:4<=nt)
  (h:∀ts:List AV,ts.length=nt->gt ts 0=a->gt ts 1=b->gt ts 2=c->gt ts 3=e->V E code (S ts []) [] (lZ E results G)):∃r,aP E f [a,b,c,e]=some r/\G r:=fv4 kh fC hp hn h
end
section
variable{E:Env}{f:Nat}{code:Code}{nt:Nat}{results:List ResultVar}{pu du:Bool}{a b c e:AV}{H:Hp}{G:AV->Hp->Prop}
def gi1(kh:E.rH f [a] H=none)(fC:E.fn f=some {code:=code,ntmps:=nt,results:=results,pure:=pu,eD:=du})(hn:1<=nt)
  (h:∀ts:List AV,ts.length=nt->gt ts 0=a->V E code (S ts []) H (o6 E results G)):∃r H',cV E f [a] H=some (r,H')/\G r H':=fi1 kh fC hn h
def gi2(kh:E.rH f [a,b] H=none)(fC:E.fn f=some {code:=code,ntmps:=nt,results:=results,pure:=pu,eD:=du})(hn:2<=nt)
  (h:∀ts:List AV,ts.length=nt->gt ts 0=a->gt ts 1=b->V E code (S ts []) H (o6 E results G)):∃r H',cV E f [a,b] H=some (r,H')/\G r H':=fi2 kh fC hn h
def gi4(kh:E.rH f [a,b,c,e] H=none)(fC:E.fn f=some {code:=code,ntmps:=nt,results:=results,pure:=pu,eD:=du})(hn:4<=nt)
  (h:∀ts:List AV,ts.length=nt->gt ts 0=a->gt ts 1=b->gt ts 2=c->gt ts 3=e->V E code (S ts []) H (o6 E results G)):∃r H',cV E f [a,b,c,e] H=some (r,H')/\G r H':=fi4 kh fC hn h
end
section
variable{E:Env}{ts:List AV}{H:Hp}{Q:Ex->List AV->Hp->Prop}{k:List AV->Hp->Prop}{id:Nat}{a b:Code}
def afo:V E .skip ts H Q=Q .normal ts H:=propext Iff.rfl
def afm:V E (.exit id) ts H Q=Q (.exit id) ts H:=propext Iff.rfl
def amu:V E .ret ts H Q=Q .ret ts H:=propext Iff.rfl
def amv:V E (.seq a b) ts H Q=V E a ts H (sS (fun ts H=>V E b ts H Q) Q):=propext Iff.rfl
def aaz:V E (.block id a) ts H Q=V E a ts H (lX id Q):=propext Iff.rfl
def afl{c:Operand}:V E (.cond c a b) ts H Q=b9 (bU ts c) fun v=>xD v (V E a ts H Q) (V E b ts H Q):=propext Iff.rfl
def Ud{ops:Array Oper}:V E (.region id ops false) ts H Q=bP E false false (sq ops.toList) ops.toList 0 ts H [] (fun ts H _=>Q .normal ts H):=propext Iff.rfl
def Pj{ops:Array Oper}:V E (.region id ops true) ts H Q=om (E.pairs id ops.toList.length).isEmpty (bP E true false (sq ops.toList) ops.toList H.length ts (H++uk (nv E ops.toList)) [] (fun ts H _=>Q .normal ts H)) (bP E true true (sq ops.toList) ops.toList H.length ts (H++uk (nv E ops.toList)) [] (fun ts H l=>(E.pairs id ops.toList.length).all (rJ l.reverse)=true/\Q .normal ts H)):=propext Iff.rfl
def afn:V E (.loop b) ts H Q=@CvB E (.loop b) ts H ⟨Q⟩:=propext Iff.rfl
def afj:sS k Q .normal ts H=k ts H:=propext Iff.rfl
def afk:sS k Q .ret ts H=Q .ret ts H:=propext Iff.rfl
def afi:sS k Q (.exit id) ts H=Q (.exit id) ts H:=propext Iff.rfl
def Ub:lX id Q .normal ts H=Q .normal ts H:=propext Iff.rfl
def Uc:lX id Q .ret ts H=Q .ret ts H:=propext Iff.rfl
def Ua{j:Nat}:lX id Q (.exit j) ts H=if j=id then Q .normal ts H else Q (.exit j) ts H:=propext Iff.rfl
def aaw{I:Nat->List AV->Hp->Prop}{k:Nat}:sQ I k Q .normal ts H=@afC ts H ⟨I,k⟩:=propext Iff.rfl
def aay{I:Nat->List AV->Hp->Prop}{k:Nat}:sQ I k Q .ret ts H=Q .ret ts H:=propext Iff.rfl
def aax{I:Nat->List AV->Hp->Prop}{k:Nat}:sQ I k Q (.exit id) ts H=Q (.exit id) ts H:=propext Iff.rfl
def avZ{n:Nat}:Un E b (n+1) ts H Q=V E b ts H (sS (fun ts H=>Un E b n ts H Q) Q):=propext Iff.rfl
def afh{results:List ResultVar}{G:AV->Prop}:lZ E results G .ret ts H=nM (fL H E ts results) fun rs=>xH (bX H [gV rs]) fun rl bs=>∃r,rl=[r]/\G r:=propext Iff.rfl
def afg{results:List ResultVar}{G:AV->Hp->Prop}:o6 E results G .ret ts H=nM (fL H E ts results) fun rs=>G (gV rs) H:=propext Iff.rfl
def aff{results:List ResultVar}{G:AV->Hp->Prop}:o6 E results G .normal ts H=nM (fL H E ts results) fun rs=>G (gV rs) H:=propext Iff.rfl
def afp{dr tr:Bool}{ops:List (Option Nat)}{aR:Nat}{l:List UZ}{q:List AV->Hp->List UZ->Prop}:bP E dr tr ops [] aR ts H l q=q ts H l:=propext Iff.rfl
end
class KB(α:Type) where
 k:α->Prop
class KB2(α β:Type) where
 k:α->β->Prop
class KBD where
 k:Nat->List AV->Prop
 y:Nat->List AV->Prop
class TwB where
 a:Prop
 b:Prop
def afI(x:Option AV) [b:KB AV]:Prop:=b9 x b.k
def afJ(x:Option (AV×List (Nat×cE))) [b:KB (AV×List (Nat×cE))]:Prop:=qZ x b.k
def afH(x:Option (List (Nat×cE))) [b:KB (List (Nat×cE))]:Prop:=A6 x b.k
def afE(x:Option (List AV)) [b:KB (List AV)]:Prop:=nM x b.k
def afL(x:Option (List (Nat×AV))) [b:KB (List (Nat×AV))]:Prop:=zq x b.k
def afF(x:Option (List AV×List Nat)) [b:KB2 (List AV) (List Nat)]:Prop:=xH x b.k
def afK(x:Option (Option AV)) [b:KB (Option AV)]:Prop:=A7 x b.k
def afG(x:Option (AV×Hp)) [b:KB2 AV Hp]:Prop:=A5 x b.k
def UY(fv:AV)(al:List AV) [b:KBD]:Prop:=L4 fv al b.k b.y
def UX(c:Bool) [b:TwB]:Prop:=om c b.a b.b
def UM(v:AV) [b:TwB]:Prop:=xD v b.a b.b
def auS{x:Option AV}{k:AV->Prop}:b9 x k=@afI x ⟨k⟩:=propext Iff.rfl
def auT{x:Option (AV×List (Nat×cE))}{k:AV×List (Nat×cE)->Prop}:qZ x k=@afJ x ⟨k⟩:=propext Iff.rfl
def auR{x:Option (List (Nat×cE))}{k:List (Nat×cE)->Prop}:A6 x k=@afH x ⟨k⟩:=propext Iff.rfl
def auN{x:Option (List AV)}{k:List AV->Prop}:nM x k=@afE x ⟨k⟩:=propext Iff.rfl
def auV{x:Option (List (Nat×AV))}{k:List (Nat×AV)->Prop}:zq x k=@afL x ⟨k⟩:=propext Iff.rfl
def auP{x:Option (List AV×List Nat)}{k:List AV->List Nat->Prop}:xH x k=@afF x ⟨k⟩:=propext Iff.rfl
def auU{x:Option (Option AV)}{k:Option AV->Prop}:A7 x k=@afK x ⟨k⟩:=propext Iff.rfl
def auQ{x:Option (AV×Hp)}{k:AV->Hp->Prop}:A5 x k=@afG x ⟨k⟩:=propext Iff.rfl
def auO{x:AV}{al:List AV}{k y:Nat->List AV->Prop}:L4 x al k y=@UY x al ⟨k,y⟩:=propext Iff.rfl
def Zc{c:Bool}{a b:Prop}:om c a b=@UX c ⟨a,b⟩:=propext Iff.rfl
def Zb{v:AV}{a b:Prop}:xD v a b=@UM v ⟨a,b⟩:=propext Iff.rfl
def awd{v:AV}{k:AV->Prop}:@afI (some v) ⟨k⟩=k v:=propext Iff.rfl
def awe{v:AV×List (Nat×cE)}{k:AV×List (Nat×cE)->Prop}:@afJ (some v) ⟨k⟩=k v:=propext Iff.rfl
def awc{v:List (Nat×cE)}{k:List (Nat×cE)->Prop}:@afH (some v) ⟨k⟩=k v:=propext Iff.rfl
def av8{l:List AV}{k:List AV->Prop}:@afE (some l) ⟨k⟩=k l:=propext Iff.rfl
def awg{l:List (Nat×AV)}{k:List (Nat×AV)->Prop}:@afL (some l) ⟨k⟩=k l:=propext Iff.rfl
def awa{v:List AV}{e:List Nat}{k:List AV->List Nat->Prop}:@afF (some (v,e)) ⟨k⟩=k v e:=propext Iff.rfl
def awb{v:AV}{e:Hp}{k:AV->Hp->Prop}:@afG (some (v,e)) ⟨k⟩=k v e:=propext Iff.rfl
def awf{v:Option AV}{k:Option AV->Prop}:@afK (some v) ⟨k⟩=k v:=propext Iff.rfl
def av9{f:Nat}{a c al:List AV}{k y:Nat->List AV->Prop}:@UY (.func f a c) al ⟨k,y⟩=k f (a++al++c):=propext Iff.rfl
def amE{l:Nat}{al:List AV}{k y:Nat->List AV->Prop}:@UY (.yield l) al ⟨k,y⟩=y l al:=propext Iff.rfl
def afw{a b:Prop}:@UX true ⟨a,b⟩=a:=by rw[<-Zc,gD]
def aaF{a b:Prop}:@UX false ⟨a,b⟩=b:=by rw[<-Zc,eI]
def afy{a b:Prop}:@UM (.bool true) ⟨a,b⟩=a:=by rw[<-Zb,dE,if_pos rfl]
def afx{a b:Prop}:@UM (.bool false) ⟨a,b⟩=b:=by rw[<-Zb,dE,if_neg (by decide)]
def zaB{b:Bool}:Fa (.bool b)=some b:=rfl
def zaU:Fa bT=none:=rfl
def zsn{b:Bool}:((none:Option Bool)==some b)=false:=by cases b<;>decide
def aB9:(some false==some true)=false:=by decide
def aCa:(some true==some false)=false:=by decide
end Dv
namespace Dv
open Go
def dJ{a b c d:Prop}(h1:a)(h2:b)(h3:c)(h4:d):(a/\b)/\c/\d:=⟨⟨h1,h2⟩,h3,h4⟩
@[reducible] def dQ (f:Func):Code:=match f.body with|some c=>c|none=>.skip
abbrev fI(c:Code)(n:Nat)(r:List ResultVar):Option FnI:=some {code:=c,ntmps:=n,results:=r,pure:=true,eD:=false}
abbrev fJ(c:Code)(n:Nat)(r:List ResultVar)(d:Bool):Option FnI:=some {code:=c,ntmps:=n,results:=r,pure:=false,eD:=d}
def bj{p:Prop} [Decidable p](h:p:=by omega):decide p=true:=decide_eq_true h
def bh{p:Prop} [Decidable p](h:¬p):decide p=false:=decide_eq_false h
def cI{a b:Prop}(k:b)(h:a:=by first|trivial|rfl|(congr 1;omega)|(simp;done)|(simp;omega)):a/\b:=⟨h,k⟩
def shB{a b:Prop}(k:b)(h:a:=by first|trivial|omega|(simp;done)):a/\b:=⟨h,k⟩
def rN{o:Option AV}{v:AV}(h:∃u,o=some u/\u=v):o=some v:=by obtain⟨u,h1,rfl⟩:=h;exact h1
end Dv
namespace Dv
open Go Dv
def aL:=dJ (dJ (dJ @afo (And.intro @afm @amu) @amv (And.intro @aaz @afl)) (dJ @Ud (And.intro @Pj @afn) (And.intro @afj @afk) (And.intro @afi @Ub)) (dJ @Uc (And.intro @Ua @Zb) @afy (And.intro @afx @afh)) (dJ @afg (And.intro @aff @aay) (And.intro @aax @afp) (And.intro @ad3 @ab3))) (dJ (dJ @S9 (And.intro @Wk @als) @Y3 (And.intro @alu @ad1)) (dJ @auI (And.intro @alr @ad6) (And.intro @auH @aAP) (And.intro @aAN @aAO)) (dJ @ad4 (And.intro @Y4 @KF) (And.intro @KE @Ta) (And.intro @ad2 @Hu)) (dJ @ad5 (And.intro @auJ @Oh) (And.intro @Tb @alq) (And.intro @ajh @Wl))) (dJ (dJ @aji (And.intro @ab1 @ajg) @ab5 (And.intro @aqH @ax7)) (dJ @ax8 (And.intro @Sa @ab2) (And.intro @GK @ab4) (And.intro @ajf @auS)) (dJ @awd (And.intro @auT @awe) @auR (And.intro @awc @Zc)) (dJ @afw (And.intro @aaF @auN) (And.intro @av8 @auV) (And.intro @awg @auP))) (dJ (dJ @awa (And.intro @auU @awf) @auQ (And.intro @awb @auO)) (dJ @av9 (And.intro @amE @ajn) (And.intro @Ww @ajo) (And.intro @ajm @acd)) (dJ @aqL (And.intro @ayb @ax9) (And.intro @aya @Sc) (And.intro @ab9 @GL)) (dJ @acb (And.intro @aqN @ajl) (And.intro @aca @aqM) (And.intro @aaw @avZ)))
def jg:=dJ (dJ (dJ (And.intro @aLT (And.intro @if_true.{1} @if_false.{1})) (And.intro @ne_eq.{1} (And.intro @not_false_eq_true @List.map_cons.{0,0})) (And.intro @aMi.{0,0} (And.intro @List.length_cons.{0} @List.length_nil.{0})) (And.intro @List.drop_zero.{0} (And.intro @Bool.not_false @Bool.not_true))) (dJ (And.intro @List.map_nil.{0,0} (And.intro @Nat.add_zero @List.all_cons.{0})) (And.intro @Option.bind_some.{0,0} (And.intro @Bool.false_or @true_and)) (And.intro @List.nil_append.{0} (And.intro @List.append_nil.{0} @aOn)) (dJ @Bool.and_self @Bool.true_and @Nat.zero_add @List.getElem?_cons_zero.{0})) (dJ (And.intro @beq_self_eq_true.{0} (And.intro @Bool.and_false @and_self)) (And.intro @Int.toNat_natCast (And.intro @List.getElem?_cons_succ.{0} @and_true)) (And.intro @lA (And.intro @List.all_nil.{0} @List.toList_toArray.{0})) (dJ @aN @aZ @aQx.{0} @kL)) (dJ (And.intro @l8 (And.intro @zx @Mb)) (And.intro @fZ (And.intro @OZ @Md)) (And.intro @ah4 (And.intro @zw @Mc)) (dJ @List.cons_append.{0} @List.reverse_cons.{0} @List.reverse_nil.{0} @aQ))) (dJ (dJ (And.intro @jx (And.intro @gK @rO)) (And.intro @jN (And.intro @tY @auX)) (And.intro @dh (And.intro @Cy @qB)) (dJ @dO @gA @CB @CA)) (dJ (And.intro @cG (And.intro @kM @Rd)) (And.intro @Rc (And.intro @fF @mH)) (And.intro @Bool.and_true (And.intro @nO @uA)) (dJ @sY @Bool.or_false @Bool.or_self @Bool.or_true)) (dJ (And.intro @List.take_succ_cons.{0} (And.intro @List.take_zero.{0} @List.drop_succ_cons.{0})) (And.intro @List.drop_nil.{0} (And.intro @Nat.le_refl @decide_true)) (And.intro @List.take_nil.{0} (And.intro @gh @List.modify_succ_cons.{0})) (dJ @List.modify_zero_cons.{0} @bc @Qh @Qg)) (dJ (And.intro @Ji (And.intro @amh @aaa)) (And.intro @ami (And.intro @avG @aBL)) (And.intro @aBJ (And.intro @aeW @aBK)) (dJ @aeX @TV @aeV @avL))) (dJ (dJ (And.intro @avK (And.intro @OX @avI)) (And.intro @avJ (And.intro @amg @aac)) (And.intro @aeY (And.intro @aeU @avH)) (And.intro @Lv (And.intro @Lx @aab))) (dJ (And.intro @Z9 (And.intro @H8 @amf)) (And.intro @amz (And.intro @aaB @amA)) (And.intro @av0 (And.intro @aB7 @aB5)) (dJ @afs @aB6 @aft @Ue)) (dJ (And.intro @afr (And.intro @av6 @av5)) (And.intro @Pk (And.intro @av3 @av4)) (And.intro @av2 (And.intro @amx @amy)) (dJ @aaD @afv @LJ @aaC)) (dJ (And.intro @afu (And.intro @afq @av1)) (And.intro @LI (And.intro @aaA @Ih)) (And.intro @Uf (And.intro @adK @Mr)) (dJ @I1 @aeu @aev @aeM))) (dJ (dJ (And.intro @ZV (And.intro @ZU @aeD)) (And.intro @ZP (And.intro @ZO @WB)) (And.intro @MD (And.intro @ME @Od)) (dJ @Tg @abm @zaB @zaU)) (dJ (And.intro @zsn (And.intro @aB9 @aCa)) (And.intro @ae1 (And.intro @Int.natCast_nonneg @Nat.mul_one)) (And.intro @Int.cast_ofNat_Int (And.intro @decide_false @ahT)) (dJ @ahS @List.isEmpty_nil.{0} @List.isEmpty_cons.{0} @aA6)) (dJ (And.intro @id_eq.{1} (And.intro @List.contains_cons.{0} @List.contains_nil.{0})) (And.intro @auY (And.intro @dQ.eq_1 @aU.eq_1)) (And.intro @aU.eq_2 (And.intro @aU.eq_3 @aU.eq_4)) (dJ @aU.eq_5 @aU.eq_6 @aU.eq_7 @aU.eq_8)) (dJ (And.intro @aU.eq_9 (And.intro @aV.eq_1 @aV.eq_2)) (And.intro @bC.eq_1 (And.intro @bC.eq_2 @mS.eq_1)) (And.intro @mS.eq_2 (And.intro @rJ.eq_1 @wC.eq_1)) (dJ @qc.eq_1 @My.eq_1 @sq.eq_1 @sq.eq_2)))
def aY:=dJ (And.intro @Qh @Qg) (And.intro @Ji @bc) (And.intro @aN @aZ) (And.intro @aQx.{0} (And.intro @ne_eq.{1} @not_false_eq_true))
end Dv
