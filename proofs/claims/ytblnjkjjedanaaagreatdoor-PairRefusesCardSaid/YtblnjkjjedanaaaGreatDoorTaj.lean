/- A part of the proof that PairRefuses returns true for every input; no condition of its own. -/
import Derived.Test.YtblnjkjjedanaaaGreatDoorTai
set_option linter.all false
set_option maxHeartbeats 100000000
set_option maxRecDepth 100000
open Bool renaming false_eq_true->aLs
open Option renaming map_some->aNj
namespace Dv
open Go Go.RowKit
def Gj(ts:List AV)(l:List Operand):List Nat:=l.flatMap fun x=>match ch ts x with
 |some v=>fO v
 |none=>[]
def rt1:Option AV->List Nat
 |some v=>fO v
 |none=>[]
theorem acX{ts:List AV}:Gj ts []=[]:=rfl
theorem XS{ts:List AV}{x:Operand}{l:List Operand}:Gj ts (x::l)=rt1 (ch ts x)++Gj ts l:=by unfold Gj rt1;rw[List.flatMap_cons]
theorem XR{v:AV}:rt1 (some v)=fO v:=rfl
theorem acO{b o:Nat}:fO (.b6 b o)=[b]:=rfl
theorem XN{b o n e k:Nat}:fO (.aI b o n e k)=[b]:=rfl
theorem XL{b:Nat}:fO (.iL b)=[b]:=rfl
def aW(E:Env)(aM t len:Nat)(vs:List (Nat×AV)):Option (AV×List (Nat×cG)):=match E.ty t with
 |some {cS:=.slice e,..}=>(match E.ty e with
  |some ei=>(match ei.zero with
   |some z=>if z.length=ei.size/\0<ei.size/\len*ei.size<=16777216 then
     (hZ (fun i=>some (i*ei.size,ei.size)) (iG z len) vs).map fun cs=>(.aI aM 0 len ei.size len,[(aM,.cells .live cs)])
    else none
   |none=>none)
  |none=>none)
 |_=>none
def AE(E:Env)(H:Hp)(t:Nat)(a:AV)(l h:Option AV):Option AV:=match E.ty t with
 |some {cS:=.array ..,..}=>jw E H t a l h
 |_=>iM E t a l h
def CA(x:Option (Option AV))(k:Option AV->Prop):Prop:=match x with
 |some v=>k v
 |none=>False
theorem xt{v:Option AV}{k:Option AV->Prop}:CA (some v) k=k v:=rfl
@[congr] theorem af6 {a b:Option (Option AV)} {k:Option AV->Prop} (h:a=b):CA a k=CA b k:=by rw[h]
def W3(x:Option AV):Option (Option AV):=match x with
 |some v=>some (some v)
 |none=>none
theorem OY{v:AV}:W3 (some v)=some (some v):=rfl
theorem NY{ts:List AV}:jc ts none=some none:=rfl
theorem NZ{ts:List AV}{x:Operand}:jc ts (some x)=W3 (ch ts x):=by
 show(ch ts x).map some=W3 (ch ts x)
 cases ch ts x<;>rfl
def Gl(E:Env)(t:Nat)(a:AV):Option AV:=match E.ty t,a with
 |some {cS:=.array n _,..},.aI b off len _ _=>if len<n then none else some (.b6 b off)
 |some {cS:=.array n _,..},.aJ cs len=>if len<n then none else some (.eU cs 0)
 |_,_=>none
def LP(a:AV):Option AV:=match a with
 |.b6 b off=>some (.b6 b off)
 |.eU cs off=>some (.eU cs off)
 |.rX g off=>some (.rX g off)
 |.func f a b=>some (.func f a b)
 |.yield l=>some (.yield l)
 |_=>none
def zY(E:Env)(aM t:Nat)(r:Option AV):Option (AV×List (Nat×cG)):=match E.ty t,r with
 |some {cS:=.map _ _,..},none=>some (.iL aM,[(aM,.map .live [] [])])
 |some {cS:=.map _ _,..},some (.int _ _)=>some (.iL aM,[(aM,.map .live [] [])])
 |_,_=>none
def toK(k:IntKind):AV->Option AV
 |.int _ n=>some (.int k (aV k n))
 |_=>none
theorem iN{k k':IntKind}{n:Int}:toK k (.int k' n)=some (.int k (aV k n)):=rfl
def je(E:Env)(t:Nat):Option IntKind:=match E.ty t with
 |some i=>(match i.cS with|.int k=>some k|_=>none)
 |none=>none
def tl(E:Env)(t:Nat):Bool:=match E.ty t with
 |some i=>(match i.cS with|.string=>true|_=>false)
 |none=>false
def toStr:AV->Option AV
 |.str s=>some (.str s)
 |_=>none
theorem adj{s:List UInt8}:toStr (.str s)=some (.str s):=rfl
@[congr] theorem af1 {E:Env} {dr tr:Bool} {ops:List (Option Nat)} {rest:List Oper} {aM nid':Nat} {ts df:List AV} {H H':Hp} {l l':List Rw} {q:List AV->Hp->List Rw->Prop} (h0:aM=nid') (h1:ts=df) (h2:H=H') (h3:l=l'):bS E dr tr ops rest aM ts H l q=bS E dr tr ops rest nid' df H' l' q:=by rw[h0,h1,h2,h3]
section
variable{E:Env}{dr tr:Bool}{ops:List (Option Nat)}{rest:List Oper}{aM:Nat}{ts:List AV}{H:Hp}{l:List Rw}{q:List AV->Hp->List Rw->Prop}{d:Option Nat}{t:Nat}{p:String}{af:Array Edge}
def tb(ds:List (Option Nat))(ts:List AV)(j:Nat)(want:Bool):Bool:=match NX ds j with
 |some dj=>Gy (gt ts dj)==some want
 |none=>false
theorem jO{o:Oper}(hg:o.guard=none):bS E false false ops (o::rest) aM ts H l q=de E false o H.length ts H fun v e=>bS E false false ops rest aM (bQ o.dst v ts) (e.app H) l q:=by
 rw[bS];rw[if_pos (show fZ ops ts o=true by unfold fZ;rw[hg])]
 simp
theorem qy{o:Oper}(hg:o.guard=none)(hl:ck E o=false):bS E true true ops (o::rest) aM ts H l q=de E true o aM ts H fun v e=>bS E true true ops rest aM (bQ o.dst v ts) (e.app H) (bI E ts o e::l) q:=by rw[bS];rw[if_pos (show fZ ops ts o=true by unfold fZ;rw[hg])];simp[hl]
theorem NT{o:Oper}(hg:o.guard=none)(hl:ck E o=true):bS E true true ops (o::rest) aM ts H l q=(lK H[aM]?=true/\de E true o aM ts H fun v e=>bS E true true ops rest (aM+1) (bQ o.dst v ts) (e.app H) (bI E ts o e::l) q):=by rw[bS];rw[if_pos (show fZ ops ts o=true by unfold fZ;rw[hg])];simp[hl]
theorem abR{op:Op}{j:Nat}{want:Bool}:bS E false false ops (⟨d,op,t,p,af,some (j,want)⟩::rest) aM ts H l q=
  pK (tb ops ts j want) (bS E false false ops (⟨d,op,t,p,af,none⟩::rest) aM ts H l q) (bS E false false ops rest aM (bQ d aX ts) H l q):=by
 have hg:tb ops ts j want=fZ ops ts ⟨d,op,t,p,af,some (j,want)⟩:=by
  unfold tb fZ;simp only;cases NX ops j with
  |none=>rfl
  |some dj=>
   simp only;unfold gt;cases h:ts[dj]? with
   |none=>cases want<;>simp[Gy,aX]
   |some v=>cases v<;>simp[Gy]
 rw[hg];rw[bS];cases hw:fZ ops ts ⟨d,op,t,p,af,some (j,want)⟩with
 |true=>rw[jt,jO rfl];simp;rfl
 |false=>rw[fR];simp
theorem Z4{op:Op}{j:Nat}{want:Bool}:bS E true true ops (⟨d,op,t,p,af,some (j,want)⟩::rest) aM ts H l q=
  pK (tb ops ts j want) (bS E true true ops (⟨d,op,t,p,af,none⟩::rest) aM ts H l q)
   (pK (ck E ⟨d,op,t,p,af,none⟩) (lK H[aM]?=true/\bS E true true ops rest (aM+1) (bQ d aX ts) H (bI E ts ⟨d,op,t,p,af,none⟩ (.bM [])::l) q) (bS E true true ops rest aM (bQ d aX ts) H (bI E ts ⟨d,op,t,p,af,none⟩ (.bM [])::l) q)):=by
 have hg:tb ops ts j want=fZ ops ts ⟨d,op,t,p,af,some (j,want)⟩:=by
  unfold tb fZ;simp only;cases NX ops j with
  |none=>rfl
  |some dj=>
   simp only;unfold gt;cases h:ts[dj]? with
   |none=>cases want<;>simp[Gy,aX]
   |some v=>cases v<;>simp[Gy]
 have hl:ck E ⟨d,op,t,p,af,some (j,want)⟩=ck E ⟨d,op,t,p,af,none⟩:=rfl;have ht:∀e,bI E ts ⟨d,op,t,p,af,some (j,want)⟩ e=bI E ts ⟨d,op,t,p,af,none⟩ e:=fun _=>rfl
 rw[hg];rw[bS];cases hw:fZ ops ts ⟨d,op,t,p,af,some (j,want)⟩with
 |true=>
  rw[jt,bS];rw[if_pos (show fZ ops ts ⟨d,op,t,p,af,none⟩=true from rfl)];simp only[hl,ht,if_true];rfl
 |false=>
  rw[fR];simp only[hl,ht,aLs,if_false,if_true,true_and,forall_const];cases ck E ⟨d,op,t,p,af,none⟩<;>simp[pK]
theorem aiH{x:Operand}:bS E false false ops (⟨d,.move x,t,p,af,none⟩::rest) aM ts H l q=cu (ch ts x) fun v=>bS E false false ops rest aM (bQ d v ts) H l q:=by
 rw[jO rfl];simp only[de,eN];cases ch ts x<;>rfl
theorem agD{x:Operand}:bS E true true ops (⟨d,.move x,t,p,af,none⟩::rest) aM ts H l q=cu (ch ts x) fun v=>bS E true true ops rest aM (bQ d v ts) H (bI E ts ⟨d,.move x,t,p,af,none⟩ (.bM [])::l) q:=by
 rw[qy rfl rfl];simp only[de,eN];cases ch ts x<;>rfl
theorem W7{x:Operand}:bS E false false ops (⟨d,.assign x,t,p,af,none⟩::rest) aM ts H l q=cu (ch ts x) fun v=>bS E false false ops rest aM (bQ d v ts) H l q:=by
 rw[jO rfl];simp only[de,eN];cases ch ts x<;>rfl
theorem Va{x:Operand}:bS E true true ops (⟨d,.assign x,t,p,af,none⟩::rest) aM ts H l q=cu (ch ts x) fun v=>bS E true true ops rest aM (bQ d v ts) H (bI E ts ⟨d,.assign x,t,p,af,none⟩ (.bM [])::l) q:=by
 rw[qy rfl rfl];simp only[de,eN];cases ch ts x<;>rfl
theorem aiI{c a b:Operand}:bS E false false ops (⟨d,.pick c a b,t,p,af,none⟩::rest) aM ts H l q=cu (yw (ch ts c) (ch ts a) (ch ts b)) fun v=>bS E false false ops rest aM (bQ d v ts) H l q:=by
 rw[jO rfl];simp only[de,eN,yw];cases hc:ch ts c with
 |none=>rfl
 |some v=>
  cases v<;>try rfl
  rename_i z;cases z
  ·simp only[aLs,if_false];cases ch ts b<;>rfl
  ·simp only[if_true];cases ch ts a<;>rfl
theorem agE{c a b:Operand}:bS E true true ops (⟨d,.pick c a b,t,p,af,none⟩::rest) aM ts H l q=cu (yw (ch ts c) (ch ts a) (ch ts b)) fun v=>bS E true true ops rest aM (bQ d v ts) H (bI E ts ⟨d,.pick c a b,t,p,af,none⟩ (.bM [])::l) q:=by
 rw[qy rfl rfl];simp only[de,eN,yw];cases hc:ch ts c with
 |none=>rfl
 |some v=>
  cases v<;>try rfl
  rename_i z;cases z
  ·simp only[aLs,if_false];cases ch ts b<;>rfl
  ·simp only[if_true];cases ch ts a<;>rfl
theorem abP{t1:Nat}:bS E false false ops (⟨d,.alloc t1,t,p,af,none⟩::rest) aM ts H l q=cu (gX E t1) fun z=>bS E false false ops rest aM (bQ d (.b6 H.length 0) ts) ((cJ.bM ([(H.length,.cells .live z.cells)])).app H) l q:=by
 rw[jO rfl];simp only[de,eN];cases gX E t1<;>rfl
theorem Z2{t1:Nat}:bS E true true ops (⟨d,.alloc t1,t,p,af,none⟩::rest) aM ts H l q=(lK H[aM]?=true/\cu (gX E t1) fun z=>bS E true true ops rest (aM+1) (bQ d (.b6 aM 0) ts) ((cJ.bM ([(aM,.cells .live z.cells)])).app H) (bI E ts ⟨d,.alloc t1,t,p,af,none⟩ (.bM ([(aM,.cells .live z.cells)]))::l) q):=by
 rw[NT rfl rfl];congr 1;simp only[de,eN];cases gX E t1<;>rfl
theorem aqi{t1:Nat}{x:Operand}:bS E false false ops (⟨d,.box t1 x,t,p,af,none⟩::rest) aM ts H l q=cu (ch ts x) fun z=>bS E false false ops rest aM (bQ d (.b6 H.length 0) ts) ((cJ.bM ([(H.length,.cells .live z.cells)])).app H) l q:=by
 rw[jO rfl];simp only[de,eN];cases ch ts x<;>rfl
theorem aiG{t1:Nat}{x:Operand}:bS E false false ops (⟨d,.load t1 x,t,p,af,none⟩::rest) aM ts H l q=cu (ch ts x) fun a=>cu (gl E H t1 a) fun v=>bS E false false ops rest aM (bQ d v ts) H l q:=by
 rw[jO rfl];simp only[de,eN];cases ch ts x with
 |none=>rfl
 |some a=>
  simp only[aP];cases gl E H t1 a<;>rfl
theorem agC{t1:Nat}{x:Operand}:bS E true true ops (⟨d,.load t1 x,t,p,af,none⟩::rest) aM ts H l q=cu (ch ts x) fun a=>cu (gl E H t1 a) fun v=>bS E true true ops rest aM (bQ d v ts) H (bI E ts ⟨d,.load t1 x,t,p,af,none⟩ (.bM [])::l) q:=by
 rw[qy rfl rfl];simp only[de,eN];cases ch ts x with
 |none=>rfl
 |some a=>
  simp only[aP];cases gl E H t1 a<;>rfl
theorem abU{t1:Nat}{x y:Operand}:bS E false false ops (⟨none,.store t1 x y,t,p,af,none⟩::rest) aM ts H l q=cu (ch ts x) fun a=>cu (ch ts y) fun v=>AJ (iC E H t1 a v) fun s=>bS E false false ops rest aM ts ((cJ.bM (s)).app H) l q:=by
 rw[jO rfl];simp only[de,eN];cases ch ts x with
 |none=>rfl
 |some a=>
  simp only[aP];cases ch ts y with
  |none=>rfl
  |some v=>
   simp only[aP];cases iC E H t1 a v<;>rfl
theorem Z6{t1:Nat}{x y:Operand}:bS E true true ops (⟨none,.store t1 x y,t,p,af,none⟩::rest) aM ts H l q=cu (ch ts x) fun a=>cu (ch ts y) fun v=>AJ (iC E H t1 a v) fun s=>bS E true true ops rest aM ts ((cJ.bM (s)).app H) (bI E ts ⟨none,.store t1 x y,t,p,af,none⟩ (.bM (s))::l) q:=by
 rw[qy rfl rfl];simp only[de,eN];cases ch ts x with
 |none=>rfl
 |some a=>
  simp only[aP];cases ch ts y with
  |none=>rfl
  |some v=>
   simp only[aP];cases iC E H t1 a v<;>rfl
theorem aqh{op:BinOp}{t1 t2:Nat}{x y:Operand}:bS E false false ops (⟨d,.binOp op t1 x y t2,t,p,af,none⟩::rest) aM ts H l q=cu (ch ts x) fun a=>cu (ch ts y) fun b=>cu (dy E (bK x||bK y) op t1 a b) fun v=>bS E false false ops rest aM (bQ d v ts) H l q:=by
 rw[jO rfl];simp only[de,eN];cases ch ts x with
 |none=>rfl
 |some a=>
  simp only[aP];cases ch ts y with
  |none=>rfl
  |some b=>
   simp only[aP];cases dy E (bK x||bK y) op t1 a b<;>rfl
theorem amm{op:BinOp}{t1 t2:Nat}{x y:Operand}:bS E true true ops (⟨d,.binOp op t1 x y t2,t,p,af,none⟩::rest) aM ts H l q=cu (ch ts x) fun a=>cu (ch ts y) fun b=>cu (dy E (bK x||bK y) op t1 a b) fun v=>bS E true true ops rest aM (bQ d v ts) H (bI E ts ⟨d,.binOp op t1 x y t2,t,p,af,none⟩ (.bM [])::l) q:=by
 rw[qy rfl rfl];simp only[de,eN];cases ch ts x with
 |none=>rfl
 |some a=>
  simp only[aP];cases ch ts y with
  |none=>rfl
  |some b=>
   simp only[aP];cases dy E (bK x||bK y) op t1 a b<;>rfl
theorem ayB{op:UnOp}{t1:Nat}{x:Operand}:bS E false false ops (⟨d,.unOp op t1 x,t,p,af,none⟩::rest) aM ts H l q=cu (ch ts x) fun a=>cu (YP op a) fun v=>bS E false false ops rest aM (bQ d v ts) H l q:=by
 rw[jO rfl];simp only[de,eN];cases ch ts x with
 |none=>rfl
 |some a=>
  simp only[aP];cases YP op a<;>rfl
theorem ayz{t1 f:Nat}{x:Operand}:bS E false false ops (⟨d,.fieldAddr t1 x f,t,p,af,none⟩::rest) aM ts H l q=cu (ch ts x) fun a=>cu (dx E t1 a f) fun v=>bS E false false ops rest aM (bQ d v ts) H l q:=by
 rw[jO rfl];simp only[de,eN];cases ch ts x with
 |none=>rfl
 |some a=>
  simp only[aP];cases dx E t1 a f<;>rfl
theorem auK{t1 f:Nat}{x:Operand}:bS E true true ops (⟨d,.fieldAddr t1 x f,t,p,af,none⟩::rest) aM ts H l q=cu (ch ts x) fun a=>cu (dx E t1 a f) fun v=>bS E true true ops rest aM (bQ d v ts) H (bI E ts ⟨d,.fieldAddr t1 x f,t,p,af,none⟩ (.bM [])::l) q:=by
 rw[qy rfl rfl];simp only[de,eN];cases ch ts x with
 |none=>rfl
 |some a=>
  simp only[aP];cases dx E t1 a f<;>rfl
theorem ayA{t1:Nat}{x y:Operand}:bS E false false ops (⟨d,.indexAddr t1 x y,t,p,af,none⟩::rest) aM ts H l q=cu (ch ts x) fun a=>cu (ch ts y) fun b=>cu (cI E t1 a b) fun v=>bS E false false ops rest aM (bQ d v ts) H l q:=by
 rw[jO rfl];simp only[de,eN];cases ch ts x with
 |none=>rfl
 |some a=>
  simp only[aP];cases ch ts y with
  |none=>rfl
  |some b=>
   simp only[aP];cases cI E t1 a b<;>rfl
theorem auL{t1:Nat}{x y:Operand}:bS E true true ops (⟨d,.indexAddr t1 x y,t,p,af,none⟩::rest) aM ts H l q=cu (ch ts x) fun a=>cu (ch ts y) fun b=>cu (cI E t1 a b) fun v=>bS E true true ops rest aM (bQ d v ts) H (bI E ts ⟨d,.indexAddr t1 x y,t,p,af,none⟩ (.bM [])::l) q:=by
 rw[qy rfl rfl];simp only[de,eN];cases ch ts x with
 |none=>rfl
 |some a=>
  simp only[aP];cases ch ts y with
  |none=>rfl
  |some b=>
   simp only[aP];cases cI E t1 a b<;>rfl
theorem abS{t1:Nat}{x y:Operand}:bS E false false ops (⟨d,.index t1 x y,t,p,af,none⟩::rest) aM ts H l q=cu (ch ts x) fun a=>cu (ch ts y) fun b=>cu (qm E t1 a b) fun v=>bS E false false ops rest aM (bQ d v ts) H l q:=by
 rw[jO rfl];simp only[de,eN];cases ch ts x with
 |none=>rfl
 |some a=>
  simp only[aP];cases ch ts y with
  |none=>rfl
  |some b=>
   simp only[aP];cases qm E t1 a b<;>rfl
theorem W9{t1:Nat}{x y:Operand}{ok:Bool}:bS E false false ops (⟨d,.lookup t1 x y ok,t,p,af,none⟩::rest) aM ts H l q=cu (ch ts x) fun a=>cu (ch ts y) fun b=>cu (jk E H t1 a b ok) fun v=>bS E false false ops rest aM (bQ d v ts) H l q:=by
 rw[jO rfl];simp only[de,eN];cases ch ts x with
 |none=>rfl
 |some a=>
  simp only[aP];cases ch ts y with
  |none=>rfl
  |some b=>
   simp only[aP];cases jk E H t1 a b ok<;>rfl
theorem LO{t1:Nat}{x y z:Operand}:bS E false false ops (⟨none,.mapUpdate t1 x y z,t,p,af,none⟩::rest) aM ts H l q=cu (ch ts x) fun a=>cu (ch ts y) fun b=>cu (ch ts z) fun c=>AJ (ek E H t1 a b c) fun s=>bS E false false ops rest aM ts ((cJ.bM (s)).app H) l q:=by
 rw[jO rfl];simp only[de,eN];cases ch ts x with
 |none=>rfl
 |some a=>
  simp only[aP];cases ch ts y with
  |none=>rfl
  |some b=>
   simp only[aP];cases ch ts z with
   |none=>rfl
   |some c=>
    simp only[aP];cases ek E H t1 a b c<;>rfl
theorem W8{t1:Nat}{x y z:Operand}:bS E false false ops (⟨none,.insert t1 x y z,t,p,af,none⟩::rest) aM ts H l q=cu (ch ts x) fun a=>cu (ch ts y) fun b=>cu (ch ts z) fun c=>AJ (ek E H t1 a b c) fun s=>bS E false false ops rest aM ts ((cJ.bM (s)).app H) l q:=by
 rw[jO rfl];simp only[de,eN];cases ch ts x with
 |none=>rfl
 |some a=>
  simp only[aP];cases ch ts y with
  |none=>rfl
  |some b=>
   simp only[aP];cases ch ts z with
   |none=>rfl
   |some c=>
    simp only[aP];cases ek E H t1 a b c<;>rfl
theorem LN{t1:Nat}{x y:Operand}:bS E false false ops (⟨d,.makeSlice t1 x y,t,p,af,none⟩::rest) aM ts H l q=cu (ch ts x) fun a=>cu (ch ts y) fun b=>sE (fL E H.length t1 a b) fun r=>bS E false false ops rest aM (bQ d r.1 ts) ((cJ.bM (r.2)).app H) l q:=by
 rw[jO rfl];simp only[de,eN];cases ch ts x with
 |none=>rfl
 |some a=>
  simp only[aP];cases ch ts y with
  |none=>rfl
  |some b=>
   simp only[aP];cases fL E H.length t1 a b<;>rfl
theorem SI{i:Nat}{x:Operand}:bS E false false ops (⟨d,.extract x i,t,p,af,none⟩::rest) aM ts H l q=cu (ch ts x) fun a=>cu (nth a i) fun v=>bS E false false ops rest aM (bQ d v ts) H l q:=by
 rw[jO rfl];simp only[de,eN];cases ch ts x with
 |none=>rfl
 |some a=>
  simp only[aP];cases a<;>try rfl
  rename_i vs;simp only[nth];cases vs[i]?<;>rfl
theorem RQ{i:Nat}{x:Operand}:bS E true true ops (⟨d,.extract x i,t,p,af,none⟩::rest) aM ts H l q=cu (ch ts x) fun a=>cu (nth a i) fun v=>bS E true true ops rest aM (bQ d v ts) H (bI E ts ⟨d,.extract x i,t,p,af,none⟩ (.bM [])::l) q:=by
 rw[qy rfl rfl];simp only[de,eN];cases ch ts x with
 |none=>rfl
 |some a=>
  simp only[aP];cases a<;>try rfl
  rename_i vs;simp only[nth];cases vs[i]?<;>rfl
theorem abQ{t1:Nat}{ps:Array (Nat×Operand)}:bS E false false ops (⟨d,.build t1 ps,t,p,af,none⟩::rest) aM ts H l q=AK (xH ts ps.toList) fun vs=>cu (iJ E t1 vs) fun v=>bS E false false ops rest aM (bQ d v ts) H l q:=by
 rw[jO rfl];simp only[de,eN,iJ];cases xH ts ps.toList with
 |none=>cases gQ E t1<;>cases (E.ty t1).bind (·.zero)<;>rfl
 |some vs=>
  cases gQ E t1 with
  |none=>rfl
  |some pl=>
   cases (E.ty t1).bind (·.zero)with
   |none=>rfl
   |some z=>simp only[hJ];cases hZ pl z vs<;>rfl
theorem Z3{t1:Nat}{ps:Array (Nat×Operand)}:bS E true true ops (⟨d,.build t1 ps,t,p,af,none⟩::rest) aM ts H l q=AK (xH ts ps.toList) fun vs=>cu (iJ E t1 vs) fun v=>bS E true true ops rest aM (bQ d v ts) H (bI E ts ⟨d,.build t1 ps,t,p,af,none⟩ (.bM [])::l) q:=by
 rw[qy rfl rfl];simp only[de,eN,iJ];cases xH ts ps.toList with
 |none=>cases gQ E t1<;>cases (E.ty t1).bind (·.zero)<;>rfl
 |some vs=>
  cases gQ E t1 with
  |none=>rfl
  |some pl=>
   cases (E.ty t1).bind (·.zero)with
   |none=>rfl
   |some z=>simp only[hJ];cases hZ pl z vs<;>rfl
theorem Jq{t1 len:Nat}{ps:Array (Nat×Operand)}:bS E false false ops (⟨d,.buildSlice t1 len ps,t,p,af,none⟩::rest) aM ts H l q=AK (xH ts ps.toList) fun vs=>sE (aW E H.length t1 len vs) fun r=>bS E false false ops rest aM (bQ d r.1 ts) ((cJ.bM r.2).app H) l q:=by
 rw[jO rfl];simp only[de,eN,aW];cases xH ts ps.toList with
 |none=>
  cases E.ty t1 with
  |none=>rfl
  |some i=>
   obtain⟨cS,isAgg,size,bytes,zero,eQ⟩:=i;cases cS<;>try rfl
   rename_i e;simp only;cases E.ty e with
   |none=>rfl
   |some ei=>simp only;cases ei.zero<;>rfl
 |some vs=>
  simp only[hJ];cases E.ty t1 with
  |none=>rfl
  |some i=>
   obtain⟨cS,isAgg,size,bytes,zero,eQ⟩:=i;cases cS<;>try rfl
   rename_i e;simp only;cases E.ty e with
   |none=>rfl
   |some ei=>
    simp only;cases ei.zero with
    |none=>rfl
    |some z=>
     simp only
     split
     ·cases hZ (fun i=>some (i*ei.size,ei.size)) (iG z len) vs<;>rfl
     ·rfl
theorem IK{t1 len:Nat}{ps:Array (Nat×Operand)}:bS E true true ops (⟨d,.buildSlice t1 len ps,t,p,af,none⟩::rest) aM ts H l q=(lK H[aM]?=true/\AK (xH ts ps.toList) fun vs=>sE (aW E aM t1 len vs) fun r=>bS E true true ops rest (aM+1) (bQ d r.1 ts) ((cJ.bM r.2).app H) (bI E ts ⟨d,.buildSlice t1 len ps,t,p,af,none⟩ (.bM r.2)::l) q):=by
 rw[NT rfl rfl];congr 1;simp only[de,eN,aW];cases xH ts ps.toList with
 |none=>
  cases E.ty t1 with
  |none=>rfl
  |some i=>
   obtain⟨cS,isAgg,size,bytes,zero,eQ⟩:=i;cases cS<;>try rfl
   rename_i e;simp only;cases E.ty e with
   |none=>rfl
   |some ei=>simp only;cases ei.zero<;>rfl
 |some vs=>
  simp only[hJ];cases E.ty t1 with
  |none=>rfl
  |some i=>
   obtain⟨cS,isAgg,size,bytes,zero,eQ⟩:=i;cases cS<;>try rfl
   rename_i e;simp only;cases E.ty e with
   |none=>rfl
   |some ei=>
    simp only;cases ei.zero with
    |none=>rfl
    |some z=>
     simp only
     split
     ·cases hZ (fun i=>some (i*ei.size,ei.size)) (iG z len) vs<;>rfl
     ·rfl
theorem SH{bi:Builtin}{args:Array Operand}{eg:Array Nat}:bS E false false ops (⟨d,.call {callee:=.builtin bi,args:=args,argTypes:=eg},t,p,af,none⟩::rest) aM ts H l q=oP (nL ts args.toList) fun al=>sE (aZ E H H.length bi eg.toList al) fun r=>bS E false false ops rest aM (bQ d r.1 ts) ((cJ.bM r.2).app H) l q:=by
 rw[jO rfl];simp only[de,eN];cases nL ts args.toList with
 |none=>rfl
 |some al=>simp only[b8];cases aZ E H H.length bi eg.toList al<;>rfl
theorem amn{args:Array Operand}{eg:Array Nat}:bS E true true ops (⟨d,.call {callee:=.builtin .len,args:=args,argTypes:=eg},t,p,af,none⟩::rest) aM ts H l q=oP (nL ts args.toList) fun al=>sE (aZ E H aM .len eg.toList al) fun r=>bS E true true ops rest aM (bQ d r.1 ts) ((cJ.bM r.2).app H) (bI E ts ⟨d,.call {callee:=.builtin .len,args:=args,argTypes:=eg},t,p,af,none⟩ (.bM r.2)::l) q:=by
 rw[qy rfl rfl];simp only[de,eN];cases nL ts args.toList with
 |none=>rfl
 |some al=>simp only[b8];cases aZ E H aM .len eg.toList al<;>rfl
theorem agB{args:Array Operand}{eg:Array Nat}:bS E true true ops (⟨d,.call {callee:=.builtin .copy,args:=args,argTypes:=eg},t,p,af,none⟩::rest) aM ts H l q=oP (nL ts args.toList) fun al=>sE (aZ E H aM .copy eg.toList al) fun r=>bS E true true ops rest aM (bQ d r.1 ts) ((cJ.bM r.2).app H) (bI E ts ⟨d,.call {callee:=.builtin .copy,args:=args,argTypes:=eg},t,p,af,none⟩ (.bM r.2)::l) q:=by
 rw[qy rfl rfl];simp only[de,eN];cases nL ts args.toList with
 |none=>rfl
 |some al=>simp only[b8];cases aZ E H aM .copy eg.toList al<;>rfl
theorem U9{args:Array Operand}{eg:Array Nat}:bS E true true ops (⟨d,.call {callee:=.builtin .append,args:=args,argTypes:=eg},t,p,af,none⟩::rest) aM ts H l q=(lK H[aM]?=true/\oP (nL ts args.toList) fun al=>sE (aZ E H aM .append eg.toList al) fun r=>bS E true true ops rest (aM+1) (bQ d r.1 ts) ((cJ.bM r.2).app H) (bI E ts ⟨d,.call {callee:=.builtin .append,args:=args,argTypes:=eg},t,p,af,none⟩ (.bM r.2)::l) q):=by
 rw[NT rfl rfl];congr 1;simp only[de,eN];cases nL ts args.toList with
 |none=>rfl
 |some al=>simp only[b8];cases aZ E H aM .append eg.toList al<;>rfl
theorem abT{t1:Nat}{x:Operand}{lo hi:Option Operand}:bS E false false ops (⟨d,.slice t1 x lo hi none,t,p,af,none⟩::rest) aM ts H l q=cu (ch ts x) fun a=>CA (jc ts lo) fun b=>CA (jc ts hi) fun c=>cu (AE E H t1 a b c) fun v=>bS E false false ops rest aM (bQ d v ts) H l q:=by
 rw[jO rfl];simp only[de,eN,AE];cases ch ts x with
 |none=>rfl
 |some a=>
  cases jc ts lo with
  |none=>rfl
  |some b=>
   cases jc ts hi with
   |none=>rfl
   |some c=>
    simp only[aP,xt];cases E.ty t1 with
    |none=>simp only;cases iM E t1 a b c<;>rfl
    |some i=>
     obtain⟨cS,isAgg,size,bytes,zero,eQ⟩:=i;cases cS<;>simp only<;>first|(cases jw E H t1 a b c<;>rfl)|(cases iM E t1 a b c<;>rfl)
theorem Z5{t1:Nat}{x:Operand}{lo hi:Option Operand}:bS E true true ops (⟨d,.slice t1 x lo hi none,t,p,af,none⟩::rest) aM ts H l q=cu (ch ts x) fun a=>CA (jc ts lo) fun b=>CA (jc ts hi) fun c=>cu (AE E H t1 a b c) fun v=>bS E true true ops rest aM (bQ d v ts) H (bI E ts ⟨d,.slice t1 x lo hi none,t,p,af,none⟩ (.bM [])::l) q:=by
 rw[qy rfl rfl];simp only[de,eN,AE];cases ch ts x with
 |none=>rfl
 |some a=>
  cases jc ts lo with
  |none=>rfl
  |some b=>
   cases jc ts hi with
   |none=>rfl
   |some c=>
    simp only[aP,xt];cases E.ty t1 with
    |none=>simp only;cases iM E t1 a b c<;>rfl
    |some i=>
     obtain⟨cS,isAgg,size,bytes,zero,eQ⟩:=i;cases cS<;>simp only<;>first|(cases jw E H t1 a b c<;>rfl)|(cases iM E t1 a b c<;>rfl)
theorem aqk{t1:Nat}{x:Operand}:bS E false false ops (⟨d,.sliceToArrayPointer t1 x,t,p,af,none⟩::rest) aM ts H l q=cu (ch ts x) fun a=>cu (Gl E t1 a) fun v=>bS E false false ops rest aM (bQ d v ts) H l q:=by
 rw[jO rfl];simp only[de,eN,Gl];cases ch ts x with
 |none=>
  cases E.ty t1 with
  |none=>rfl
  |some i=>
   obtain⟨cS,isAgg,size,bytes,zero,eQ⟩:=i;cases cS<;>rfl
 |some a=>
  simp only[aP];cases E.ty t1 with
  |none=>rfl
  |some i=>
   obtain⟨cS,isAgg,size,bytes,zero,eQ⟩:=i;cases cS<;>(try rfl)<;>cases a<;>(try rfl)<;>simp only<;>split<;>rfl
theorem amp{t1:Nat}{x:Operand}:bS E true true ops (⟨d,.sliceToArrayPointer t1 x,t,p,af,none⟩::rest) aM ts H l q=cu (ch ts x) fun a=>cu (Gl E t1 a) fun v=>bS E true true ops rest aM (bQ d v ts) H (bI E ts ⟨d,.sliceToArrayPointer t1 x,t,p,af,none⟩ (.bM [])::l) q:=by
 rw[qy rfl rfl];simp only[de,eN,Gl];cases ch ts x with
 |none=>
  cases E.ty t1 with
  |none=>rfl
  |some i=>
   obtain⟨cS,isAgg,size,bytes,zero,eQ⟩:=i;cases cS<;>rfl
 |some a=>
  simp only[aP];cases E.ty t1 with
  |none=>rfl
  |some i=>
   obtain⟨cS,isAgg,size,bytes,zero,eQ⟩:=i;cases cS<;>(try rfl)<;>cases a<;>(try rfl)<;>simp only<;>split<;>rfl
theorem aqj{x:Operand}:bS E false false ops (⟨d,.nilCheck x,t,p,af,none⟩::rest) aM ts H l q=cu (ch ts x) fun a=>cu (LP a) fun v=>bS E false false ops rest aM (bQ d v ts) H l q:=by
 rw[jO rfl];simp only[de,eN,LP];cases ch ts x with
 |none=>rfl
 |some a=>cases a<;>rfl
theorem amo{x:Operand}:bS E true true ops (⟨d,.nilCheck x,t,p,af,none⟩::rest) aM ts H l q=cu (ch ts x) fun a=>cu (LP a) fun v=>bS E true true ops rest aM (bQ d v ts) H (bI E ts ⟨d,.nilCheck x,t,p,af,none⟩ (.bM [])::l) q:=by
 rw[qy rfl rfl];simp only[de,eN,LP];cases ch ts x with
 |none=>rfl
 |some a=>cases a<;>rfl
theorem O6{f:Nat}{first cap:Array Operand}:bS E false false ops (⟨d,.makeFunc (.func f) first cap,t,p,af,none⟩::rest) aM ts H l q=oP (nL ts first.toList) fun a=>oP (nL ts cap.toList) fun c=>bS E false false ops rest aM (bQ d (.func f a c) ts) H l q:=by
 rw[jO rfl];simp only[de,eN];cases nL ts first.toList with
 |none=>rfl
 |some a=>cases nL ts cap.toList<;>rfl
theorem SJ{t1:Nat}{r0:Option Operand}:bS E false false ops (⟨d,.makeMap t1 r0,t,p,af,none⟩::rest) aM ts H l q=CA (jc ts r0) fun a=>sE (zY E H.length t1 a) fun r=>bS E false false ops rest aM (bQ d r.1 ts) ((cJ.bM r.2).app H) l q:=by
 rw[jO rfl];simp only[de,eN,zY];cases jc ts r0 with
 |none=>
  cases E.ty t1 with
  |none=>rfl
  |some i=>
   obtain⟨cS,isAgg,size,bytes,zero,eQ⟩:=i;cases cS<;>rfl
 |some a=>
  simp only[xt];cases E.ty t1 with
  |none=>cases a<;>rfl
  |some i=>
   obtain⟨cS,isAgg,size,bytes,zero,eQ⟩:=i;cases cS<;>cases a<;>(try rfl)<;>(rename_i v;cases v<;>rfl)
theorem Hd{s1 d1:Nat}{k0 k':IntKind}{x:Operand}(hs:je E s1=some k0)(hd:je E d1=some k'):ck E ⟨d,.convert s1 d1 x,t,p,af,none⟩=false:=by
 unfold je at hs;unfold ck;simp only;cases h1:E.ty s1 with
 |none=>rfl
 |some si=>
  rw[h1]at hs;obtain⟨cS,isAgg,size,bytes,zero,eQ⟩:=si;cases cS<;>first|(cases hs;done)|rfl
theorem gL{s1 d1:Nat}{k0 k':IntKind}{x:Operand}(hs:je E s1=some k0)(hd:je E d1=some k'):bS E false false ops (⟨d,.convert s1 d1 x,t,p,af,none⟩::rest) aM ts H l q=cu (ch ts x) fun a=>cu (toK k' a) fun v=>bS E false false ops rest aM (bQ d v ts) H l q:=by
 rw[jO rfl];simp only[de,eN];unfold je at hs hd;cases h1:E.ty s1 with
 |none=>rw[h1]at hs;cases hs
 |some si=>
  cases h2:E.ty d1 with
  |none=>rw[h2]at hd;cases hd
  |some di=>
   rw[h1]at hs;rw[h2]at hd;obtain⟨cS,isAgg,size,bytes,zero,eQ⟩:=si;obtain⟨YR,WM,afB,US,afM,aej⟩:=di;cases cS<;>first|(cases hs;done)|skip
   cases YR<;>first|(cases hd;done)|skip
   simp only[Option.some.injEq]at hd;subst hd;cases ch ts x with
   |none=>rfl
   |some v=>cases v<;>simp[GH,h1,h2,toK,cu,FN,qK]
def oI(x:Option (AV×Hp))(k:AV->Hp->Prop):Prop:=match x with
 |some (v,e)=>k v e
 |none=>False
theorem Gv{v:AV}{e:Hp}{k:AV->Hp->Prop}:oI (some (v,e)) k=k v e:=rfl
@[congr] theorem af2 {a b:Option (AV×Hp)} {k:AV->Hp->Prop} (h:a=b):oI a k=oI b k:=by rw[h]
def iD(E:Env)(dr st:Bool)(f:Nat)(bl:List AV)(H:Hp)(k:AV->cJ->Prop):Prop:=
 pK (cg E f) (pK (vf E f&&(dr&&st)) (zd (bW H bl) fun cl bs=>cu (AS E f cl) fun r=>k r (if bJ r=true then cJ.looks bs else cJ.marks bs)) (oI (cL E f bl H) fun r H'=>pK ((dr&&st)&&!oO H H') False (k r (.vK H'))))
  (zd (bW H bl) fun cl bs=>cu (aO E f cl) fun r=>k r (if bJ r=true then cJ.looks bs else cJ.marks bs))
@[congr] theorem adM {dr st:Bool} {f:Nat} {bl bl':List AV} {H H':Hp} {k:AV->cJ->Prop} (h1:bl=bl') (h2:H=H'):iD E dr st f bl H k=iD E dr st f bl' H' k:=by rw[h1,h2]
theorem IE{st:Bool}{f:Nat}{bl:List AV}{k:AV->cJ->Prop}:J7 E dr st f bl H k=iD E dr st f bl H k:=by
 have key:∀(C:Nat->List AV->AV->Prop) (O:Nat->List AV->Option AV),(∀f al r,C f al r->O f al=some r)->(∀f al r,O f al=some r->C f al r)->
   (∃vS bs r,bW H bl=some (vS,bs)/\C f vS r/\k r (if bJ r=true then cJ.looks bs else cJ.marks bs))=(zd (bW H bl) fun cl bs=>cu (O f cl) fun r=>k r (if bJ r=true then cJ.looks bs else cJ.marks bs)):=by
  intro C O h1 h2;apply propext;constructor
  ·rintro⟨vS,bs,r,g1,g2,g3⟩;rw[g1,dT,h1 _ _ _ g2,aP];exact g3
  ·intro h;cases hz:bW H bl with
   |none=>rw[hz]at h;exact h.elim
   |some y=>
    obtain⟨cl,bs⟩:=y;rw[hz,dT]at h;cases hr:O f cl with
    |none=>rw[hr]at h;exact h.elim
    |some r=>rw[hr,aP]at h;exact⟨cl,bs,r,rfl,h2 _ _ _ hr,h⟩
 unfold J7 iD;cases cg E f with
 |true=>
  simp only[if_true,jt];cases vf E f&&(dr&&st)with
  |true=>
   simp only[if_true,jt];exact key (yY E) (AS E) (fun _ _ _ h=>RL h) (fun _ _ _ h=>NH h)
  |false=>
   simp only[aLs,if_false,fR];apply propext;constructor
   ·rintro⟨r,H',g1,hk,g2⟩;rw[AR g1,Gv];have T5:((dr&&st)&&!oO H H')=false:=by
     cases hds:(dr&&st)with
     |false=>rfl
     |true=>rw[hk hds];rfl
    rw[T5,fR];exact g2
   ·intro h;cases hr:cL E f bl H with
    |none=>rw[hr]at h;exact h.elim
    |some x=>
     obtain⟨r,H'⟩:=x;rw[hr,Gv]at h;cases T5:((dr&&st)&&!oO H H')with
     |true=>rw[T5]at h;exact h.elim
     |false=>
      rw[T5,fR]at h;refine⟨r,H',NG hr,fun hds=>?_,h⟩;rw[hds]at T5;cases hz:oO H H' with
      |true=>rfl
      |false=>rw[hz]at T5;cases T5
 |false=>
  simp only[aLs,if_false,fR];exact key (mw E) (aO E) (fun _ _ _ h=>ed h) (fun _ _ _ h=>yH h)
theorem aiF{x:Operand}{args:Array Operand}{eg:Array Nat}:bS E false false ops (⟨d,.call {callee:=.value x,args:=args,argTypes:=eg},t,p,af,none⟩::rest) aM ts H l q=cu (ch ts x) fun fv=>oP (nL ts args.toList) fun al=>Ds fv al fun f bl=>iD E false (pU x) f bl H fun r e=>bS E false false ops rest aM (bQ d r ts) (e.app H) l q:=by
 rw[jO rfl];simp only[de];cases ch ts x with
 |none=>rfl
 |some fv=>
  cases nL ts args.toList with
  |none=>cases fv<;>rfl
  |some al=>
   cases fv<;>try rfl
   rename_i f a c;simp only[aP,b8,xq,IE]
theorem agA{x:Operand}{args:Array Operand}{eg:Array Nat}:bS E true true ops (⟨d,.call {callee:=.value x,args:=args,argTypes:=eg},t,p,af,none⟩::rest) aM ts H l q=cu (ch ts x) fun fv=>oP (nL ts args.toList) fun al=>Ds fv al fun f bl=>iD E true (pU x) f bl H fun r e=>bS E true true ops rest aM (bQ d r ts) (e.app H) (bI E ts ⟨d,.call {callee:=.value x,args:=args,argTypes:=eg},t,p,af,none⟩ e::l) q:=by
 rw[qy rfl rfl];simp only[de];cases ch ts x with
 |none=>rfl
 |some fv=>
  cases nL ts args.toList with
  |none=>cases fv<;>rfl
  |some al=>
   cases fv<;>try rfl
   rename_i f a c;simp only[aP,b8,xq,IE]
theorem lu{st:Bool}{f:Nat}{bl:List AV}{k:AV->cJ->Prop}(h:cg E f=false):iD E dr st f bl H k=zd (bW H bl) fun cl bs=>cu (aO E f cl) fun r=>k r (if bJ r=true then cJ.looks bs else cJ.marks bs):=by unfold iD;rw[h,fR]
theorem jx{st:Bool}{f:Nat}{bl:List AV}{k:AV->cJ->Prop}(h:cg E f=true):iD E false st f bl H k=oI (cL E f bl H) fun r H'=>k r (.vK H'):=by
 unfold iD;rw[h,jt]
 simp only[Bool.false_and,Bool.and_false,fR]
theorem Il{f:Nat}{bl:List AV}{k:AV->cJ->Prop}(h:cg E f=true)(h2:vf E f=false):iD E true true f bl H k=oI (cL E f bl H) fun r H'=>pK (!oO H H') False (k r (.vK H')):=by
 unfold iD;rw[h,jt,h2]
 simp only[Bool.false_and,fR,Bool.true_and]
theorem ZN{H':Hp}:(cJ.vK H').app H=H':=rfl
theorem qz{o:Oper}(hg:o.guard=none)(hl:ck E o=false):bS E true false ops (o::rest) aM ts H l q=de E true o aM ts H fun v e=>bS E true false ops rest aM (bQ o.dst v ts) (e.app H) l q:=by rw[bS];rw[if_pos (show fZ ops ts o=true by unfold fZ;rw[hg])];simp[hl]
theorem Vo{o:Oper}(hg:o.guard=none)(hl:ck E o=true):bS E true false ops (o::rest) aM ts H l q=(lK H[aM]?=true/\de E true o aM ts H fun v e=>bS E true false ops rest (aM+1) (bQ o.dst v ts) (e.app H) l q):=by rw[bS];rw[if_pos (show fZ ops ts o=true by unfold fZ;rw[hg])];simp[hl]
theorem aaf{op:Op}{j:Nat}{want:Bool}:bS E true false ops (⟨d,op,t,p,af,some (j,want)⟩::rest) aM ts H l q=
  pK (tb ops ts j want) (bS E true false ops (⟨d,op,t,p,af,none⟩::rest) aM ts H l q)
   (pK (ck E ⟨d,op,t,p,af,none⟩) (lK H[aM]?=true/\bS E true false ops rest (aM+1) (bQ d aX ts) H l q) (bS E true false ops rest aM (bQ d aX ts) H l q)):=by
 have hg:tb ops ts j want=fZ ops ts ⟨d,op,t,p,af,some (j,want)⟩:=by
  unfold tb fZ;simp only;cases NX ops j with
  |none=>rfl
  |some dj=>
   simp only;unfold gt;cases h:ts[dj]? with
   |none=>cases want<;>simp[Gy,aX]
   |some v=>cases v<;>simp[Gy]
 have hl:ck E ⟨d,op,t,p,af,some (j,want)⟩=ck E ⟨d,op,t,p,af,none⟩:=rfl;rw[hg];rw[bS];cases hw:fZ ops ts ⟨d,op,t,p,af,some (j,want)⟩with
 |true=>
  rw[jt,bS];rw[if_pos (show fZ ops ts ⟨d,op,t,p,af,none⟩=true from rfl)];simp only[hl,if_true];rfl
 |false=>
  rw[fR];simp only[hl,aLs,if_false,if_true,true_and,forall_const];cases ck E ⟨d,op,t,p,af,none⟩<;>simp[pK]
theorem agK{x:Operand}:bS E true false ops (⟨d,.move x,t,p,af,none⟩::rest) aM ts H l q=cu (ch ts x) fun v=>bS E true false ops rest aM (bQ d v ts) H l q:=by
 rw[qz rfl rfl];simp only[de,eN];cases ch ts x<;>rfl
theorem Vq{x:Operand}:bS E true false ops (⟨d,.assign x,t,p,af,none⟩::rest) aM ts H l q=cu (ch ts x) fun v=>bS E true false ops rest aM (bQ d v ts) H l q:=by
 rw[qz rfl rfl];simp only[de,eN];cases ch ts x<;>rfl
theorem agL{c a b:Operand}:bS E true false ops (⟨d,.pick c a b,t,p,af,none⟩::rest) aM ts H l q=cu (yw (ch ts c) (ch ts a) (ch ts b)) fun v=>bS E true false ops rest aM (bQ d v ts) H l q:=by
 rw[qz rfl rfl];simp only[de,eN,yw];cases hc:ch ts c with
 |none=>rfl
 |some v=>
  cases v<;>try rfl
  rename_i z;cases z
  ·simp only[aLs,if_false];cases ch ts b<;>rfl
  ·simp only[if_true];cases ch ts a<;>rfl
theorem agJ{t1:Nat}{x:Operand}:bS E true false ops (⟨d,.load t1 x,t,p,af,none⟩::rest) aM ts H l q=cu (ch ts x) fun a=>cu (gl E H t1 a) fun v=>bS E true false ops rest aM (bQ d v ts) H l q:=by
 rw[qz rfl rfl];simp only[de,eN];cases ch ts x with
 |none=>rfl
 |some a=>
  simp only[aP];cases gl E H t1 a<;>rfl
theorem aah{t1:Nat}{x y:Operand}:bS E true false ops (⟨none,.store t1 x y,t,p,af,none⟩::rest) aM ts H l q=cu (ch ts x) fun a=>cu (ch ts y) fun v=>AJ (iC E H t1 a v) fun s=>bS E true false ops rest aM ts ((cJ.bM (s)).app H) l q:=by
 rw[qz rfl rfl];simp only[de,eN];cases ch ts x with
 |none=>rfl
 |some a=>
  simp only[aP];cases ch ts y with
  |none=>rfl
  |some v=>
   simp only[aP];cases iC E H t1 a v<;>rfl
theorem ams{op:BinOp}{t1 t2:Nat}{x y:Operand}:bS E true false ops (⟨d,.binOp op t1 x y t2,t,p,af,none⟩::rest) aM ts H l q=cu (ch ts x) fun a=>cu (ch ts y) fun b=>cu (dy E (bK x||bK y) op t1 a b) fun v=>bS E true false ops rest aM (bQ d v ts) H l q:=by
 rw[qz rfl rfl];simp only[de,eN];cases ch ts x with
 |none=>rfl
 |some a=>
  simp only[aP];cases ch ts y with
  |none=>rfl
  |some b=>
   simp only[aP];cases dy E (bK x||bK y) op t1 a b<;>rfl
theorem auX{op:UnOp}{t1:Nat}{x:Operand}:bS E true false ops (⟨d,.unOp op t1 x,t,p,af,none⟩::rest) aM ts H l q=cu (ch ts x) fun a=>cu (YP op a) fun v=>bS E true false ops rest aM (bQ d v ts) H l q:=by
 rw[qz rfl rfl];simp only[de,eN];cases ch ts x with
 |none=>rfl
 |some a=>
  simp only[aP];cases YP op a<;>rfl
theorem auV{t1 f:Nat}{x:Operand}:bS E true false ops (⟨d,.fieldAddr t1 x f,t,p,af,none⟩::rest) aM ts H l q=cu (ch ts x) fun a=>cu (dx E t1 a f) fun v=>bS E true false ops rest aM (bQ d v ts) H l q:=by
 rw[qz rfl rfl];simp only[de,eN];cases ch ts x with
 |none=>rfl
 |some a=>
  simp only[aP];cases dx E t1 a f<;>rfl
theorem auW{t1:Nat}{x y:Operand}:bS E true false ops (⟨d,.indexAddr t1 x y,t,p,af,none⟩::rest) aM ts H l q=cu (ch ts x) fun a=>cu (ch ts y) fun b=>cu (cI E t1 a b) fun v=>bS E true false ops rest aM (bQ d v ts) H l q:=by
 rw[qz rfl rfl];simp only[de,eN];cases ch ts x with
 |none=>rfl
 |some a=>
  simp only[aP];cases ch ts y with
  |none=>rfl
  |some b=>
   simp only[aP];cases cI E t1 a b<;>rfl
theorem RR{i:Nat}{x:Operand}:bS E true false ops (⟨d,.extract x i,t,p,af,none⟩::rest) aM ts H l q=cu (ch ts x) fun a=>cu (nth a i) fun v=>bS E true false ops rest aM (bQ d v ts) H l q:=by
 rw[qz rfl rfl];simp only[de,eN];cases ch ts x with
 |none=>rfl
 |some a=>
  simp only[aP];cases a<;>try rfl
  rename_i vs;simp only[nth];cases vs[i]?<;>rfl
theorem aae{t1:Nat}{ps:Array (Nat×Operand)}:bS E true false ops (⟨d,.build t1 ps,t,p,af,none⟩::rest) aM ts H l q=AK (xH ts ps.toList) fun vs=>cu (iJ E t1 vs) fun v=>bS E true false ops rest aM (bQ d v ts) H l q:=by
 rw[qz rfl rfl];simp only[de,eN,iJ];cases xH ts ps.toList with
 |none=>cases gQ E t1<;>cases (E.ty t1).bind (·.zero)<;>rfl
 |some vs=>
  cases gQ E t1 with
  |none=>rfl
  |some pl=>
   cases (E.ty t1).bind (·.zero)with
   |none=>rfl
   |some z=>simp only[hJ];cases hZ pl z vs<;>rfl
theorem IN{t1 len:Nat}{ps:Array (Nat×Operand)}:bS E true false ops (⟨d,.buildSlice t1 len ps,t,p,af,none⟩::rest) aM ts H l q=(lK H[aM]?=true/\AK (xH ts ps.toList) fun vs=>sE (aW E aM t1 len vs) fun r=>bS E true false ops rest (aM+1) (bQ d r.1 ts) ((cJ.bM r.2).app H) l q):=by
 rw[Vo rfl rfl];congr 1;simp only[de,eN,aW];cases xH ts ps.toList with
 |none=>
  cases E.ty t1 with
  |none=>rfl
  |some i=>
   obtain⟨cS,isAgg,size,bytes,zero,eQ⟩:=i;cases cS<;>try rfl
   rename_i e;simp only;cases E.ty e with
   |none=>rfl
   |some ei=>simp only;cases ei.zero<;>rfl
 |some vs=>
  simp only[hJ];cases E.ty t1 with
  |none=>rfl
  |some i=>
   obtain⟨cS,isAgg,size,bytes,zero,eQ⟩:=i;cases cS<;>try rfl
   rename_i e;simp only;cases E.ty e with
   |none=>rfl
   |some ei=>
    simp only;cases ei.zero with
    |none=>rfl
    |some z=>
     simp only
     split
     ·cases hZ (fun i=>some (i*ei.size,ei.size)) (iG z len) vs<;>rfl
     ·rfl
theorem amt{args:Array Operand}{eg:Array Nat}:bS E true false ops (⟨d,.call {callee:=.builtin .len,args:=args,argTypes:=eg},t,p,af,none⟩::rest) aM ts H l q=oP (nL ts args.toList) fun al=>sE (aZ E H aM .len eg.toList al) fun r=>bS E true false ops rest aM (bQ d r.1 ts) ((cJ.bM r.2).app H) l q:=by
 rw[qz rfl rfl];simp only[de,eN];cases nL ts args.toList with
 |none=>rfl
 |some al=>simp only[b8];cases aZ E H aM .len eg.toList al<;>rfl
theorem Vp{args:Array Operand}{eg:Array Nat}:bS E true false ops (⟨d,.call {callee:=.builtin .append,args:=args,argTypes:=eg},t,p,af,none⟩::rest) aM ts H l q=(lK H[aM]?=true/\oP (nL ts args.toList) fun al=>sE (aZ E H aM .append eg.toList al) fun r=>bS E true false ops rest (aM+1) (bQ d r.1 ts) ((cJ.bM r.2).app H) l q):=by
 rw[Vo rfl rfl];congr 1;simp only[de,eN];cases nL ts args.toList with
 |none=>rfl
 |some al=>simp only[b8];cases aZ E H aM .append eg.toList al<;>rfl
theorem aag{t1:Nat}{x:Operand}{lo hi:Option Operand}:bS E true false ops (⟨d,.slice t1 x lo hi none,t,p,af,none⟩::rest) aM ts H l q=cu (ch ts x) fun a=>CA (jc ts lo) fun b=>CA (jc ts hi) fun c=>cu (AE E H t1 a b c) fun v=>bS E true false ops rest aM (bQ d v ts) H l q:=by
 rw[qz rfl rfl];simp only[de,eN,AE];cases ch ts x with
 |none=>rfl
 |some a=>
  cases jc ts lo with
  |none=>rfl
  |some b=>
   cases jc ts hi with
   |none=>rfl
   |some c=>
    simp only[aP,xt];cases E.ty t1 with
    |none=>simp only;cases iM E t1 a b c<;>rfl
    |some i=>
     obtain⟨cS,isAgg,size,bytes,zero,eQ⟩:=i;cases cS<;>simp only<;>first|(cases jw E H t1 a b c<;>rfl)|(cases iM E t1 a b c<;>rfl)
theorem amu{x:Operand}:bS E true false ops (⟨d,.nilCheck x,t,p,af,none⟩::rest) aM ts H l q=cu (ch ts x) fun a=>cu (LP a) fun v=>bS E true false ops rest aM (bQ d v ts) H l q:=by
 rw[qz rfl rfl];simp only[de,eN,LP];cases ch ts x with
 |none=>rfl
 |some a=>cases a<;>rfl
theorem D0{s1 d1:Nat}{k0 k':IntKind}{x:Operand}(hs:je E s1=some k0)(hd:je E d1=some k'):bS E true false ops (⟨d,.convert s1 d1 x,t,p,af,none⟩::rest) aM ts H l q=cu (ch ts x) fun a=>cu (toK k' a) fun v=>bS E true false ops rest aM (bQ d v ts) H l q:=by
 rw[qz rfl (Hd hs hd)];simp only[de,eN];unfold je at hs hd;cases h1:E.ty s1 with
 |none=>rw[h1]at hs;cases hs
 |some si=>
  cases h2:E.ty d1 with
  |none=>rw[h2]at hd;cases hd
  |some di=>
   rw[h1]at hs;rw[h2]at hd;obtain⟨cS,isAgg,size,bytes,zero,eQ⟩:=si;obtain⟨YR,WM,afB,US,afM,aej⟩:=di;cases cS<;>first|(cases hs;done)|skip
   cases YR<;>first|(cases hd;done)|skip
   simp only[Option.some.injEq]at hd;subst hd;cases ch ts x with
   |none=>rfl
   |some v=>cases v<;>simp[GH,h1,h2,toK,cu,FN,qK]
theorem agI{x:Operand}{args:Array Operand}{eg:Array Nat}:bS E true false ops (⟨d,.call {callee:=.value x,args:=args,argTypes:=eg},t,p,af,none⟩::rest) aM ts H l q=cu (ch ts x) fun fv=>oP (nL ts args.toList) fun al=>Ds fv al fun f bl=>iD E true (pU x) f bl H fun r e=>bS E true false ops rest aM (bQ d r ts) (e.app H) l q:=by
 rw[qz rfl rfl];simp only[de];cases ch ts x with
 |none=>rfl
 |some fv=>
  cases nL ts args.toList with
  |none=>cases fv<;>rfl
  |some al=>
   cases fv<;>try rfl
   rename_i f a c;simp only[aP,b8,xq,IE]
theorem ajU{x:Operand}{e:cJ}:bI E ts ⟨d,.move x,t,p,af,none⟩ e=([],[]):=rfl
theorem Yr{x:Operand}{e:cJ}:bI E ts ⟨d,.assign x,t,p,af,none⟩ e=([],[]):=rfl
theorem ajV{a b c:Operand}{e:cJ}:bI E ts ⟨d,.pick a b c,t,p,af,none⟩ e=([],[]):=rfl
theorem arN{op:BinOp}{t1 t2:Nat}{x y:Operand}{e:cJ}:bI E ts ⟨d,.binOp op t1 x y t2,t,p,af,none⟩ e=([],[]):=rfl
theorem azb{op:UnOp}{t1:Nat}{x:Operand}{e:cJ}:bI E ts ⟨d,.unOp op t1 x,t,p,af,none⟩ e=([],[]):=rfl
theorem ay9{t1 f:Nat}{x:Operand}{e:cJ}:bI E ts ⟨d,.fieldAddr t1 x f,t,p,af,none⟩ e=([],[]):=rfl
theorem adg{t1 f:Nat}{x:Operand}{e:cJ}:bI E ts ⟨d,.field t1 x f,t,p,af,none⟩ e=([],[]):=rfl
theorem aza{t1:Nat}{x y:Operand}{e:cJ}:bI E ts ⟨d,.indexAddr t1 x y,t,p,af,none⟩ e=([],[]):=rfl
theorem adh{t1:Nat}{x y:Operand}{e:cJ}:bI E ts ⟨d,.index t1 x y,t,p,af,none⟩ e=([],[]):=rfl
theorem Tt{i:Nat}{x:Operand}{e:cJ}:bI E ts ⟨d,.extract x i,t,p,af,none⟩ e=([],[]):=rfl
theorem ade{t1:Nat}{ps:Array (Nat×Operand)}{e:cJ}:bI E ts ⟨d,.build t1 ps,t,p,af,none⟩ e=([],[]):=rfl
theorem arT{t1:Nat}{x:Operand}{e:cJ}:bI E ts ⟨d,.sliceToArrayPointer t1 x,t,p,af,none⟩ e=([],[]):=rfl
theorem arS{x:Operand}{e:cJ}:bI E ts ⟨d,.nilCheck x,t,p,af,none⟩ e=([],[]):=rfl
theorem PN{f:Go.Fn}{first cap:Array Operand}{e:cJ}:bI E ts ⟨d,.makeFunc f first cap,t,p,af,none⟩ e=([],[]):=rfl
theorem arQ{args:Array Operand}{eg:Array Nat}{e:cJ}:bI E ts ⟨d,.call {callee:=.builtin .max,args:=args,argTypes:=eg},t,p,af,none⟩ e=([],[]):=rfl
theorem arR{args:Array Operand}{eg:Array Nat}{e:cJ}:bI E ts ⟨d,.call {callee:=.builtin .min,args:=args,argTypes:=eg},t,p,af,none⟩ e=([],[]):=rfl
theorem ajT{t1:Nat}{x:Operand}{s:List (Nat×cG)}:bI E ts ⟨d,.load t1 x,t,p,af,none⟩ (.bM s)=(Gj ts [x],s.map (·.1)):=rfl
theorem Yt{t1:Nat}{x y:Operand}{ok:Bool}{s:List (Nat×cG)}:bI E ts ⟨d,.lookup t1 x y ok,t,p,af,none⟩ (.bM s)=(Gj ts [x,y],s.map (·.1)):=rfl
theorem adi{t1:Nat}{x y:Operand}{s:List (Nat×cG)}:bI E ts ⟨d,.store t1 x y,t,p,af,none⟩ (.bM s)=(Gj ts [x,y],s.map (·.1)):=rfl
theorem adb{t1:Nat}{s:List (Nat×cG)}:bI E ts ⟨d,.alloc t1,t,p,af,none⟩ (.bM s)=(Gj ts [],s.map (·.1)):=rfl
theorem arO{t1:Nat}{x:Operand}{s:List (Nat×cG)}:bI E ts ⟨d,.box t1 x,t,p,af,none⟩ (.bM s)=(Gj ts [x],s.map (·.1)):=rfl
theorem MA{t1:Nat}{x y:Operand}{s:List (Nat×cG)}:bI E ts ⟨d,.makeSlice t1 x y,t,p,af,none⟩ (.bM s)=(Gj ts [x,y],s.map (·.1)):=rfl
theorem MB{t1:Nat}{x y z:Operand}{s:List (Nat×cG)}:bI E ts ⟨d,.mapUpdate t1 x y z,t,p,af,none⟩ (.bM s)=(Gj ts [x,y,z],s.map (·.1)):=rfl
theorem Ys{t1:Nat}{x y z:Operand}{s:List (Nat×cG)}:bI E ts ⟨d,.insert t1 x y z,t,p,af,none⟩ (.bM s)=(Gj ts [x,y,z],s.map (·.1)):=rfl
theorem arP{args:Array Operand}{eg:Array Nat}{s:List (Nat×cG)}:bI E ts ⟨d,.call {callee:=.builtin .len,args:=args,argTypes:=eg},t,p,af,none⟩ (.bM s)=(Gj ts args.toList,s.map (·.1)):=by
 unfold bI;simp only[jG,lf,Op.operands,Call.operands,Gj]
 simp
 rfl
theorem Yq{args:Array Operand}{eg:Array Nat}{s:List (Nat×cG)}:bI E ts ⟨d,.call {callee:=.builtin .append,args:=args,argTypes:=eg},t,p,af,none⟩ (.bM s)=(Gj ts args.toList,s.map (·.1)):=by
 unfold bI;simp only[jG,lf,Op.operands,Call.operands,Gj]
 simp
 rfl
theorem JK{t1 len:Nat}{ps:Array (Nat×Operand)}{s:List (Nat×cG)}:bI E ts ⟨d,.buildSlice t1 len ps,t,p,af,none⟩ (.bM s)=(Gj ts (ps.toList.map (·.2)),s.map (·.1)):=rfl
theorem ajR{x:Operand}{args:Array Operand}{eg:Array Nat}{r:Bool}{bs:List Nat}:bI E ts ⟨d,.call {callee:=.value x,args:=args,argTypes:=eg},t,p,af,none⟩ (if r=true then cJ.looks bs else cJ.marks bs)=(bs,[]):=by
 have h:jG E ⟨d,.call {callee:=.value x,args:=args,argTypes:=eg},t,p,af,none⟩=.r∨jG E ⟨d,.call {callee:=.value x,args:=args,argTypes:=eg},t,p,af,none⟩=.w:=by
  unfold jG;simp only;cases x with
  |func f=>
   simp only
   split<;>first|exact .inl rfl|exact .inr rfl
  |_=>exact .inr rfl
 unfold bI;rcases h with h|h<;>rw[h]<;>cases r<;>rfl
theorem adf{x:Operand}{args:Array Operand}{eg:Array Nat}{H':Hp}:bI E ts ⟨d,.call {callee:=.value x,args:=args,argTypes:=eg},t,p,af,none⟩ (.vK H')=([],[]):=by
 unfold bI
 split<;>rfl
theorem aka{x:Operand}{g:Option (Nat×Bool)}:ck E ⟨d,.move x,t,p,af,g⟩=false:=rfl
theorem Y8{x:Operand}{g:Option (Nat×Bool)}:ck E ⟨d,.assign x,t,p,af,g⟩=false:=rfl
theorem akb{a b c:Operand}{g:Option (Nat×Bool)}:ck E ⟨d,.pick a b c,t,p,af,g⟩=false:=rfl
theorem ar5{op:BinOp}{t1 t2:Nat}{x y:Operand}{g:Option (Nat×Bool)}:ck E ⟨d,.binOp op t1 x y t2,t,p,af,g⟩=false:=rfl
theorem azs{op:UnOp}{t1:Nat}{x:Operand}{g:Option (Nat×Bool)}:ck E ⟨d,.unOp op t1 x,t,p,af,g⟩=false:=rfl
theorem azq{t1 f:Nat}{x:Operand}{g:Option (Nat×Bool)}:ck E ⟨d,.fieldAddr t1 x f,t,p,af,g⟩=false:=rfl
theorem adE{t1 f:Nat}{x:Operand}{g:Option (Nat×Bool)}:ck E ⟨d,.field t1 x f,t,p,af,g⟩=false:=rfl
theorem azr{t1:Nat}{x y:Operand}{g:Option (Nat×Bool)}:ck E ⟨d,.indexAddr t1 x y,t,p,af,g⟩=false:=rfl
theorem adF{t1:Nat}{x y:Operand}{g:Option (Nat×Bool)}:ck E ⟨d,.index t1 x y,t,p,af,g⟩=false:=rfl
theorem TM{i:Nat}{x:Operand}{g:Option (Nat×Bool)}:ck E ⟨d,.extract x i,t,p,af,g⟩=false:=rfl
theorem adD{t1:Nat}{ps:Array (Nat×Operand)}{g:Option (Nat×Bool)}:ck E ⟨d,.build t1 ps,t,p,af,g⟩=false:=rfl
theorem asb{t1:Nat}{x:Operand}{g:Option (Nat×Bool)}:ck E ⟨d,.sliceToArrayPointer t1 x,t,p,af,g⟩=false:=rfl
theorem asa{x:Operand}{g:Option (Nat×Bool)}:ck E ⟨d,.nilCheck x,t,p,af,g⟩=false:=rfl
theorem PY{f:Go.Fn}{first cap:Array Operand}{g:Option (Nat×Bool)}:ck E ⟨d,.makeFunc f first cap,t,p,af,g⟩=false:=rfl
theorem ar8{args:Array Operand}{eg:Array Nat}{g:Option (Nat×Bool)}:ck E ⟨d,.call {callee:=.builtin .max,args:=args,argTypes:=eg},t,p,af,g⟩=false:=rfl
theorem ar9{args:Array Operand}{eg:Array Nat}{g:Option (Nat×Bool)}:ck E ⟨d,.call {callee:=.builtin .min,args:=args,argTypes:=eg},t,p,af,g⟩=false:=rfl
theorem ar7{args:Array Operand}{eg:Array Nat}{g:Option (Nat×Bool)}:ck E ⟨d,.call {callee:=.builtin .len,args:=args,argTypes:=eg},t,p,af,g⟩=false:=rfl
theorem aj7{x:Operand}{args:Array Operand}{eg:Array Nat}{g:Option (Nat×Bool)}:ck E ⟨d,.call {callee:=.value x,args:=args,argTypes:=eg},t,p,af,g⟩=false:=rfl
theorem aj9{t1:Nat}{x:Operand}{g:Option (Nat×Bool)}:ck E ⟨d,.load t1 x,t,p,af,g⟩=false:=rfl
theorem Za{t1:Nat}{x y:Operand}{ok:Bool}{g:Option (Nat×Bool)}:ck E ⟨d,.lookup t1 x y ok,t,p,af,g⟩=false:=rfl
theorem adH{t1:Nat}{x y:Operand}{g:Option (Nat×Bool)}:ck E ⟨d,.store t1 x y,t,p,af,g⟩=false:=rfl
theorem MR{t1:Nat}{x y z:Operand}{g:Option (Nat×Bool)}:ck E ⟨d,.mapUpdate t1 x y z,t,p,af,g⟩=false:=rfl
theorem Y9{t1:Nat}{x y z:Operand}{g:Option (Nat×Bool)}:ck E ⟨d,.insert t1 x y z,t,p,af,g⟩=false:=rfl
theorem adG{t1:Nat}{x:Operand}{lo hi mx:Option Operand}{g:Option (Nat×Bool)}:ck E ⟨d,.slice t1 x lo hi mx,t,p,af,g⟩=false:=rfl
theorem adC{t1:Nat}{g:Option (Nat×Bool)}:ck E ⟨d,.alloc t1,t,p,af,g⟩=true:=rfl
theorem ar6{t1:Nat}{x:Operand}{g:Option (Nat×Bool)}:ck E ⟨d,.box t1 x,t,p,af,g⟩=true:=rfl
theorem MQ{t1:Nat}{x y:Operand}{g:Option (Nat×Bool)}:ck E ⟨d,.makeSlice t1 x y,t,p,af,g⟩=true:=rfl
theorem Y7{args:Array Operand}{eg:Array Nat}{g:Option (Nat×Bool)}:ck E ⟨d,.call {callee:=.builtin .append,args:=args,argTypes:=eg},t,p,af,g⟩=true:=rfl
theorem JW{t1 len:Nat}{ps:Array (Nat×Operand)}{g:Option (Nat×Bool)}:ck E ⟨d,.buildSlice t1 len ps,t,p,af,g⟩=true:=rfl
theorem TN{t1:Nat}{r0:Option Operand}{g:Option (Nat×Bool)}:ck E ⟨d,.makeMap t1 r0,t,p,af,g⟩=true:=rfl
theorem abt:lK (some dV)=true:=rfl
theorem NP:qj E []=0:=rfl
theorem Ky{o:Oper}{l:List Oper}:qj E (o::l)=Uw (ck E o) (qj E l):=rfl
theorem acH:wY 0=[]:=rfl
theorem acI{n:Nat}:wY (n+1)=dV::wY n:=rfl
theorem yS{s1 d1:Nat}{k0 k':IntKind}{x:Operand}{g:Option (Nat×Bool)}(hs:je E s1=some k0)(hd:je E d1=some k'):ck E ⟨d,.convert s1 d1 x,t,p,af,g⟩=false:=Hd (af:=af) (p:=p) (t:=t) (d:=d) (x:=x) hs hd
end
class atS where
 q:Ex->List AV->Hp->Prop
def CvB(E:Env)(c:Code)(ts:List AV)(H:Hp) [b:atS]:Prop:=Cv E c ts H b.q
class atQ where
 I:Nat->List AV->Hp->Prop
 k:Nat
def adS(ts:List AV)(H:Hp) [b:atQ]:Prop:=∃k',k'<b.k/\b.I k' ts H
def V(E:Env):Code->List AV->Hp->(Ex->List AV->Hp->Prop)->Prop
 |.skip,ts,H,Q=>Q .normal ts H
 |.exit id,ts,H,Q=>Q (.exit id) ts H
 |.ret,ts,H,Q=>Q .ret ts H
 |.seq a b,ts,H,Q=>V E a ts H (zg (fun ts H=>V E b ts H Q) Q)
 |.block id a,ts,H,Q=>V E a ts H (qg id Q)
 |.cond c a b,ts,H,Q=>cu (ch ts c) fun v=>yZ v (V E a ts H Q) (V E b ts H Q)
 |.region id ops false,ts,H,Q=>bS E false false (vF ops.toList) ops.toList 0 ts H [] (fun ts H _=>Q .normal ts H)
 |.region id ops true,ts,H,Q=>pK (E.pairs id ops.toList.length).isEmpty (bS E true false (vF ops.toList) ops.toList H.length ts (H++wY (qj E ops.toList)) [] (fun ts H _=>Q .normal ts H)) (bS E true true (vF ops.toList) ops.toList H.length ts (H++wY (qj E ops.toList)) [] (fun ts H l=>(E.pairs id ops.toList.length).all (uS l.reverse)=true/\Q .normal ts H))
 |c,ts,H,Q=>Cv E c ts H Q
theorem V.cv{E:Env}:∀{c:Code} {ts:List AV} {H:Hp} {Q:Ex->List AV->Hp->Prop},V E c ts H Q->Cv E c ts H Q
 |.skip,_,_,_,h=>Cv.skip h
 |.exit _,_,_,_,h=>Cv.exit h
 |.ret,_,_,_,h=>Cv.ret h
 |.seq a b,ts,H,Q,h=>by
  refine Cv.seq ?_
  have:=V.cv (c:=a) h
  refine this.mono ?_;intro ex df H' k;cases ex with
  |normal=>exact V.cv (c:=b) k
  |ret=>exact k
  |exit id=>exact k
 |.block id a,ts,H,Q,h=>by
  refine Cv.block ?_;refine(V.cv (c:=a) h).mono ?_;intro ex df H' k;cases ex<;>exact k
 |.cond c a b,ts,H,Q,h=>by
  unfold V at h;cases hc:ch ts c with
  |none=>rw[hc]at h;exact h.elim
  |some v=>
   rw[hc,aP]at h;cases v<;>try exact h.elim
   rename_i z;refine Cv.cond hc ?_;rw[eG]at h;cases z
   ·simp only[aLs,if_false]at h⊢;exact V.cv h
   ·simp only[if_true]at h⊢;exact V.cv h
 |.region id ops false,_,_,_,h=>Cv.ay2 h
 |.region id ops true,ts,H,Q,h=>by
  unfold V at h;cases hp:(E.pairs id ops.toList.length).isEmpty with
  |true=>rw[hp,jt]at h;exact Cv.arx (List.isEmpty_iff.1 hp) h
  |false=>rw[hp,fR]at h;exact Cv.arw h
 |.loop _,_,_,_,h=>h
 |.label _,_,_,_,h=>h
 |.scope _,_,_,_,h=>h
 |.rangeFunc ..,_,_,_,h=>h
 |.goto _,_,_,_,h=>h
 |.refuse _,_,_,_,h=>h
section
variable{E:Env}{ts:List AV}{H:Hp}{Q:Ex->List AV->Hp->Prop}
@[congr] theorem ass {c:Code} {ts df:List AV} {H H':Hp} (h1:ts=df) (h2:H=H'):V E c ts H Q=V E c df H' Q:=by rw[h1,h2]
end
def y9(I:Nat->List AV->Hp->Prop)(k:Nat)(Q:Ex->List AV->Hp->Prop)(ex:Ex)(ts:List AV)(H:Hp):Prop:=match ex with
 |.normal=>∃k',k'<k/\I k' ts H
 |e=>Q e ts H
@[congr] theorem adR {I:Nat->List AV->Hp->Prop} {k:Nat} {Q:Ex->List AV->Hp->Prop} {ex ex':Ex} {ts df:List AV} {H H':Hp} (h:ex=ex') (h1:ts=df) (h2:H=H'):y9 I k Q ex ts H=y9 I k Q ex' df H':=by rw[h,h1,h2]
theorem jz{I:Nat->List AV->Hp->Prop}{k:Nat}{Q:Ex->List AV->Hp->Prop}{ts:List AV}{H:Hp}:y9 I k Q .normal ts H=∃k',k'<k/\I k' ts H:=rfl
theorem jy{I:Nat->List AV->Hp->Prop}{k id:Nat}{Q:Ex->List AV->Hp->Prop}{ts:List AV}{H:Hp}:y9 I k Q (.exit id) ts H=Q (.exit id) ts H:=rfl
theorem He{E:Env}{body:Code}{Q:Ex->List AV->Hp->Prop}(I:Nat->List AV->Hp->Prop)(k:Nat)(K7:∀k ts H,I k ts H->W E body ts H (y9 I k Q)){ts:List AV}{H:Hp}(h:I k ts H):Cv E (.loop body) ts H Q:=by
 refine Cv.loop I ?_ k ts H h;intro k ts H hi;refine(W.cv (K7 k ts H hi)).mono ?_;intro ex df H' q;cases ex<;>exact q
theorem fh{E:Env}{body:Code}{Q:Ex->List AV->Hp->Prop}(I:Nat->List AV->Hp->Prop)(k:Nat)(K7:∀k ts H,I k ts H->V E body ts H (y9 I k Q)){ts:List AV}{H:Hp}(h:I k ts H):@CvB E (.loop body) ts H ⟨Q⟩:=by
 show Cv E (.loop body) ts H Q
 refine Cv.loop I ?_ k ts H h;intro k ts H hi;refine(V.cv (K7 k ts H hi)).mono ?_;intro ex df H' q;cases ex<;>exact q
theorem dO{I:Nat->List AV->Hp->Prop}{k:Nat}{ts:List AV}{H:Hp}(h:∃k',k'<k/\I k' ts H):@adS ts H ⟨I,k⟩:=h
def Un(E:Env)(body:Code):Nat->List AV->Hp->(Ex->List AV->Hp->Prop)->Prop
 |0,_,_,_=>False
 |n+1,ts,H,Q=>V E body ts H (zg (fun ts H=>Un E body n ts H Q) Q)
@[congr] theorem ak9 {E:Env} {body:Code} {n:Nat} {ts df:List AV} {H H':Hp} {Q:Ex->List AV->Hp->Prop} (h1:ts=df) (h2:H=H'):Un E body n ts H Q=Un E body n df H' Q:=by rw[h1,h2]
theorem Rn{E:Env}{body:Code}{Q:Ex->List AV->Hp->Prop}:∀(n:Nat) {ts:List AV} {H:Hp},Un E body n ts H Q->Cv E (.loop body) ts H Q
 |0,_,_,h=>h.elim
 |n+1,ts,H,h=>by
  refine Cv.round ?_;refine(V.cv h).mono ?_;intro ex df H' k;cases ex with
  |normal=>exact Rn n k
  |ret=>exact k
  |exit id=>exact k
theorem gb{E:Env}{body:Code}{Q:Ex->List AV->Hp->Prop}(n:Nat){ts:List AV}{H:Hp}(h:Un E body n ts H Q):@CvB E (.loop body) ts H ⟨Q⟩:=Rn n h
theorem Ef{E:Env}{f:Nat}{code:Code}{nt:Nat}{results:List ResultVar}{pu du:Bool}{args:List AV}{G:AV->Prop}(mG:E.ov f args=none)(jj:E.fn f=some {code:=code,ntmps:=nt,results:=results,pure:=pu,eX:=du})(hp:pu=true)
  (h:V E code (args++List.replicate (nt-args.length) aX) [] (mS E results G)):∃r,aO E f args=some r/\G r:=by
 have:∃r,mw E f args r/\G r:=by
  refine DK mG jj hp ((V.cv h).mono ?_);intro ex ts H k;cases ex with
  |exit id=>exact k.elim
  |normal=>
   rw[Uq]at k;refine⟨fun id h=>(by cases h),?_⟩;show∃rs r bs,iU H E ts results=some rs/\_
   cases h1:iU H E ts results with
   |none=>rw[h1]at k;exact k.elim
   |some rs=>
    rw[h1,b8]at k;cases h2:bW H [kE rs]with
    |none=>rw[h2]at k;exact k.elim
    |some y=>
     obtain⟨rl,bs⟩:=y;rw[h2,dT]at k;obtain⟨r,rfl,g⟩:=k;exact⟨rs,r,bs,rfl,h2,g⟩
  |ret=>
   rw[kK]at k;refine⟨fun id h=>(by cases h),?_⟩;show∃rs r bs,iU H E ts results=some rs/\_
   cases h1:iU H E ts results with
   |none=>rw[h1]at k;exact k.elim
   |some rs=>
    rw[h1,b8]at k;cases h2:bW H [kE rs]with
    |none=>rw[h2]at k;exact k.elim
    |some y=>
     obtain⟨rl,bs⟩:=y;rw[h2,dT]at k;obtain⟨r,rfl,g⟩:=k;exact⟨rs,r,bs,rfl,h2,g⟩
 obtain⟨r,h1,h2⟩:=this;exact⟨r,ed h1,h2⟩
def vE(E:Env)(results:List ResultVar)(G:AV->Hp->Prop)(ex:Ex)(ts:List AV)(H:Hp):Prop:=match ex with
 |.exit _=>False
 |_=>oP (iU H E ts results) fun rs=>G (kE rs) H
theorem afU{E:Env}{results:List ResultVar}{G:AV->Hp->Prop}{ts:List AV}{H:Hp}:vE E results G .ret ts H=oP (iU H E ts results) fun rs=>G (kE rs) H:=rfl
theorem afT{E:Env}{results:List ResultVar}{G:AV->Hp->Prop}{ts:List AV}{H:Hp}:vE E results G .normal ts H=oP (iU H E ts results) fun rs=>G (kE rs) H:=rfl
@[congr] theorem afS {E:Env} {results:List ResultVar} {G:AV->Hp->Prop} {ex:Ex} {ts df:List AV} {H H':Hp} (h1:ts=df) (h2:H=H'):vE E results G ex ts H=vE E results G ex df H':=by rw[h1,h2]
theorem IU{E:Env}{f:Nat}{code:Code}{nt:Nat}{results:List ResultVar}{pu du:Bool}{args:List AV}{H:Hp}{G:AV->Hp->Prop}(mG:E.ud f args H=none)(jj:E.fn f=some {code:=code,ntmps:=nt,results:=results,pure:=pu,eX:=du})
  (h:V E code (args++List.replicate (nt-args.length) aX) H (vE E results G)):∃r H',cL E f args H=some (r,H')/\G r H':=by
 obtain⟨n,ex,ts,H',h1,h2⟩:=V.cv h;have key:∃rs,iU H' E ts results=some rs/\G (kE rs) H'/\∀id,ex≠ .exit id:=by
  cases ex with
  |exit id=>exact h2.elim
  |normal=>
   rw[afT]at h2;cases h3:iU H' E ts results with
   |none=>rw[h3]at h2;exact h2.elim
   |some rs=>rw[h3,b8]at h2;exact⟨rs,rfl,h2,fun id h=>(by cases h)⟩
  |ret=>
   rw[afU]at h2;cases h3:iU H' E ts results with
   |none=>rw[h3]at h2;exact h2.elim
   |some rs=>rw[h3,b8]at h2;exact⟨rs,rfl,h2,fun id h=>(by cases h)⟩
 obtain⟨rs,h3,h4,h5⟩:=key;refine⟨kE rs,H',AR ⟨n,?_⟩,h4⟩;unfold um vn;simp only[mG,jj,h1];cases ex with
 |exit id=>exact absurd rfl (h5 id)
 |normal=>simp only[h3,aNj]
 |ret=>simp only[h3,aNj]
section
variable{E:Env}{f:Nat}{code:Code}{nt:Nat}{results:List ResultVar}{pu du:Bool}{a b c e:AV}{G:AV->Prop}
theorem fv0(mG:E.ov f []=none)(jj:E.fn f=some {code:=code,ntmps:=nt,results:=results,pure:=pu,eX:=du})(hp:pu=true)
  (h:∀ts:List AV,ts.length=nt->V E code ts [] (mS E results G)):∃r,aO E f []=some r/\G r:=
 Ef mG jj hp (h _ (by simp))
theorem fv1(mG:E.ov f [a]=none)(jj:E.fn f=some {code:=code,ntmps:=nt,results:=results,pure:=pu,eX:=du})(hp:pu=true)(hn:1<=nt)
  (h:∀ts:List AV,ts.length=nt->gt ts 0=a->V E code ts [] (mS E results G)):∃r,aO E f [a]=some r/\G r:=
 Ef mG jj hp (h _ (by simp;omega) rfl)
theorem fv2(mG:E.ov f [a,b]=none)(jj:E.fn f=some {code:=code,ntmps:=nt,results:=results,pure:=pu,eX:=du})(hp:pu=true)(hn:2<=nt)
  (h:∀ts:List AV,ts.length=nt->gt ts 0=a->gt ts 1=b->V E code ts [] (mS E results G)):∃r,aO E f [a,b]=some r/\G r:=
 Ef mG jj hp (h _ (by simp;omega) rfl rfl)
theorem fv3(mG:E.ov f [a,b,c]=none)(jj:E.fn f=some {code:=code,ntmps:=nt,results:=results,pure:=pu,eX:=du})(hp:pu=true)(hn:3<=nt)
  (h:∀ts:List AV,ts.length=nt->gt ts 0=a->gt ts 1=b->gt ts 2=c->V E code ts [] (mS E results G)):∃r,aO E f [a,b,c]=some r/\G r:=
 Ef mG jj hp (h _ (by simp;omega) rfl rfl rfl)
theorem fv4(mG:E.ov f [a,b,c,e]=none)(jj:E.fn f=some {code:=code,ntmps:=nt,results:=results,pure:=pu,eX:=du})(hp:pu=true)(hn:4<=nt)
  (h:∀ts:List AV,ts.length=nt->gt ts 0=a->gt ts 1=b->gt ts 2=c->gt ts 3=e->V E code ts [] (mS E results G)):∃r,aO E f [a,b,c,e]=some r/\G r:=
 Ef mG jj hp (h _ (by simp;omega) rfl rfl rfl rfl)
end
section
variable{E:Env}{f:Nat}{code:Code}{nt:Nat}{results:List ResultVar}{pu du:Bool}{a b c e:AV}{H:Hp}{G:AV->Hp->Prop}
theorem fi1(mG:E.ud f [a] H=none)(jj:E.fn f=some {code:=code,ntmps:=nt,results:=results,pure:=pu,eX:=du})(hn:1<=nt)
  (h:∀ts:List AV,ts.length=nt->gt ts 0=a->V E code ts H (vE E results G)):∃r H',cL E f [a] H=some (r,H')/\G r H':=
 IU mG jj (h _ (by simp;omega) rfl)
theorem fi2(mG:E.ud f [a,b] H=none)(jj:E.fn f=some {code:=code,ntmps:=nt,results:=results,pure:=pu,eX:=du})(hn:2<=nt)
  (h:∀ts:List AV,ts.length=nt->gt ts 0=a->gt ts 1=b->V E code ts H (vE E results G)):∃r H',cL E f [a,b] H=some (r,H')/\G r H':=
 IU mG jj (h _ (by simp;omega) rfl rfl)
theorem fi3(mG:E.ud f [a,b,c] H=none)(jj:E.fn f=some {code:=code,ntmps:=nt,results:=results,pure:=pu,eX:=du})(hn:3<=nt)
  (h:∀ts:List AV,ts.length=nt->gt ts 0=a->gt ts 1=b->gt ts 2=c->V E code ts H (vE E results G)):∃r H',cL E f [a,b,c] H=some (r,H')/\G r H':=
 IU mG jj (h _ (by simp;omega) rfl rfl rfl)
theorem fi4(mG:E.ud f [a,b,c,e] H=none)(jj:E.fn f=some {code:=code,ntmps:=nt,results:=results,pure:=pu,eX:=du})(hn:4<=nt)
  (h:∀ts:List AV,ts.length=nt->gt ts 0=a->gt ts 1=b->gt ts 2=c->gt ts 3=e->V E code ts H (vE E results G)):∃r H',cL E f [a,b,c,e] H=some (r,H')/\G r H':=
 IU mG jj (h _ (by simp;omega) rfl rfl rfl rfl)
end
end Dv
