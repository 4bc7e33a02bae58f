/- A part of the proof that PairChecks returns true for every input; no condition of its own. -/
import Derived.Test.YtblnjkjjedanaaaGreatDoorTad
set_option linter.all false
set_option maxHeartbeats 100000000
set_option maxRecDepth 100000
open Bool renaming false_eq_true->aKT
open Option renaming map_some->aLT
namespace Dv
open Go Go.RowKit
def LG(ts:List AV)(l:List Operand):List Nat:=l.flatMap fun x=>match cn ts x with
 |some v=>fS v
 |none=>[]
def rt1:Option AV->List Nat
 |some v=>fS v
 |none=>[]
theorem aaT{ts:List AV}:LG ts []=[]:=rfl
theorem Y3{ts:List AV}{x:Operand}{l:List Operand}:LG ts (x::l)=rt1 (cn ts x)++LG ts l:=by unfold LG rt1;rw[List.flatMap_cons]
theorem Xl{v:AV}:rt1 (some v)=fS v:=rfl
theorem aaV{b o:Nat}:fS (.b9 b o)=[b]:=rfl
theorem Yl{b o n e k:Nat}:fS (.aI b o n e k)=[b]:=rfl
theorem X8{b:Nat}:fS (.jt b)=[b]:=rfl
def aT(E:Env)(aL t len:Nat)(vs:List (Nat×AV)):Option (AV×List (Nat×cz)):=match E.ty t with
 |some {cV:=.slice e,..}=>(match E.ty e with
  |some ei=>(match ei.zero with
   |some z=>if z.length=ei.size/\0<ei.size/\len*ei.size<=16777216 then
     (gV (fun i=>some (i*ei.size,ei.size)) (iE z len) vs).map fun cs=>(.aI aL 0 len ei.size len,[(aL,.cells .live cs)])
    else none
   |none=>none)
  |none=>none)
 |_=>none
def Ez(E:Env)(H:Hp)(t:Nat)(a:AV)(l h:Option AV):Option AV:=match E.ty t with
 |some {cV:=.array ..,..}=>jQ E H t a l h
 |_=>iS E t a l h
def D4(x:Option (Option AV))(k:Option AV->Prop):Prop:=match x with
 |some v=>k v
 |none=>False
theorem xF{v:Option AV}{k:Option AV->Prop}:D4 (some v) k=k v:=rfl
@[congr] theorem ajF {a b:Option (Option AV)} {k:Option AV->Prop} (h:a=b):D4 a k=D4 b k:=by rw[h]
def ZJ(x:Option AV):Option (Option AV):=match x with
 |some v=>some (some v)
 |none=>none
theorem Pm{v:AV}:ZJ (some v)=some (some v):=rfl
theorem QW{ts:List AV}:jd ts none=some none:=rfl
theorem RA{ts:List AV}{x:Operand}:jd ts (some x)=ZJ (cn ts x):=by
 show(cn ts x).map some=ZJ (cn ts x)
 cases cn ts x<;>rfl
def Kr(E:Env)(t:Nat)(a:AV):Option AV:=match E.ty t,a with
 |some {cV:=.array n _,..},.aI b off len _ _=>if len<n then none else some (.b9 b off)
 |some {cV:=.array n _,..},.aK cs len=>if len<n then none else some (.eX cs 0)
 |_,_=>none
def MU(a:AV):Option AV:=match a with
 |.b9 b off=>some (.b9 b off)
 |.eX cs off=>some (.eX cs off)
 |.sf g off=>some (.sf g off)
 |.func f a b=>some (.func f a b)
 |.yield l=>some (.yield l)
 |_=>none
def Aw(E:Env)(aL t:Nat)(r:Option AV):Option (AV×List (Nat×cz)):=match E.ty t,r with
 |some {cV:=.map _ _,..},none=>some (.jt aL,[(aL,.map .live [] [])])
 |some {cV:=.map _ _,..},some (.int _ _)=>some (.jt aL,[(aL,.map .live [] [])])
 |_,_=>none
def toK(k:IntKind):AV->Option AV
 |.int _ n=>some (.int k (aX k n))
 |_=>none
theorem iT{k k':IntKind}{n:Int}:toK k (.int k' n)=some (.int k (aX k n)):=rfl
def iI(E:Env)(t:Nat):Option IntKind:=match E.ty t with
 |some i=>(match i.cV with|.int k=>some k|_=>none)
 |none=>none
def ll(E:Env)(t:Nat):Bool:=match E.ty t with
 |some i=>(match i.cV with|.string=>true|_=>false)
 |none=>false
def toStr:AV->Option AV
 |.str s=>some (.str s)
 |_=>none
theorem aba{s:List UInt8}:toStr (.str s)=some (.str s):=rfl
@[congr] theorem ai4 {E:Env} {dr tr:Bool} {ops:List (Option Nat)} {rest:List Oper} {aL nid':Nat} {ts dx:List AV} {H H':Hp} {l l':List WR} {q:List AV->Hp->List WR->Prop} (h0:aL=nid') (h1:ts=dx) (h2:H=H') (h3:l=l'):bV E dr tr ops rest aL ts H l q=bV E dr tr ops rest nid' dx H' l' q:=by rw[h0,h1,h2,h3]
section
variable{E:Env}{dr tr:Bool}{ops:List (Option Nat)}{rest:List Oper}{aL:Nat}{ts:List AV}{H:Hp}{l:List WR}{q:List AV->Hp->List WR->Prop}{d:Option Nat}{t:Nat}{p:String}{af:Array Edge}
def tl(ds:List (Option Nat))(ts:List AV)(j:Nat)(want:Bool):Bool:=match RF ds j with
 |some dj=>Ii (gt ts dj)==some want
 |none=>false
theorem jX{o:Oper}(hg:o.guard=none):bV E false false ops (o::rest) aL ts H l q=dz E false o H.length ts H fun v e=>bV E false false ops rest aL (bK o.dst v ts) (e.app H) l q:=by
 rw[bV];rw[if_pos (show gl ops ts o=true by unfold gl;rw[hg])]
 simp
theorem qp{o:Oper}(hg:o.guard=none)(hl:cu E o=false):bV E true true ops (o::rest) aL ts H l q=dz E true o aL ts H fun v e=>bV E true true ops rest aL (bK o.dst v ts) (e.app H) (bH E ts o e::l) q:=by rw[bV];rw[if_pos (show gl ops ts o=true by unfold gl;rw[hg])];simp[hl]
theorem Pl{o:Oper}(hg:o.guard=none)(hl:cu E o=true):bV E true true ops (o::rest) aL ts H l q=(mD H[aL]?=true/\dz E true o aL ts H fun v e=>bV E true true ops rest (aL+1) (bK o.dst v ts) (e.app H) (bH E ts o e::l) q):=by rw[bV];rw[if_pos (show gl ops ts o=true by unfold gl;rw[hg])];simp[hl]
theorem aeg{op:Op}{j:Nat}{want:Bool}:bV E false false ops (⟨d,op,t,p,af,some (j,want)⟩::rest) aL ts H l q=
  sS (tl ops ts j want) (bV E false false ops (⟨d,op,t,p,af,none⟩::rest) aL ts H l q) (bV E false false ops rest aL (bK d aZ ts) H l q):=by
 have hg:tl ops ts j want=gl ops ts ⟨d,op,t,p,af,some (j,want)⟩:=by
  unfold tl gl;simp only;cases RF ops j with
  |none=>rfl
  |some dj=>
   simp only;unfold gt;cases h:ts[dj]? with
   |none=>cases want<;>simp[Ii,aZ]
   |some v=>cases v<;>simp[Ii]
 rw[hg];rw[bV];cases hw:gl ops ts ⟨d,op,t,p,af,some (j,want)⟩with
 |true=>rw[jO,jX rfl];simp;rfl
 |false=>rw[iK];simp
theorem adp{op:Op}{j:Nat}{want:Bool}:bV E true true ops (⟨d,op,t,p,af,some (j,want)⟩::rest) aL ts H l q=
  sS (tl ops ts j want) (bV E true true ops (⟨d,op,t,p,af,none⟩::rest) aL ts H l q)
   (sS (cu E ⟨d,op,t,p,af,none⟩) (mD H[aL]?=true/\bV E true true ops rest (aL+1) (bK d aZ ts) H (bH E ts ⟨d,op,t,p,af,none⟩ (.bU [])::l) q) (bV E true true ops rest aL (bK d aZ ts) H (bH E ts ⟨d,op,t,p,af,none⟩ (.bU [])::l) q)):=by
 have hg:tl ops ts j want=gl ops ts ⟨d,op,t,p,af,some (j,want)⟩:=by
  unfold tl gl;simp only;cases RF ops j with
  |none=>rfl
  |some dj=>
   simp only;unfold gt;cases h:ts[dj]? with
   |none=>cases want<;>simp[Ii,aZ]
   |some v=>cases v<;>simp[Ii]
 have hl:cu E ⟨d,op,t,p,af,some (j,want)⟩=cu E ⟨d,op,t,p,af,none⟩:=rfl;have ht:∀e,bH E ts ⟨d,op,t,p,af,some (j,want)⟩ e=bH E ts ⟨d,op,t,p,af,none⟩ e:=fun _=>rfl
 rw[hg];rw[bV];cases hw:gl ops ts ⟨d,op,t,p,af,some (j,want)⟩with
 |true=>
  rw[jO,bV];rw[if_pos (show gl ops ts ⟨d,op,t,p,af,none⟩=true from rfl)];simp only[hl,ht,if_true];rfl
 |false=>
  rw[iK];simp only[hl,ht,aKT,if_false,if_true,true_and,forall_const];cases cu E ⟨d,op,t,p,af,none⟩<;>simp[sS]
theorem ajo{x:Operand}:bV E false false ops (⟨d,.move x,t,p,af,none⟩::rest) aL ts H l q=ck (cn ts x) fun v=>bV E false false ops rest aL (bK d v ts) H l q:=by
 rw[jX rfl];simp only[dz,eL];cases cn ts x<;>rfl
theorem ajg{x:Operand}:bV E true true ops (⟨d,.move x,t,p,af,none⟩::rest) aL ts H l q=ck (cn ts x) fun v=>bV E true true ops rest aL (bK d v ts) H (bH E ts ⟨d,.move x,t,p,af,none⟩ (.bU [])::l) q:=by
 rw[qp rfl rfl];simp only[dz,eL];cases cn ts x<;>rfl
theorem Z2{x:Operand}:bV E false false ops (⟨d,.assign x,t,p,af,none⟩::rest) aL ts H l q=ck (cn ts x) fun v=>bV E false false ops rest aL (bK d v ts) H l q:=by
 rw[jX rfl];simp only[dz,eL];cases cn ts x<;>rfl
theorem WM{x:Operand}:bV E true true ops (⟨d,.assign x,t,p,af,none⟩::rest) aL ts H l q=ck (cn ts x) fun v=>bV E true true ops rest aL (bK d v ts) H (bH E ts ⟨d,.assign x,t,p,af,none⟩ (.bU [])::l) q:=by
 rw[qp rfl rfl];simp only[dz,eL];cases cn ts x<;>rfl
theorem aka{c a b:Operand}:bV E false false ops (⟨d,.pick c a b,t,p,af,none⟩::rest) aL ts H l q=ck (zn (cn ts c) (cn ts a) (cn ts b)) fun v=>bV E false false ops rest aL (bK d v ts) H l q:=by
 rw[jX rfl];simp only[dz,eL,zn];cases hc:cn ts c with
 |none=>rfl
 |some v=>
  cases v<;>try rfl
  rename_i z;cases z
  ·simp only[aKT,if_false];cases cn ts b<;>rfl
  ·simp only[if_true];cases cn ts a<;>rfl
theorem ahT{c a b:Operand}:bV E true true ops (⟨d,.pick c a b,t,p,af,none⟩::rest) aL ts H l q=ck (zn (cn ts c) (cn ts a) (cn ts b)) fun v=>bV E true true ops rest aL (bK d v ts) H (bH E ts ⟨d,.pick c a b,t,p,af,none⟩ (.bU [])::l) q:=by
 rw[qp rfl rfl];simp only[dz,eL,zn];cases hc:cn ts c with
 |none=>rfl
 |some v=>
  cases v<;>try rfl
  rename_i z;cases z
  ·simp only[aKT,if_false];cases cn ts b<;>rfl
  ·simp only[if_true];cases cn ts a<;>rfl
theorem ab7{t1:Nat}:bV E false false ops (⟨d,.alloc t1,t,p,af,none⟩::rest) aL ts H l q=ck (fR E t1) fun z=>bV E false false ops rest aL (bK d (.b9 H.length 0) ts) ((cE.bU ([(H.length,.cells .live z.cells)])).app H) l q:=by
 rw[jX rfl];simp only[dz,eL];cases fR E t1<;>rfl
theorem abV{t1:Nat}:bV E true true ops (⟨d,.alloc t1,t,p,af,none⟩::rest) aL ts H l q=(mD H[aL]?=true/\ck (fR E t1) fun z=>bV E true true ops rest (aL+1) (bK d (.b9 aL 0) ts) ((cE.bU ([(aL,.cells .live z.cells)])).app H) (bH E ts ⟨d,.alloc t1,t,p,af,none⟩ (.bU ([(aL,.cells .live z.cells)]))::l) q):=by
 rw[Pl rfl rfl];congr 1;simp only[dz,eL];cases fR E t1<;>rfl
theorem arh{t1:Nat}{x:Operand}:bV E false false ops (⟨d,.box t1 x,t,p,af,none⟩::rest) aL ts H l q=ck (cn ts x) fun z=>bV E false false ops rest aL (bK d (.b9 H.length 0) ts) ((cE.bU ([(H.length,.cells .live z.cells)])).app H) l q:=by
 rw[jX rfl];simp only[dz,eL];cases cn ts x<;>rfl
theorem agV{t1:Nat}{x:Operand}:bV E false false ops (⟨d,.load t1 x,t,p,af,none⟩::rest) aL ts H l q=ck (cn ts x) fun a=>ck (gT E H t1 a) fun v=>bV E false false ops rest aL (bK d v ts) H l q:=by
 rw[jX rfl];simp only[dz,eL];cases cn ts x with
 |none=>rfl
 |some a=>
  simp only[aR];cases gT E H t1 a<;>rfl
theorem ags{t1:Nat}{x:Operand}:bV E true true ops (⟨d,.load t1 x,t,p,af,none⟩::rest) aL ts H l q=ck (cn ts x) fun a=>ck (gT E H t1 a) fun v=>bV E true true ops rest aL (bK d v ts) H (bH E ts ⟨d,.load t1 x,t,p,af,none⟩ (.bU [])::l) q:=by
 rw[qp rfl rfl];simp only[dz,eL];cases cn ts x with
 |none=>rfl
 |some a=>
  simp only[aR];cases gT E H t1 a<;>rfl
theorem abS{t1:Nat}{x y:Operand}:bV E false false ops (⟨none,.store t1 x y,t,p,af,none⟩::rest) aL ts H l q=ck (cn ts x) fun a=>ck (cn ts y) fun v=>Ei (iO E H t1 a v) fun s=>bV E false false ops rest aL ts ((cE.bU (s)).app H) l q:=by
 rw[jX rfl];simp only[dz,eL];cases cn ts x with
 |none=>rfl
 |some a=>
  simp only[aR];cases cn ts y with
  |none=>rfl
  |some v=>
   simp only[aR];cases iO E H t1 a v<;>rfl
theorem adF{t1:Nat}{x y:Operand}:bV E true true ops (⟨none,.store t1 x y,t,p,af,none⟩::rest) aL ts H l q=ck (cn ts x) fun a=>ck (cn ts y) fun v=>Ei (iO E H t1 a v) fun s=>bV E true true ops rest aL ts ((cE.bU (s)).app H) (bH E ts ⟨none,.store t1 x y,t,p,af,none⟩ (.bU (s))::l) q:=by
 rw[qp rfl rfl];simp only[dz,eL];cases cn ts x with
 |none=>rfl
 |some a=>
  simp only[aR];cases cn ts y with
  |none=>rfl
  |some v=>
   simp only[aR];cases iO E H t1 a v<;>rfl
theorem ao9{op:BinOp}{t1 t2:Nat}{x y:Operand}:bV E false false ops (⟨d,.binOp op t1 x y t2,t,p,af,none⟩::rest) aL ts H l q=ck (cn ts x) fun a=>ck (cn ts y) fun b=>ck (dC E (bI x||bI y) op t1 a b) fun v=>bV E false false ops rest aL (bK d v ts) H l q:=by
 rw[jX rfl];simp only[dz,eL];cases cn ts x with
 |none=>rfl
 |some a=>
  simp only[aR];cases cn ts y with
  |none=>rfl
  |some b=>
   simp only[aR];cases dC E (bI x||bI y) op t1 a b<;>rfl
theorem amy{op:BinOp}{t1 t2:Nat}{x y:Operand}:bV E true true ops (⟨d,.binOp op t1 x y t2,t,p,af,none⟩::rest) aL ts H l q=ck (cn ts x) fun a=>ck (cn ts y) fun b=>ck (dC E (bI x||bI y) op t1 a b) fun v=>bV E true true ops rest aL (bK d v ts) H (bH E ts ⟨d,.binOp op t1 x y t2,t,p,af,none⟩ (.bU [])::l) q:=by
 rw[qp rfl rfl];simp only[dz,eL];cases cn ts x with
 |none=>rfl
 |some a=>
  simp only[aR];cases cn ts y with
  |none=>rfl
  |some b=>
   simp only[aR];cases dC E (bI x||bI y) op t1 a b<;>rfl
theorem axJ{op:UnOp}{t1:Nat}{x:Operand}:bV E false false ops (⟨d,.unOp op t1 x,t,p,af,none⟩::rest) aL ts H l q=ck (cn ts x) fun a=>ck (unE op a) fun v=>bV E false false ops rest aL (bK d v ts) H l q:=by
 rw[jX rfl];simp only[dz,eL];cases cn ts x with
 |none=>rfl
 |some a=>
  simp only[aR];cases unE op a<;>rfl
theorem axL{t1 f:Nat}{x:Operand}:bV E false false ops (⟨d,.fieldAddr t1 x f,t,p,af,none⟩::rest) aL ts H l q=ck (cn ts x) fun a=>ck (dy E t1 a f) fun v=>bV E false false ops rest aL (bK d v ts) H l q:=by
 rw[jX rfl];simp only[dz,eL];cases cn ts x with
 |none=>rfl
 |some a=>
  simp only[aR];cases dy E t1 a f<;>rfl
theorem axb{t1 f:Nat}{x:Operand}:bV E true true ops (⟨d,.fieldAddr t1 x f,t,p,af,none⟩::rest) aL ts H l q=ck (cn ts x) fun a=>ck (dy E t1 a f) fun v=>bV E true true ops rest aL (bK d v ts) H (bH E ts ⟨d,.fieldAddr t1 x f,t,p,af,none⟩ (.bU [])::l) q:=by
 rw[qp rfl rfl];simp only[dz,eL];cases cn ts x with
 |none=>rfl
 |some a=>
  simp only[aR];cases dy E t1 a f<;>rfl
theorem avY{t1:Nat}{x y:Operand}:bV E false false ops (⟨d,.indexAddr t1 x y,t,p,af,none⟩::rest) aL ts H l q=ck (cn ts x) fun a=>ck (cn ts y) fun b=>ck (cF E t1 a b) fun v=>bV E false false ops rest aL (bK d v ts) H l q:=by
 rw[jX rfl];simp only[dz,eL];cases cn ts x with
 |none=>rfl
 |some a=>
  simp only[aR];cases cn ts y with
  |none=>rfl
  |some b=>
   simp only[aR];cases cF E t1 a b<;>rfl
theorem ayZ{t1:Nat}{x y:Operand}:bV E true true ops (⟨d,.indexAddr t1 x y,t,p,af,none⟩::rest) aL ts H l q=ck (cn ts x) fun a=>ck (cn ts y) fun b=>ck (cF E t1 a b) fun v=>bV E true true ops rest aL (bK d v ts) H (bH E ts ⟨d,.indexAddr t1 x y,t,p,af,none⟩ (.bU [])::l) q:=by
 rw[qp rfl rfl];simp only[dz,eL];cases cn ts x with
 |none=>rfl
 |some a=>
  simp only[aR];cases cn ts y with
  |none=>rfl
  |some b=>
   simp only[aR];cases cF E t1 a b<;>rfl
theorem aec{t1:Nat}{x y:Operand}:bV E false false ops (⟨d,.index t1 x y,t,p,af,none⟩::rest) aL ts H l q=ck (cn ts x) fun a=>ck (cn ts y) fun b=>ck (pZ E t1 a b) fun v=>bV E false false ops rest aL (bK d v ts) H l q:=by
 rw[jX rfl];simp only[dz,eL];cases cn ts x with
 |none=>rfl
 |some a=>
  simp only[aR];cases cn ts y with
  |none=>rfl
  |some b=>
   simp only[aR];cases pZ E t1 a b<;>rfl
theorem ZX{t1:Nat}{x y:Operand}{ok:Bool}:bV E false false ops (⟨d,.lookup t1 x y ok,t,p,af,none⟩::rest) aL ts H l q=ck (cn ts x) fun a=>ck (cn ts y) fun b=>ck (gL E H t1 a b ok) fun v=>bV E false false ops rest aL (bK d v ts) H l q:=by
 rw[jX rfl];simp only[dz,eL];cases cn ts x with
 |none=>rfl
 |some a=>
  simp only[aR];cases cn ts y with
  |none=>rfl
  |some b=>
   simp only[aR];cases gL E H t1 a b ok<;>rfl
theorem Yx{t1:Nat}{x y:Operand}{ok:Bool}:bV E true true ops (⟨d,.lookup t1 x y ok,t,p,af,none⟩::rest) aL ts H l q=ck (cn ts x) fun a=>ck (cn ts y) fun b=>ck (gL E H t1 a b ok) fun v=>bV E true true ops rest aL (bK d v ts) H (bH E ts ⟨d,.lookup t1 x y ok,t,p,af,none⟩ (.bU [])::l) q:=by
 rw[qp rfl rfl];simp only[dz,eL];cases cn ts x with
 |none=>rfl
 |some a=>
  simp only[aR];cases cn ts y with
  |none=>rfl
  |some b=>
   simp only[aR];cases gL E H t1 a b ok<;>rfl
theorem XF{t1:Nat}{x y z:Operand}:bV E false false ops (⟨none,.insert t1 x y z,t,p,af,none⟩::rest) aL ts H l q=ck (cn ts x) fun a=>ck (cn ts y) fun b=>ck (cn ts z) fun c=>Ei (fP E H t1 a b c) fun s=>bV E false false ops rest aL ts ((cE.bU (s)).app H) l q:=by
 rw[jX rfl];simp only[dz,eL];cases cn ts x with
 |none=>rfl
 |some a=>
  simp only[aR];cases cn ts y with
  |none=>rfl
  |some b=>
   simp only[aR];cases cn ts z with
   |none=>rfl
   |some c=>
    simp only[aR];cases fP E H t1 a b c<;>rfl
theorem NA{t1:Nat}{x y:Operand}:bV E false false ops (⟨d,.makeSlice t1 x y,t,p,af,none⟩::rest) aL ts H l q=ck (cn ts x) fun a=>ck (cn ts y) fun b=>tg (fM E H.length t1 a b) fun r=>bV E false false ops rest aL (bK d r.1 ts) ((cE.bU (r.2)).app H) l q:=by
 rw[jX rfl];simp only[dz,eL];cases cn ts x with
 |none=>rfl
 |some a=>
  simp only[aR];cases cn ts y with
  |none=>rfl
  |some b=>
   simp only[aR];cases fM E H.length t1 a b<;>rfl
theorem Th{i:Nat}{x:Operand}:bV E false false ops (⟨d,.extract x i,t,p,af,none⟩::rest) aL ts H l q=ck (cn ts x) fun a=>ck (nth a i) fun v=>bV E false false ops rest aL (bK d v ts) H l q:=by
 rw[jX rfl];simp only[dz,eL];cases cn ts x with
 |none=>rfl
 |some a=>
  simp only[aR];cases a<;>try rfl
  rename_i vs;simp only[nth];cases vs[i]?<;>rfl
theorem U6{i:Nat}{x:Operand}:bV E true true ops (⟨d,.extract x i,t,p,af,none⟩::rest) aL ts H l q=ck (cn ts x) fun a=>ck (nth a i) fun v=>bV E true true ops rest aL (bK d v ts) H (bH E ts ⟨d,.extract x i,t,p,af,none⟩ (.bU [])::l) q:=by
 rw[qp rfl rfl];simp only[dz,eL];cases cn ts x with
 |none=>rfl
 |some a=>
  simp only[aR];cases a<;>try rfl
  rename_i vs;simp only[nth];cases vs[i]?<;>rfl
theorem aew{t1:Nat}{ps:Array (Nat×Operand)}:bV E false false ops (⟨d,.build t1 ps,t,p,af,none⟩::rest) aL ts H l q=BW (xT ts ps.toList) fun vs=>ck (fT E t1 vs) fun v=>bV E false false ops rest aL (bK d v ts) H l q:=by
 rw[jX rfl];simp only[dz,eL,fT];cases xT ts ps.toList with
 |none=>cases gX E t1<;>cases (E.ty t1).bind (·.zero)<;>rfl
 |some vs=>
  cases gX E t1 with
  |none=>rfl
  |some pl=>
   cases (E.ty t1).bind (·.zero)with
   |none=>rfl
   |some z=>simp only[iF];cases gV pl z vs<;>rfl
theorem adT{t1:Nat}{ps:Array (Nat×Operand)}:bV E true true ops (⟨d,.build t1 ps,t,p,af,none⟩::rest) aL ts H l q=BW (xT ts ps.toList) fun vs=>ck (fT E t1 vs) fun v=>bV E true true ops rest aL (bK d v ts) H (bH E ts ⟨d,.build t1 ps,t,p,af,none⟩ (.bU [])::l) q:=by
 rw[qp rfl rfl];simp only[dz,eL,fT];cases xT ts ps.toList with
 |none=>cases gX E t1<;>cases (E.ty t1).bind (·.zero)<;>rfl
 |some vs=>
  cases gX E t1 with
  |none=>rfl
  |some pl=>
   cases (E.ty t1).bind (·.zero)with
   |none=>rfl
   |some z=>simp only[iF];cases gV pl z vs<;>rfl
theorem Ke{t1 len:Nat}{ps:Array (Nat×Operand)}:bV E false false ops (⟨d,.buildSlice t1 len ps,t,p,af,none⟩::rest) aL ts H l q=BW (xT ts ps.toList) fun vs=>tg (aT E H.length t1 len vs) fun r=>bV E false false ops rest aL (bK d r.1 ts) ((cE.bU r.2).app H) l q:=by
 rw[jX rfl];simp only[dz,eL,aT];cases xT ts ps.toList with
 |none=>
  cases E.ty t1 with
  |none=>rfl
  |some i=>
   obtain⟨cV,isAgg,size,bytes,zero,eS⟩:=i;cases cV<;>try rfl
   rename_i e;simp only;cases E.ty e with
   |none=>rfl
   |some ei=>simp only;cases ei.zero<;>rfl
 |some vs=>
  simp only[iF];cases E.ty t1 with
  |none=>rfl
  |some i=>
   obtain⟨cV,isAgg,size,bytes,zero,eS⟩:=i;cases cV<;>try rfl
   rename_i e;simp only;cases E.ty e with
   |none=>rfl
   |some ei=>
    simp only;cases ei.zero with
    |none=>rfl
    |some z=>
     simp only
     split
     ·cases gV (fun i=>some (i*ei.size,ei.size)) (iE z len) vs<;>rfl
     ·rfl
theorem Ki{t1 len:Nat}{ps:Array (Nat×Operand)}:bV E true true ops (⟨d,.buildSlice t1 len ps,t,p,af,none⟩::rest) aL ts H l q=(mD H[aL]?=true/\BW (xT ts ps.toList) fun vs=>tg (aT E aL t1 len vs) fun r=>bV E true true ops rest (aL+1) (bK d r.1 ts) ((cE.bU r.2).app H) (bH E ts ⟨d,.buildSlice t1 len ps,t,p,af,none⟩ (.bU r.2)::l) q):=by
 rw[Pl rfl rfl];congr 1;simp only[dz,eL,aT];cases xT ts ps.toList with
 |none=>
  cases E.ty t1 with
  |none=>rfl
  |some i=>
   obtain⟨cV,isAgg,size,bytes,zero,eS⟩:=i;cases cV<;>try rfl
   rename_i e;simp only;cases E.ty e with
   |none=>rfl
   |some ei=>simp only;cases ei.zero<;>rfl
 |some vs=>
  simp only[iF];cases E.ty t1 with
  |none=>rfl
  |some i=>
   obtain⟨cV,isAgg,size,bytes,zero,eS⟩:=i;cases cV<;>try rfl
   rename_i e;simp only;cases E.ty e with
   |none=>rfl
   |some ei=>
    simp only;cases ei.zero with
    |none=>rfl
    |some z=>
     simp only
     split
     ·cases gV (fun i=>some (i*ei.size,ei.size)) (iE z len) vs<;>rfl
     ·rfl
theorem Ts{bi:Builtin}{args:Array Operand}{eO:Array Nat}:bV E false false ops (⟨d,.call {callee:=.builtin bi,args:=args,argTypes:=eO},t,p,af,none⟩::rest) aL ts H l q=pT (oa ts args.toList) fun al=>tg (aV E H H.length bi eO.toList al) fun r=>bV E false false ops rest aL (bK d r.1 ts) ((cE.bU r.2).app H) l q:=by
 rw[jX rfl];simp only[dz,eL];cases oa ts args.toList with
 |none=>rfl
 |some al=>simp only[ch];cases aV E H H.length bi eO.toList al<;>rfl
theorem apU{args:Array Operand}{eO:Array Nat}:bV E true true ops (⟨d,.call {callee:=.builtin .len,args:=args,argTypes:=eO},t,p,af,none⟩::rest) aL ts H l q=pT (oa ts args.toList) fun al=>tg (aV E H aL .len eO.toList al) fun r=>bV E true true ops rest aL (bK d r.1 ts) ((cE.bU r.2).app H) (bH E ts ⟨d,.call {callee:=.builtin .len,args:=args,argTypes:=eO},t,p,af,none⟩ (.bU r.2)::l) q:=by
 rw[qp rfl rfl];simp only[dz,eL];cases oa ts args.toList with
 |none=>rfl
 |some al=>simp only[ch];cases aV E H aL .len eO.toList al<;>rfl
theorem ZQ{args:Array Operand}{eO:Array Nat}:bV E true true ops (⟨d,.call {callee:=.builtin .append,args:=args,argTypes:=eO},t,p,af,none⟩::rest) aL ts H l q=(mD H[aL]?=true/\pT (oa ts args.toList) fun al=>tg (aV E H aL .append eO.toList al) fun r=>bV E true true ops rest (aL+1) (bK d r.1 ts) ((cE.bU r.2).app H) (bH E ts ⟨d,.call {callee:=.builtin .append,args:=args,argTypes:=eO},t,p,af,none⟩ (.bU r.2)::l) q):=by
 rw[Pl rfl rfl];congr 1;simp only[dz,eL];cases oa ts args.toList with
 |none=>rfl
 |some al=>simp only[ch];cases aV E H aL .append eO.toList al<;>rfl
theorem acx{t1:Nat}{x:Operand}{lo hi:Option Operand}:bV E false false ops (⟨d,.slice t1 x lo hi none,t,p,af,none⟩::rest) aL ts H l q=ck (cn ts x) fun a=>D4 (jd ts lo) fun b=>D4 (jd ts hi) fun c=>ck (Ez E H t1 a b c) fun v=>bV E false false ops rest aL (bK d v ts) H l q:=by
 rw[jX rfl];simp only[dz,eL,Ez];cases cn ts x with
 |none=>rfl
 |some a=>
  cases jd ts lo with
  |none=>rfl
  |some b=>
   cases jd ts hi with
   |none=>rfl
   |some c=>
    simp only[aR,xF];cases E.ty t1 with
    |none=>simp only;cases iS E t1 a b c<;>rfl
    |some i=>
     obtain⟨cV,isAgg,size,bytes,zero,eS⟩:=i;cases cV<;>simp only<;>first|(cases jQ E H t1 a b c<;>rfl)|(cases iS E t1 a b c<;>rfl)
theorem abZ{t1:Nat}{x:Operand}{lo hi:Option Operand}:bV E true true ops (⟨d,.slice t1 x lo hi none,t,p,af,none⟩::rest) aL ts H l q=ck (cn ts x) fun a=>D4 (jd ts lo) fun b=>D4 (jd ts hi) fun c=>ck (Ez E H t1 a b c) fun v=>bV E true true ops rest aL (bK d v ts) H (bH E ts ⟨d,.slice t1 x lo hi none,t,p,af,none⟩ (.bU [])::l) q:=by
 rw[qp rfl rfl];simp only[dz,eL,Ez];cases cn ts x with
 |none=>rfl
 |some a=>
  cases jd ts lo with
  |none=>rfl
  |some b=>
   cases jd ts hi with
   |none=>rfl
   |some c=>
    simp only[aR,xF];cases E.ty t1 with
    |none=>simp only;cases iS E t1 a b c<;>rfl
    |some i=>
     obtain⟨cV,isAgg,size,bytes,zero,eS⟩:=i;cases cV<;>simp only<;>first|(cases jQ E H t1 a b c<;>rfl)|(cases iS E t1 a b c<;>rfl)
theorem anf{t1:Nat}{x:Operand}:bV E false false ops (⟨d,.sliceToArrayPointer t1 x,t,p,af,none⟩::rest) aL ts H l q=ck (cn ts x) fun a=>ck (Kr E t1 a) fun v=>bV E false false ops rest aL (bK d v ts) H l q:=by
 rw[jX rfl];simp only[dz,eL,Kr];cases cn ts x with
 |none=>
  cases E.ty t1 with
  |none=>rfl
  |some i=>
   obtain⟨cV,isAgg,size,bytes,zero,eS⟩:=i;cases cV<;>rfl
 |some a=>
  simp only[aR];cases E.ty t1 with
  |none=>rfl
  |some i=>
   obtain⟨cV,isAgg,size,bytes,zero,eS⟩:=i;cases cV<;>(try rfl)<;>cases a<;>(try rfl)<;>simp only<;>split<;>rfl
theorem alu{t1:Nat}{x:Operand}:bV E true true ops (⟨d,.sliceToArrayPointer t1 x,t,p,af,none⟩::rest) aL ts H l q=ck (cn ts x) fun a=>ck (Kr E t1 a) fun v=>bV E true true ops rest aL (bK d v ts) H (bH E ts ⟨d,.sliceToArrayPointer t1 x,t,p,af,none⟩ (.bU [])::l) q:=by
 rw[qp rfl rfl];simp only[dz,eL,Kr];cases cn ts x with
 |none=>
  cases E.ty t1 with
  |none=>rfl
  |some i=>
   obtain⟨cV,isAgg,size,bytes,zero,eS⟩:=i;cases cV<;>rfl
 |some a=>
  simp only[aR];cases E.ty t1 with
  |none=>rfl
  |some i=>
   obtain⟨cV,isAgg,size,bytes,zero,eS⟩:=i;cases cV<;>(try rfl)<;>cases a<;>(try rfl)<;>simp only<;>split<;>rfl
theorem aqk{x:Operand}:bV E false false ops (⟨d,.nilCheck x,t,p,af,none⟩::rest) aL ts H l q=ck (cn ts x) fun a=>ck (MU a) fun v=>bV E false false ops rest aL (bK d v ts) H l q:=by
 rw[jX rfl];simp only[dz,eL,MU];cases cn ts x with
 |none=>rfl
 |some a=>cases a<;>rfl
theorem aq4{x:Operand}:bV E true true ops (⟨d,.nilCheck x,t,p,af,none⟩::rest) aL ts H l q=ck (cn ts x) fun a=>ck (MU a) fun v=>bV E true true ops rest aL (bK d v ts) H (bH E ts ⟨d,.nilCheck x,t,p,af,none⟩ (.bU [])::l) q:=by
 rw[qp rfl rfl];simp only[dz,eL,MU];cases cn ts x with
 |none=>rfl
 |some a=>cases a<;>rfl
theorem QR{f:Nat}{first cap:Array Operand}:bV E false false ops (⟨d,.makeFunc (.func f) first cap,t,p,af,none⟩::rest) aL ts H l q=pT (oa ts first.toList) fun a=>pT (oa ts cap.toList) fun c=>bV E false false ops rest aL (bK d (.func f a c) ts) H l q:=by
 rw[jX rfl];simp only[dz,eL];cases oa ts first.toList with
 |none=>rfl
 |some a=>cases oa ts cap.toList<;>rfl
theorem TM{t1:Nat}{r0:Option Operand}:bV E false false ops (⟨d,.makeMap t1 r0,t,p,af,none⟩::rest) aL ts H l q=D4 (jd ts r0) fun a=>tg (Aw E H.length t1 a) fun r=>bV E false false ops rest aL (bK d r.1 ts) ((cE.bU r.2).app H) l q:=by
 rw[jX rfl];simp only[dz,eL,Aw];cases jd ts r0 with
 |none=>
  cases E.ty t1 with
  |none=>rfl
  |some i=>
   obtain⟨cV,isAgg,size,bytes,zero,eS⟩:=i;cases cV<;>rfl
 |some a=>
  simp only[xF];cases E.ty t1 with
  |none=>cases a<;>rfl
  |some i=>
   obtain⟨cV,isAgg,size,bytes,zero,eS⟩:=i;cases cV<;>cases a<;>(try rfl)<;>(rename_i v;cases v<;>rfl)
theorem IP{s1 d1:Nat}{k0 k':IntKind}{x:Operand}(hs:iI E s1=some k0)(hd:iI E d1=some k'):cu E ⟨d,.convert s1 d1 x,t,p,af,none⟩=false:=by
 unfold iI at hs;unfold cu;simp only;cases h1:E.ty s1 with
 |none=>rfl
 |some si=>
  rw[h1]at hs;obtain⟨cV,isAgg,size,bytes,zero,eS⟩:=si;cases cV<;>first|(cases hs;done)|rfl
theorem iM{s1 d1:Nat}{k0 k':IntKind}{x:Operand}(hs:iI E s1=some k0)(hd:iI E d1=some k'):bV E false false ops (⟨d,.convert s1 d1 x,t,p,af,none⟩::rest) aL ts H l q=ck (cn ts x) fun a=>ck (toK k' a) fun v=>bV E false false ops rest aL (bK d v ts) H l q:=by
 rw[jX rfl];simp only[dz,eL];unfold iI at hs hd;cases h1:E.ty s1 with
 |none=>rw[h1]at hs;cases hs
 |some si=>
  cases h2:E.ty d1 with
  |none=>rw[h2]at hd;cases hd
  |some di=>
   rw[h1]at hs;rw[h2]at hd;obtain⟨cV,isAgg,size,bytes,zero,eS⟩:=si;obtain⟨Wi,Zs,af2,YQ,af9,agd⟩:=di;cases cV<;>first|(cases hs;done)|skip
   cases Wi<;>first|(cases hd;done)|skip
   simp only[Option.some.injEq]at hd;subst hd;cases cn ts x with
   |none=>rfl
   |some v=>cases v<;>simp[IV,h1,h2,toK,ck,Hn,qC]
def tJ(x:Option (AV×Hp))(k:AV->Hp->Prop):Prop:=match x with
 |some (v,e)=>k v e
 |none=>False
theorem Iv{v:AV}{e:Hp}{k:AV->Hp->Prop}:tJ (some (v,e)) k=k v e:=rfl
@[congr] theorem aj2 {a b:Option (AV×Hp)} {k:AV->Hp->Prop} (h:a=b):tJ a k=tJ b k:=by rw[h]
def jm(E:Env)(dr st:Bool)(f:Nat)(bl:List AV)(H:Hp)(k:AV->cE->Prop):Prop:=
 sS (bQ E f) (sS (ku E f&&(dr&&st)) (tX (bW H bl) fun cl bs=>ck (Cm E f cl) fun r=>k r (if bR r=true then cE.looks bs else cE.marks bs)) (tJ (de E f bl H) fun r H'=>k r (.Ee H')))
  (tX (bW H bl) fun cl bs=>ck (aP E f cl) fun r=>k r (if bR r=true then cE.looks bs else cE.marks bs))
@[congr] theorem aeP {dr st:Bool} {f:Nat} {bl bl':List AV} {H H':Hp} {k:AV->cE->Prop} (h1:bl=bl') (h2:H=H'):jm E dr st f bl H k=jm E dr st f bl' H' k:=by rw[h1,h2]
theorem K1{st:Bool}{f:Nat}{bl:List AV}{k:AV->cE->Prop}:LC E dr st f bl H k=jm E dr st f bl H k:=by
 have key:∀(C:Nat->List AV->AV->Prop) (O:Nat->List AV->Option AV),(∀f al r,C f al r->O f al=some r)->(∀f al r,O f al=some r->C f al r)->
   (∃wD bs r,bW H bl=some (wD,bs)/\C f wD r/\k r (if bR r=true then cE.looks bs else cE.marks bs))=(tX (bW H bl) fun cl bs=>ck (O f cl) fun r=>k r (if bR r=true then cE.looks bs else cE.marks bs)):=by
  intro C O h1 h2;apply propext;constructor
  ·rintro⟨wD,bs,r,g1,g2,g3⟩;rw[g1,dQ,h1 _ _ _ g2,aR];exact g3
  ·intro h;cases hz:bW H bl with
   |none=>rw[hz]at h;exact h.elim
   |some y=>
    obtain⟨cl,bs⟩:=y;rw[hz,dQ]at h;cases hr:O f cl with
    |none=>rw[hr]at h;exact h.elim
    |some r=>rw[hr,aR]at h;exact⟨cl,bs,r,rfl,h2 _ _ _ hr,h⟩
 unfold LC jm;cases bQ E f with
 |true=>
  simp only[if_true,jO];cases ku E f&&(dr&&st)with
  |true=>
   simp only[if_true,jO];exact key (AQ E) (Cm E) (fun _ _ _ h=>UK h) (fun _ _ _ h=>QU h)
  |false=>
   simp only[aKT,if_false,iK];apply propext;constructor
   ·rintro⟨r,H',g1,g2⟩;rw[CZ g1,Iv];exact g2
   ·intro h;cases hr:de E f bl H with
    |none=>rw[hr]at h;exact h.elim
    |some x=>
     obtain⟨r,H'⟩:=x;rw[hr,Iv]at h;exact⟨r,H',Rm hr,h⟩
 |false=>
  simp only[aKT,if_false,iK];exact key (mU E) (aP E) (fun _ _ _ h=>eh h) (fun _ _ _ h=>uT h)
theorem ajY{x:Operand}{args:Array Operand}{eO:Array Nat}:bV E false false ops (⟨d,.call {callee:=.value x,args:=args,argTypes:=eO},t,p,af,none⟩::rest) aL ts H l q=ck (cn ts x) fun fv=>pT (oa ts args.toList) fun al=>Fa fv al fun f bl=>jm E false (rT x) f bl H fun r e=>bV E false false ops rest aL (bK d r ts) (e.app H) l q:=by
 rw[jX rfl];simp only[dz];cases cn ts x with
 |none=>rfl
 |some fv=>
  cases oa ts args.toList with
  |none=>cases fv<;>rfl
  |some al=>
   cases fv<;>try rfl
   rename_i f a c;simp only[aR,ch,xD,K1]
theorem ahM{x:Operand}{args:Array Operand}{eO:Array Nat}:bV E true true ops (⟨d,.call {callee:=.value x,args:=args,argTypes:=eO},t,p,af,none⟩::rest) aL ts H l q=ck (cn ts x) fun fv=>pT (oa ts args.toList) fun al=>Fa fv al fun f bl=>jm E true (rT x) f bl H fun r e=>bV E true true ops rest aL (bK d r ts) (e.app H) (bH E ts ⟨d,.call {callee:=.value x,args:=args,argTypes:=eO},t,p,af,none⟩ e::l) q:=by
 rw[qp rfl rfl];simp only[dz];cases cn ts x with
 |none=>rfl
 |some fv=>
  cases oa ts args.toList with
  |none=>cases fv<;>rfl
  |some al=>
   cases fv<;>try rfl
   rename_i f a c;simp only[aR,ch,xD,K1]
theorem gn{st:Bool}{f:Nat}{bl:List AV}{k:AV->cE->Prop}(h:bQ E f=false):jm E dr st f bl H k=tX (bW H bl) fun cl bs=>ck (aP E f cl) fun r=>k r (if bR r=true then cE.looks bs else cE.marks bs):=by unfold jm;rw[h,iK]
theorem mw{st:Bool}{f:Nat}{bl:List AV}{k:AV->cE->Prop}(h:bQ E f=true)(h2:(ku E f&&(dr&&st))=false):jm E dr st f bl H k=tJ (de E f bl H) fun r H'=>k r (.Ee H'):=by unfold jm;rw[h,jO,h2,iK]
theorem aea{H':Hp}:(cE.Ee H').app H=H':=rfl
theorem qq{o:Oper}(hg:o.guard=none)(hl:cu E o=false):bV E true false ops (o::rest) aL ts H l q=dz E true o aL ts H fun v e=>bV E true false ops rest aL (bK o.dst v ts) (e.app H) l q:=by rw[bV];rw[if_pos (show gl ops ts o=true by unfold gl;rw[hg])];simp[hl]
theorem ZR{o:Oper}(hg:o.guard=none)(hl:cu E o=true):bV E true false ops (o::rest) aL ts H l q=(mD H[aL]?=true/\dz E true o aL ts H fun v e=>bV E true false ops rest (aL+1) (bK o.dst v ts) (e.app H) l q):=by rw[bV];rw[if_pos (show gl ops ts o=true by unfold gl;rw[hg])];simp[hl]
theorem aci{op:Op}{j:Nat}{want:Bool}:bV E true false ops (⟨d,op,t,p,af,some (j,want)⟩::rest) aL ts H l q=
  sS (tl ops ts j want) (bV E true false ops (⟨d,op,t,p,af,none⟩::rest) aL ts H l q)
   (sS (cu E ⟨d,op,t,p,af,none⟩) (mD H[aL]?=true/\bV E true false ops rest (aL+1) (bK d aZ ts) H l q) (bV E true false ops rest aL (bK d aZ ts) H l q)):=by
 have hg:tl ops ts j want=gl ops ts ⟨d,op,t,p,af,some (j,want)⟩:=by
  unfold tl gl;simp only;cases RF ops j with
  |none=>rfl
  |some dj=>
   simp only;unfold gt;cases h:ts[dj]? with
   |none=>cases want<;>simp[Ii,aZ]
   |some v=>cases v<;>simp[Ii]
 have hl:cu E ⟨d,op,t,p,af,some (j,want)⟩=cu E ⟨d,op,t,p,af,none⟩:=rfl;rw[hg];rw[bV];cases hw:gl ops ts ⟨d,op,t,p,af,some (j,want)⟩with
 |true=>
  rw[jO,bV];rw[if_pos (show gl ops ts ⟨d,op,t,p,af,none⟩=true from rfl)];simp only[hl,if_true];rfl
 |false=>
  rw[iK];simp only[hl,aKT,if_false,if_true,true_and,forall_const];cases cu E ⟨d,op,t,p,af,none⟩<;>simp[sS]
theorem aiY{x:Operand}:bV E true false ops (⟨d,.move x,t,p,af,none⟩::rest) aL ts H l q=ck (cn ts x) fun v=>bV E true false ops rest aL (bK d v ts) H l q:=by
 rw[qq rfl rfl];simp only[dz,eL];cases cn ts x<;>rfl
theorem YV{x:Operand}:bV E true false ops (⟨d,.assign x,t,p,af,none⟩::rest) aL ts H l q=ck (cn ts x) fun v=>bV E true false ops rest aL (bK d v ts) H l q:=by
 rw[qq rfl rfl];simp only[dz,eL];cases cn ts x<;>rfl
theorem agW{c a b:Operand}:bV E true false ops (⟨d,.pick c a b,t,p,af,none⟩::rest) aL ts H l q=ck (zn (cn ts c) (cn ts a) (cn ts b)) fun v=>bV E true false ops rest aL (bK d v ts) H l q:=by
 rw[qq rfl rfl];simp only[dz,eL,zn];cases hc:cn ts c with
 |none=>rfl
 |some v=>
  cases v<;>try rfl
  rename_i z;cases z
  ·simp only[aKT,if_false];cases cn ts b<;>rfl
  ·simp only[if_true];cases cn ts a<;>rfl
theorem ahn{t1:Nat}{x:Operand}:bV E true false ops (⟨d,.load t1 x,t,p,af,none⟩::rest) aL ts H l q=ck (cn ts x) fun a=>ck (gT E H t1 a) fun v=>bV E true false ops rest aL (bK d v ts) H l q:=by
 rw[qq rfl rfl];simp only[dz,eL];cases cn ts x with
 |none=>rfl
 |some a=>
  simp only[aR];cases gT E H t1 a<;>rfl
theorem adR{t1:Nat}{x y:Operand}:bV E true false ops (⟨none,.store t1 x y,t,p,af,none⟩::rest) aL ts H l q=ck (cn ts x) fun a=>ck (cn ts y) fun v=>Ei (iO E H t1 a v) fun s=>bV E true false ops rest aL ts ((cE.bU (s)).app H) l q:=by
 rw[qq rfl rfl];simp only[dz,eL];cases cn ts x with
 |none=>rfl
 |some a=>
  simp only[aR];cases cn ts y with
  |none=>rfl
  |some v=>
   simp only[aR];cases iO E H t1 a v<;>rfl
theorem amu{op:BinOp}{t1 t2:Nat}{x y:Operand}:bV E true false ops (⟨d,.binOp op t1 x y t2,t,p,af,none⟩::rest) aL ts H l q=ck (cn ts x) fun a=>ck (cn ts y) fun b=>ck (dC E (bI x||bI y) op t1 a b) fun v=>bV E true false ops rest aL (bK d v ts) H l q:=by
 rw[qq rfl rfl];simp only[dz,eL];cases cn ts x with
 |none=>rfl
 |some a=>
  simp only[aR];cases cn ts y with
  |none=>rfl
  |some b=>
   simp only[aR];cases dC E (bI x||bI y) op t1 a b<;>rfl
theorem ayp{op:UnOp}{t1:Nat}{x:Operand}:bV E true false ops (⟨d,.unOp op t1 x,t,p,af,none⟩::rest) aL ts H l q=ck (cn ts x) fun a=>ck (unE op a) fun v=>bV E true false ops rest aL (bK d v ts) H l q:=by
 rw[qq rfl rfl];simp only[dz,eL];cases cn ts x with
 |none=>rfl
 |some a=>
  simp only[aR];cases unE op a<;>rfl
theorem aw8{t1 f:Nat}{x:Operand}:bV E true false ops (⟨d,.fieldAddr t1 x f,t,p,af,none⟩::rest) aL ts H l q=ck (cn ts x) fun a=>ck (dy E t1 a f) fun v=>bV E true false ops rest aL (bK d v ts) H l q:=by
 rw[qq rfl rfl];simp only[dz,eL];cases cn ts x with
 |none=>rfl
 |some a=>
  simp only[aR];cases dy E t1 a f<;>rfl
theorem auX{t1:Nat}{x y:Operand}:bV E true false ops (⟨d,.indexAddr t1 x y,t,p,af,none⟩::rest) aL ts H l q=ck (cn ts x) fun a=>ck (cn ts y) fun b=>ck (cF E t1 a b) fun v=>bV E true false ops rest aL (bK d v ts) H l q:=by
 rw[qq rfl rfl];simp only[dz,eL];cases cn ts x with
 |none=>rfl
 |some a=>
  simp only[aR];cases cn ts y with
  |none=>rfl
  |some b=>
   simp only[aR];cases cF E t1 a b<;>rfl
theorem Uz{i:Nat}{x:Operand}:bV E true false ops (⟨d,.extract x i,t,p,af,none⟩::rest) aL ts H l q=ck (cn ts x) fun a=>ck (nth a i) fun v=>bV E true false ops rest aL (bK d v ts) H l q:=by
 rw[qq rfl rfl];simp only[dz,eL];cases cn ts x with
 |none=>rfl
 |some a=>
  simp only[aR];cases a<;>try rfl
  rename_i vs;simp only[nth];cases vs[i]?<;>rfl
theorem acj{t1:Nat}{ps:Array (Nat×Operand)}:bV E true false ops (⟨d,.build t1 ps,t,p,af,none⟩::rest) aL ts H l q=BW (xT ts ps.toList) fun vs=>ck (fT E t1 vs) fun v=>bV E true false ops rest aL (bK d v ts) H l q:=by
 rw[qq rfl rfl];simp only[dz,eL,fT];cases xT ts ps.toList with
 |none=>cases gX E t1<;>cases (E.ty t1).bind (·.zero)<;>rfl
 |some vs=>
  cases gX E t1 with
  |none=>rfl
  |some pl=>
   cases (E.ty t1).bind (·.zero)with
   |none=>rfl
   |some z=>simp only[iF];cases gV pl z vs<;>rfl
theorem J7{t1 len:Nat}{ps:Array (Nat×Operand)}:bV E true false ops (⟨d,.buildSlice t1 len ps,t,p,af,none⟩::rest) aL ts H l q=(mD H[aL]?=true/\BW (xT ts ps.toList) fun vs=>tg (aT E aL t1 len vs) fun r=>bV E true false ops rest (aL+1) (bK d r.1 ts) ((cE.bU r.2).app H) l q):=by
 rw[ZR rfl rfl];congr 1;simp only[dz,eL,aT];cases xT ts ps.toList with
 |none=>
  cases E.ty t1 with
  |none=>rfl
  |some i=>
   obtain⟨cV,isAgg,size,bytes,zero,eS⟩:=i;cases cV<;>try rfl
   rename_i e;simp only;cases E.ty e with
   |none=>rfl
   |some ei=>simp only;cases ei.zero<;>rfl
 |some vs=>
  simp only[iF];cases E.ty t1 with
  |none=>rfl
  |some i=>
   obtain⟨cV,isAgg,size,bytes,zero,eS⟩:=i;cases cV<;>try rfl
   rename_i e;simp only;cases E.ty e with
   |none=>rfl
   |some ei=>
    simp only;cases ei.zero with
    |none=>rfl
    |some z=>
     simp only
     split
     ·cases gV (fun i=>some (i*ei.size,ei.size)) (iE z len) vs<;>rfl
     ·rfl
theorem ark{args:Array Operand}{eO:Array Nat}:bV E true false ops (⟨d,.call {callee:=.builtin .len,args:=args,argTypes:=eO},t,p,af,none⟩::rest) aL ts H l q=pT (oa ts args.toList) fun al=>tg (aV E H aL .len eO.toList al) fun r=>bV E true false ops rest aL (bK d r.1 ts) ((cE.bU r.2).app H) l q:=by
 rw[qq rfl rfl];simp only[dz,eL];cases oa ts args.toList with
 |none=>rfl
 |some al=>simp only[ch];cases aV E H aL .len eO.toList al<;>rfl
theorem Y5{args:Array Operand}{eO:Array Nat}:bV E true false ops (⟨d,.call {callee:=.builtin .append,args:=args,argTypes:=eO},t,p,af,none⟩::rest) aL ts H l q=(mD H[aL]?=true/\pT (oa ts args.toList) fun al=>tg (aV E H aL .append eO.toList al) fun r=>bV E true false ops rest (aL+1) (bK d r.1 ts) ((cE.bU r.2).app H) l q):=by
 rw[ZR rfl rfl];congr 1;simp only[dz,eL];cases oa ts args.toList with
 |none=>rfl
 |some al=>simp only[ch];cases aV E H aL .append eO.toList al<;>rfl
theorem abH{t1:Nat}{x:Operand}{lo hi:Option Operand}:bV E true false ops (⟨d,.slice t1 x lo hi none,t,p,af,none⟩::rest) aL ts H l q=ck (cn ts x) fun a=>D4 (jd ts lo) fun b=>D4 (jd ts hi) fun c=>ck (Ez E H t1 a b c) fun v=>bV E true false ops rest aL (bK d v ts) H l q:=by
 rw[qq rfl rfl];simp only[dz,eL,Ez];cases cn ts x with
 |none=>rfl
 |some a=>
  cases jd ts lo with
  |none=>rfl
  |some b=>
   cases jd ts hi with
   |none=>rfl
   |some c=>
    simp only[aR,xF];cases E.ty t1 with
    |none=>simp only;cases iS E t1 a b c<;>rfl
    |some i=>
     obtain⟨cV,isAgg,size,bytes,zero,eS⟩:=i;cases cV<;>simp only<;>first|(cases jQ E H t1 a b c<;>rfl)|(cases iS E t1 a b c<;>rfl)
theorem amS{x:Operand}:bV E true false ops (⟨d,.nilCheck x,t,p,af,none⟩::rest) aL ts H l q=ck (cn ts x) fun a=>ck (MU a) fun v=>bV E true false ops rest aL (bK d v ts) H l q:=by
 rw[qq rfl rfl];simp only[dz,eL,MU];cases cn ts x with
 |none=>rfl
 |some a=>cases a<;>rfl
theorem Fo{s1 d1:Nat}{k0 k':IntKind}{x:Operand}(hs:iI E s1=some k0)(hd:iI E d1=some k'):bV E true false ops (⟨d,.convert s1 d1 x,t,p,af,none⟩::rest) aL ts H l q=ck (cn ts x) fun a=>ck (toK k' a) fun v=>bV E true false ops rest aL (bK d v ts) H l q:=by
 rw[qq rfl (IP hs hd)];simp only[dz,eL];unfold iI at hs hd;cases h1:E.ty s1 with
 |none=>rw[h1]at hs;cases hs
 |some si=>
  cases h2:E.ty d1 with
  |none=>rw[h2]at hd;cases hd
  |some di=>
   rw[h1]at hs;rw[h2]at hd;obtain⟨cV,isAgg,size,bytes,zero,eS⟩:=si;obtain⟨Wi,Zs,af2,YQ,af9,agd⟩:=di;cases cV<;>first|(cases hs;done)|skip
   cases Wi<;>first|(cases hd;done)|skip
   simp only[Option.some.injEq]at hd;subst hd;cases cn ts x with
   |none=>rfl
   |some v=>cases v<;>simp[IV,h1,h2,toK,ck,Hn,qC]
theorem ajS{x:Operand}{args:Array Operand}{eO:Array Nat}:bV E true false ops (⟨d,.call {callee:=.value x,args:=args,argTypes:=eO},t,p,af,none⟩::rest) aL ts H l q=ck (cn ts x) fun fv=>pT (oa ts args.toList) fun al=>Fa fv al fun f bl=>jm E true (rT x) f bl H fun r e=>bV E true false ops rest aL (bK d r ts) (e.app H) l q:=by
 rw[qq rfl rfl];simp only[dz];cases cn ts x with
 |none=>rfl
 |some fv=>
  cases oa ts args.toList with
  |none=>cases fv<;>rfl
  |some al=>
   cases fv<;>try rfl
   rename_i f a c;simp only[aR,ch,xD,K1]
theorem ah8{x:Operand}{e:cE}:bH E ts ⟨d,.move x,t,p,af,none⟩ e=([],[]):=rfl
theorem Yg{x:Operand}{e:cE}:bH E ts ⟨d,.assign x,t,p,af,none⟩ e=([],[]):=rfl
theorem ajk{a b c:Operand}{e:cE}:bH E ts ⟨d,.pick a b c,t,p,af,none⟩ e=([],[]):=rfl
theorem arQ{op:BinOp}{t1 t2:Nat}{x y:Operand}{e:cE}:bH E ts ⟨d,.binOp op t1 x y t2,t,p,af,none⟩ e=([],[]):=rfl
theorem ayd{op:UnOp}{t1:Nat}{x:Operand}{e:cE}:bH E ts ⟨d,.unOp op t1 x,t,p,af,none⟩ e=([],[]):=rfl
theorem axW{t1 f:Nat}{x:Operand}{e:cE}:bH E ts ⟨d,.fieldAddr t1 x f,t,p,af,none⟩ e=([],[]):=rfl
theorem abX{t1 f:Nat}{x:Operand}{e:cE}:bH E ts ⟨d,.field t1 x f,t,p,af,none⟩ e=([],[]):=rfl
theorem avT{t1:Nat}{x y:Operand}{e:cE}:bH E ts ⟨d,.indexAddr t1 x y,t,p,af,none⟩ e=([],[]):=rfl
theorem aem{t1:Nat}{x y:Operand}{e:cE}:bH E ts ⟨d,.index t1 x y,t,p,af,none⟩ e=([],[]):=rfl
theorem Va{i:Nat}{x:Operand}{e:cE}:bH E ts ⟨d,.extract x i,t,p,af,none⟩ e=([],[]):=rfl
theorem adX{t1:Nat}{ps:Array (Nat×Operand)}{e:cE}:bH E ts ⟨d,.build t1 ps,t,p,af,none⟩ e=([],[]):=rfl
theorem aqx{t1:Nat}{x:Operand}{e:cE}:bH E ts ⟨d,.sliceToArrayPointer t1 x,t,p,af,none⟩ e=([],[]):=rfl
theorem alQ{x:Operand}{e:cE}:bH E ts ⟨d,.nilCheck x,t,p,af,none⟩ e=([],[]):=rfl
theorem PU{f:Go.Fn}{first cap:Array Operand}{e:cE}:bH E ts ⟨d,.makeFunc f first cap,t,p,af,none⟩ e=([],[]):=rfl
theorem ase{args:Array Operand}{eO:Array Nat}{e:cE}:bH E ts ⟨d,.call {callee:=.builtin .max,args:=args,argTypes:=eO},t,p,af,none⟩ e=([],[]):=rfl
theorem aor{args:Array Operand}{eO:Array Nat}{e:cE}:bH E ts ⟨d,.call {callee:=.builtin .min,args:=args,argTypes:=eO},t,p,af,none⟩ e=([],[]):=rfl
theorem agz{t1:Nat}{x:Operand}{s:List (Nat×cz)}:bH E ts ⟨d,.load t1 x,t,p,af,none⟩ (.bU s)=(LG ts [x],s.map (·.1)):=rfl
theorem WX{t1:Nat}{x y:Operand}{ok:Bool}{s:List (Nat×cz)}:bH E ts ⟨d,.lookup t1 x y ok,t,p,af,none⟩ (.bU s)=(LG ts [x,y],s.map (·.1)):=rfl
theorem adC{t1:Nat}{x y:Operand}{s:List (Nat×cz)}:bH E ts ⟨d,.store t1 x y,t,p,af,none⟩ (.bU s)=(LG ts [x,y],s.map (·.1)):=rfl
theorem aeh{t1:Nat}{s:List (Nat×cz)}:bH E ts ⟨d,.alloc t1,t,p,af,none⟩ (.bU s)=(LG ts [],s.map (·.1)):=rfl
theorem alH{t1:Nat}{x:Operand}{s:List (Nat×cz)}:bH E ts ⟨d,.box t1 x,t,p,af,none⟩ (.bU s)=(LG ts [x],s.map (·.1)):=rfl
theorem Nb{t1:Nat}{x y:Operand}{s:List (Nat×cz)}:bH E ts ⟨d,.makeSlice t1 x y,t,p,af,none⟩ (.bU s)=(LG ts [x,y],s.map (·.1)):=rfl
theorem LB{t1:Nat}{x y z:Operand}{s:List (Nat×cz)}:bH E ts ⟨d,.mapUpdate t1 x y z,t,p,af,none⟩ (.bU s)=(LG ts [x,y,z],s.map (·.1)):=rfl
theorem Y7{t1:Nat}{x y z:Operand}{s:List (Nat×cz)}:bH E ts ⟨d,.insert t1 x y z,t,p,af,none⟩ (.bU s)=(LG ts [x,y,z],s.map (·.1)):=rfl
theorem anu{args:Array Operand}{eO:Array Nat}{s:List (Nat×cz)}:bH E ts ⟨d,.call {callee:=.builtin .len,args:=args,argTypes:=eO},t,p,af,none⟩ (.bU s)=(LG ts args.toList,s.map (·.1)):=by
 unfold bH;simp only[ka,nh,Op.operands,Call.operands,LG]
 simp
 rfl
theorem Yi{args:Array Operand}{eO:Array Nat}{s:List (Nat×cz)}:bH E ts ⟨d,.call {callee:=.builtin .append,args:=args,argTypes:=eO},t,p,af,none⟩ (.bU s)=(LG ts args.toList,s.map (·.1)):=by
 unfold bH;simp only[ka,nh,Op.operands,Call.operands,LG]
 simp
 rfl
theorem Kw{t1 len:Nat}{ps:Array (Nat×Operand)}{s:List (Nat×cz)}:bH E ts ⟨d,.buildSlice t1 len ps,t,p,af,none⟩ (.bU s)=(LG ts (ps.toList.map (·.2)),s.map (·.1)):=rfl
theorem ahZ{x:Operand}{args:Array Operand}{eO:Array Nat}{r:Bool}{bs:List Nat}:bH E ts ⟨d,.call {callee:=.value x,args:=args,argTypes:=eO},t,p,af,none⟩ (if r=true then cE.looks bs else cE.marks bs)=(bs,[]):=by
 have h:ka E ⟨d,.call {callee:=.value x,args:=args,argTypes:=eO},t,p,af,none⟩=.r∨ka E ⟨d,.call {callee:=.value x,args:=args,argTypes:=eO},t,p,af,none⟩=.w:=by
  unfold ka;simp only;cases x with
  |func f=>
   simp only
   split<;>first|exact .inl rfl|exact .inr rfl
  |_=>exact .inr rfl
 unfold bH;rcases h with h|h<;>rw[h]<;>cases r<;>rfl
theorem ajW{x:Operand}{g:Option (Nat×Bool)}:cu E ⟨d,.move x,t,p,af,g⟩=false:=rfl
theorem X5{x:Operand}{g:Option (Nat×Bool)}:cu E ⟨d,.assign x,t,p,af,g⟩=false:=rfl
theorem ajM{a b c:Operand}{g:Option (Nat×Bool)}:cu E ⟨d,.pick a b c,t,p,af,g⟩=false:=rfl
theorem amt{op:BinOp}{t1 t2:Nat}{x y:Operand}{g:Option (Nat×Bool)}:cu E ⟨d,.binOp op t1 x y t2,t,p,af,g⟩=false:=rfl
theorem aAg{op:UnOp}{t1:Nat}{x:Operand}{g:Option (Nat×Bool)}:cu E ⟨d,.unOp op t1 x,t,p,af,g⟩=false:=rfl
theorem axV{t1 f:Nat}{x:Operand}{g:Option (Nat×Bool)}:cu E ⟨d,.fieldAddr t1 x f,t,p,af,g⟩=false:=rfl
theorem ab3{t1 f:Nat}{x:Operand}{g:Option (Nat×Bool)}:cu E ⟨d,.field t1 x f,t,p,af,g⟩=false:=rfl
theorem axT{t1:Nat}{x y:Operand}{g:Option (Nat×Bool)}:cu E ⟨d,.indexAddr t1 x y,t,p,af,g⟩=false:=rfl
theorem abn{t1:Nat}{x y:Operand}{g:Option (Nat×Bool)}:cu E ⟨d,.index t1 x y,t,p,af,g⟩=false:=rfl
theorem Ve{i:Nat}{x:Operand}{g:Option (Nat×Bool)}:cu E ⟨d,.extract x i,t,p,af,g⟩=false:=rfl
theorem adV{t1:Nat}{ps:Array (Nat×Operand)}{g:Option (Nat×Bool)}:cu E ⟨d,.build t1 ps,t,p,af,g⟩=false:=rfl
theorem ari{t1:Nat}{x:Operand}{g:Option (Nat×Bool)}:cu E ⟨d,.sliceToArrayPointer t1 x,t,p,af,g⟩=false:=rfl
theorem aml{x:Operand}{g:Option (Nat×Bool)}:cu E ⟨d,.nilCheck x,t,p,af,g⟩=false:=rfl
theorem Qb{f:Go.Fn}{first cap:Array Operand}{g:Option (Nat×Bool)}:cu E ⟨d,.makeFunc f first cap,t,p,af,g⟩=false:=rfl
theorem apH{args:Array Operand}{eO:Array Nat}{g:Option (Nat×Bool)}:cu E ⟨d,.call {callee:=.builtin .max,args:=args,argTypes:=eO},t,p,af,g⟩=false:=rfl
theorem anp{args:Array Operand}{eO:Array Nat}{g:Option (Nat×Bool)}:cu E ⟨d,.call {callee:=.builtin .min,args:=args,argTypes:=eO},t,p,af,g⟩=false:=rfl
theorem arq{args:Array Operand}{eO:Array Nat}{g:Option (Nat×Bool)}:cu E ⟨d,.call {callee:=.builtin .len,args:=args,argTypes:=eO},t,p,af,g⟩=false:=rfl
theorem ai3{x:Operand}{args:Array Operand}{eO:Array Nat}{g:Option (Nat×Bool)}:cu E ⟨d,.call {callee:=.value x,args:=args,argTypes:=eO},t,p,af,g⟩=false:=rfl
theorem akp{t1:Nat}{x:Operand}{g:Option (Nat×Bool)}:cu E ⟨d,.load t1 x,t,p,af,g⟩=false:=rfl
theorem Y9{t1:Nat}{x y:Operand}{ok:Bool}{g:Option (Nat×Bool)}:cu E ⟨d,.lookup t1 x y ok,t,p,af,g⟩=false:=rfl
theorem acW{t1:Nat}{x y:Operand}{g:Option (Nat×Bool)}:cu E ⟨d,.store t1 x y,t,p,af,g⟩=false:=rfl
theorem Om{t1:Nat}{x y z:Operand}{g:Option (Nat×Bool)}:cu E ⟨d,.mapUpdate t1 x y z,t,p,af,g⟩=false:=rfl
theorem Yt{t1:Nat}{x y z:Operand}{g:Option (Nat×Bool)}:cu E ⟨d,.insert t1 x y z,t,p,af,g⟩=false:=rfl
theorem acu{t1:Nat}{x:Operand}{lo hi mx:Option Operand}{g:Option (Nat×Bool)}:cu E ⟨d,.slice t1 x lo hi mx,t,p,af,g⟩=false:=rfl
theorem aex{t1:Nat}{g:Option (Nat×Bool)}:cu E ⟨d,.alloc t1,t,p,af,g⟩=true:=rfl
theorem alE{t1:Nat}{x:Operand}{g:Option (Nat×Bool)}:cu E ⟨d,.box t1 x,t,p,af,g⟩=true:=rfl
theorem Ns{t1:Nat}{x y:Operand}{g:Option (Nat×Bool)}:cu E ⟨d,.makeSlice t1 x y,t,p,af,g⟩=true:=rfl
theorem Zd{args:Array Operand}{eO:Array Nat}{g:Option (Nat×Bool)}:cu E ⟨d,.call {callee:=.builtin .append,args:=args,argTypes:=eO},t,p,af,g⟩=true:=rfl
theorem KW{t1 len:Nat}{ps:Array (Nat×Operand)}{g:Option (Nat×Bool)}:cu E ⟨d,.buildSlice t1 len ps,t,p,af,g⟩=true:=rfl
theorem TF{t1:Nat}{r0:Option Operand}{g:Option (Nat×Bool)}:cu E ⟨d,.makeMap t1 r0,t,p,af,g⟩=true:=rfl
theorem acf:mD (some eP)=true:=rfl
theorem PD:qd E []=0:=rfl
theorem MS{o:Oper}{l:List Oper}:qd E (o::l)=X4 (cu E o) (qd E l):=rfl
theorem acE:wF 0=[]:=rfl
theorem abK{n:Nat}:wF (n+1)=eP::wF n:=rfl
theorem zB{s1 d1:Nat}{k0 k':IntKind}{x:Operand}{g:Option (Nat×Bool)}(hs:iI E s1=some k0)(hd:iI E d1=some k'):cu E ⟨d,.convert s1 d1 x,t,p,af,g⟩=false:=IP (af:=af) (p:=p) (t:=t) (d:=d) (x:=x) hs hd
end
class aya where
 q:Ex->List AV->Hp->Prop
def CvB(E:Env)(c:Code)(ts:List AV)(H:Hp) [b:aya]:Prop:=Cv E c ts H b.q
class ay5 where
 I:Nat->List AV->Hp->Prop
 k:Nat
def af0(ts:List AV)(H:Hp) [b:ay5]:Prop:=∃k',k'<b.k/\b.I k' ts H
def V(E:Env):Code->List AV->Hp->(Ex->List AV->Hp->Prop)->Prop
 |.skip,ts,H,Q=>Q .normal ts H
 |.exit id,ts,H,Q=>Q (.exit id) ts H
 |.ret,ts,H,Q=>Q .ret ts H
 |.seq a b,ts,H,Q=>V E a ts H (Ax (fun ts H=>V E b ts H Q) Q)
 |.block id a,ts,H,Q=>V E a ts H (qf id Q)
 |.cond c a b,ts,H,Q=>ck (cn ts c) fun v=>An v (V E a ts H Q) (V E b ts H Q)
 |.region id ops false,ts,H,Q=>bV E false false (uA ops.toList) ops.toList 0 ts H [] (fun ts H _=>Q .normal ts H)
 |.region id ops true,ts,H,Q=>sS (E.pairs id ops.toList.length).isEmpty (bV E true false (uA ops.toList) ops.toList H.length ts (H++wF (qd E ops.toList)) [] (fun ts H _=>Q .normal ts H)) (bV E true true (uA ops.toList) ops.toList H.length ts (H++wF (qd E ops.toList)) [] (fun ts H l=>(E.pairs id ops.toList.length).all (ur l.reverse)=true/\Q .normal ts H))
 |c,ts,H,Q=>Cv E c ts H Q
theorem V.cv{E:Env}:∀{c:Code} {ts:List AV} {H:Hp} {Q:Ex->List AV->Hp->Prop},V E c ts H Q->Cv E c ts H Q
 |.skip,_,_,_,h=>Cv.skip h
 |.exit _,_,_,_,h=>Cv.exit h
 |.ret,_,_,_,h=>Cv.ret h
 |.seq a b,ts,H,Q,h=>by
  refine Cv.seq ?_
  have:=V.cv (c:=a) h
  refine this.mono ?_;intro ex dx H' k;cases ex with
  |normal=>exact V.cv (c:=b) k
  |ret=>exact k
  |exit id=>exact k
 |.block id a,ts,H,Q,h=>by
  refine Cv.block ?_;refine(V.cv (c:=a) h).mono ?_;intro ex dx H' k;cases ex<;>exact k
 |.cond c a b,ts,H,Q,h=>by
  unfold V at h;cases hc:cn ts c with
  |none=>rw[hc]at h;exact h.elim
  |some v=>
   rw[hc,aR]at h;cases v<;>try exact h.elim
   rename_i z;refine Cv.cond hc ?_;rw[eG]at h;cases z
   ·simp only[aKT,if_false]at h⊢;exact V.cv h
   ·simp only[if_true]at h⊢;exact V.cv h
 |.region id ops false,_,_,_,h=>Cv.azF h
 |.region id ops true,ts,H,Q,h=>by
  unfold V at h;cases hp:(E.pairs id ops.toList.length).isEmpty with
  |true=>rw[hp,jO]at h;exact Cv.aqg (List.isEmpty_iff.1 hp) h
  |false=>rw[hp,iK]at h;exact Cv.aoi h
 |.loop _,_,_,_,h=>h
 |.label _,_,_,_,h=>h
 |.scope _,_,_,_,h=>h
 |.rangeFunc ..,_,_,_,h=>h
 |.goto _,_,_,_,h=>h
 |.refuse _,_,_,_,h=>h
section
variable{E:Env}{ts:List AV}{H:Hp}{Q:Ex->List AV->Hp->Prop}
@[congr] theorem atk {c:Code} {ts dx:List AV} {H H':Hp} (h1:ts=dx) (h2:H=H'):V E c ts H Q=V E c dx H' Q:=by rw[h1,h2]
end
def AH(I:Nat->List AV->Hp->Prop)(k:Nat)(Q:Ex->List AV->Hp->Prop)(ex:Ex)(ts:List AV)(H:Hp):Prop:=match ex with
 |.normal=>∃k',k'<k/\I k' ts H
 |e=>Q e ts H
@[congr] theorem afk {I:Nat->List AV->Hp->Prop} {k:Nat} {Q:Ex->List AV->Hp->Prop} {ex ex':Ex} {ts dx:List AV} {H H':Hp} (h:ex=ex') (h1:ts=dx) (h2:H=H'):AH I k Q ex ts H=AH I k Q ex' dx H':=by rw[h,h1,h2]
theorem jz{I:Nat->List AV->Hp->Prop}{k:Nat}{Q:Ex->List AV->Hp->Prop}{ts:List AV}{H:Hp}:AH I k Q .normal ts H=∃k',k'<k/\I k' ts H:=rfl
theorem jD{I:Nat->List AV->Hp->Prop}{k id:Nat}{Q:Ex->List AV->Hp->Prop}{ts:List AV}{H:Hp}:AH I k Q (.exit id) ts H=Q (.exit id) ts H:=rfl
theorem Ia{E:Env}{body:Code}{Q:Ex->List AV->Hp->Prop}(I:Nat->List AV->Hp->Prop)(k:Nat)(N7:∀k ts H,I k ts H->W E body ts H (AH I k Q)){ts:List AV}{H:Hp}(h:I k ts H):Cv E (.loop body) ts H Q:=by
 refine Cv.loop I ?_ k ts H h;intro k ts H hi;refine(W.cv (N7 k ts H hi)).mono ?_;intro ex dx H' q;cases ex<;>exact q
theorem ft{E:Env}{body:Code}{Q:Ex->List AV->Hp->Prop}(I:Nat->List AV->Hp->Prop)(k:Nat)(N7:∀k ts H,I k ts H->V E body ts H (AH I k Q)){ts:List AV}{H:Hp}(h:I k ts H):@CvB E (.loop body) ts H ⟨Q⟩:=by
 show Cv E (.loop body) ts H Q
 refine Cv.loop I ?_ k ts H h;intro k ts H hi;refine(V.cv (N7 k ts H hi)).mono ?_;intro ex dx H' q;cases ex<;>exact q
theorem dG{I:Nat->List AV->Hp->Prop}{k:Nat}{ts:List AV}{H:Hp}(h:∃k',k'<k/\I k' ts H):@af0 ts H ⟨I,k⟩:=h
def Un(E:Env)(body:Code):Nat->List AV->Hp->(Ex->List AV->Hp->Prop)->Prop
 |0,_,_,_=>False
 |n+1,ts,H,Q=>V E body ts H (Ax (fun ts H=>Un E body n ts H Q) Q)
@[congr] theorem an7 {E:Env} {body:Code} {n:Nat} {ts dx:List AV} {H H':Hp} {Q:Ex->List AV->Hp->Prop} (h1:ts=dx) (h2:H=H'):Un E body n ts H Q=Un E body n dx H' Q:=by rw[h1,h2]
theorem RU{E:Env}{body:Code}{Q:Ex->List AV->Hp->Prop}:∀(n:Nat) {ts:List AV} {H:Hp},Un E body n ts H Q->Cv E (.loop body) ts H Q
 |0,_,_,h=>h.elim
 |n+1,ts,H,h=>by
  refine Cv.round ?_;refine(V.cv h).mono ?_;intro ex dx H' k;cases ex with
  |normal=>exact RU n k
  |ret=>exact k
  |exit id=>exact k
theorem ew{E:Env}{body:Code}{Q:Ex->List AV->Hp->Prop}(n:Nat){ts:List AV}{H:Hp}(h:Un E body n ts H Q):@CvB E (.loop body) ts H ⟨Q⟩:=RU n h
theorem E6{E:Env}{f:Nat}{code:Code}{nt:Nat}{results:List ResultVar}{pu du:Bool}{args:List AV}{G:AV->Prop}(mP:E.ov f args=none)(jE:E.fn f=some {code:=code,ntmps:=nt,results:=results,pure:=pu,fL:=du})(hp:pu=true)
  (h:V E code (args++List.replicate (nt-args.length) aZ) [] (oS E results G)):∃r,aP E f args=some r/\G r:=by
 have:∃r,mU E f args r/\G r:=by
  refine Fm mP jE hp ((V.cv h).mono ?_);intro ex ts H k;cases ex with
  |exit id=>exact k.elim
  |normal=>
   rw[XY]at k;refine⟨fun id h=>(by cases h),?_⟩;show∃rs r bs,iW H E ts results=some rs/\_
   cases h1:iW H E ts results with
   |none=>rw[h1]at k;exact k.elim
   |some rs=>
    rw[h1,ch]at k;cases h2:bW H [kU rs]with
    |none=>rw[h2]at k;exact k.elim
    |some y=>
     obtain⟨rl,bs⟩:=y;rw[h2,dQ]at k;obtain⟨r,rfl,g⟩:=k;exact⟨rs,r,bs,rfl,h2,g⟩
  |ret=>
   rw[lu]at k;refine⟨fun id h=>(by cases h),?_⟩;show∃rs r bs,iW H E ts results=some rs/\_
   cases h1:iW H E ts results with
   |none=>rw[h1]at k;exact k.elim
   |some rs=>
    rw[h1,ch]at k;cases h2:bW H [kU rs]with
    |none=>rw[h2]at k;exact k.elim
    |some y=>
     obtain⟨rl,bs⟩:=y;rw[h2,dQ]at k;obtain⟨r,rfl,g⟩:=k;exact⟨rs,r,bs,rfl,h2,g⟩
 obtain⟨r,h1,h2⟩:=this;exact⟨r,eh h1,h2⟩
def wN(E:Env)(results:List ResultVar)(G:AV->Hp->Prop)(ex:Ex)(ts:List AV)(H:Hp):Prop:=match ex with
 |.exit _=>False
 |_=>pT (iW H E ts results) fun rs=>G (kU rs) H
theorem ajC{E:Env}{results:List ResultVar}{G:AV->Hp->Prop}{ts:List AV}{H:Hp}:wN E results G .ret ts H=pT (iW H E ts results) fun rs=>G (kU rs) H:=rfl
theorem aiy{E:Env}{results:List ResultVar}{G:AV->Hp->Prop}{ts:List AV}{H:Hp}:wN E results G .normal ts H=pT (iW H E ts results) fun rs=>G (kU rs) H:=rfl
@[congr] theorem ajn {E:Env} {results:List ResultVar} {G:AV->Hp->Prop} {ex:Ex} {ts dx:List AV} {H H':Hp} (h1:ts=dx) (h2:H=H'):wN E results G ex ts H=wN E results G ex dx H':=by rw[h1,h2]
theorem KO{E:Env}{f:Nat}{code:Code}{nt:Nat}{results:List ResultVar}{pu du:Bool}{args:List AV}{H:Hp}{G:AV->Hp->Prop}(mP:E.sj f args H=none)(jE:E.fn f=some {code:=code,ntmps:=nt,results:=results,pure:=pu,fL:=du})
  (h:V E code (args++List.replicate (nt-args.length) aZ) H (wN E results G)):∃r H',de E f args H=some (r,H')/\G r H':=by
 obtain⟨n,ex,ts,H',h1,h2⟩:=V.cv h;have key:∃rs,iW H' E ts results=some rs/\G (kU rs) H'/\∀id,ex≠ .exit id:=by
  cases ex with
  |exit id=>exact h2.elim
  |normal=>
   rw[aiy]at h2;cases h3:iW H' E ts results with
   |none=>rw[h3]at h2;exact h2.elim
   |some rs=>rw[h3,ch]at h2;exact⟨rs,rfl,h2,fun id h=>(by cases h)⟩
  |ret=>
   rw[ajC]at h2;cases h3:iW H' E ts results with
   |none=>rw[h3]at h2;exact h2.elim
   |some rs=>rw[h3,ch]at h2;exact⟨rs,rfl,h2,fun id h=>(by cases h)⟩
 obtain⟨rs,h3,h4,h5⟩:=key;refine⟨kU rs,H',CZ ⟨n,?_⟩,h4⟩;unfold ue vh;simp only[mP,jE,h1];cases ex with
 |exit id=>exact absurd rfl (h5 id)
 |normal=>simp only[h3,aLT]
 |ret=>simp only[h3,aLT]
section
variable{E:Env}{f:Nat}{code:Code}{nt:Nat}{results:List ResultVar}{pu du:Bool}{a b c e:AV}{G:AV->Prop}
theorem fv0(mP:E.ov f []=none)(jE:E.fn f=some {code:=code,ntmps:=nt,results:=results,pure:=pu,fL:=du})(hp:pu=true)
  (h:∀ts:List AV,ts.length=nt->V E code ts [] (oS E results G)):∃r,aP E f []=some r/\G r:=
 E6 mP jE hp (h _ (by simp))
theorem fv1(mP:E.ov f [a]=none)(jE:E.fn f=some {code:=code,ntmps:=nt,results:=results,pure:=pu,fL:=du})(hp:pu=true)(hn:1<=nt)
  (h:∀ts:List AV,ts.length=nt->gt ts 0=a->V E code ts [] (oS E results G)):∃r,aP E f [a]=some r/\G r:=
 E6 mP jE hp (h _ (by simp;omega) rfl)
theorem fv2(mP:E.ov f [a,b]=none)(jE:E.fn f=some {code:=code,ntmps:=nt,results:=results,pure:=pu,fL:=du})(hp:pu=true)(hn:2<=nt)
  (h:∀ts:List AV,ts.length=nt->gt ts 0=a->gt ts 1=b->V E code ts [] (oS E results G)):∃r,aP E f [a,b]=some r/\G r:=
 E6 mP jE hp (h _ (by simp;omega) rfl rfl)
theorem fv3(mP:E.ov f [a,b,c]=none)(jE:E.fn f=some {code:=code,ntmps:=nt,results:=results,pure:=pu,fL:=du})(hp:pu=true)(hn:3<=nt)
  (h:∀ts:List AV,ts.length=nt->gt ts 0=a->gt ts 1=b->gt ts 2=c->V E code ts [] (oS E results G)):∃r,aP E f [a,b,c]=some r/\G r:=
 E6 mP jE hp (h _ (by simp;omega) rfl rfl rfl)
theorem fv4(mP:E.ov f [a,b,c,e]=none)(jE:E.fn f=some {code:=code,ntmps:=nt,results:=results,pure:=pu,fL:=du})(hp:pu=true)(hn:4<=nt)
  (h:∀ts:List AV,ts.length=nt->gt ts 0=a->gt ts 1=b->gt ts 2=c->gt ts 3=e->V E code ts [] (oS E results G)):∃r,aP E f [a,b,c,e]=some r/\G r:=
 E6 mP jE hp (h _ (by simp;omega) rfl rfl rfl rfl)
end
section
variable{E:Env}{f:Nat}{code:Code}{nt:Nat}{results:List ResultVar}{pu du:Bool}{a b c e:AV}{H:Hp}{G:AV->Hp->Prop}
theorem fi1(mP:E.sj f [a] H=none)(jE:E.fn f=some {code:=code,ntmps:=nt,results:=results,pure:=pu,fL:=du})(hn:1<=nt)
  (h:∀ts:List AV,ts.length=nt->gt ts 0=a->V E code ts H (wN E results G)):∃r H',de E f [a] H=some (r,H')/\G r H':=
 KO mP jE (h _ (by simp;omega) rfl)
theorem fi2(mP:E.sj f [a,b] H=none)(jE:E.fn f=some {code:=code,ntmps:=nt,results:=results,pure:=pu,fL:=du})(hn:2<=nt)
  (h:∀ts:List AV,ts.length=nt->gt ts 0=a->gt ts 1=b->V E code ts H (wN E results G)):∃r H',de E f [a,b] H=some (r,H')/\G r H':=
 KO mP jE (h _ (by simp;omega) rfl rfl)
theorem fi3(mP:E.sj f [a,b,c] H=none)(jE:E.fn f=some {code:=code,ntmps:=nt,results:=results,pure:=pu,fL:=du})(hn:3<=nt)
  (h:∀ts:List AV,ts.length=nt->gt ts 0=a->gt ts 1=b->gt ts 2=c->V E code ts H (wN E results G)):∃r H',de E f [a,b,c] H=some (r,H')/\G r H':=
 KO mP jE (h _ (by simp;omega) rfl rfl rfl)
theorem fi4(mP:E.sj f [a,b,c,e] H=none)(jE:E.fn f=some {code:=code,ntmps:=nt,results:=results,pure:=pu,fL:=du})(hn:4<=nt)
  (h:∀ts:List AV,ts.length=nt->gt ts 0=a->gt ts 1=b->gt ts 2=c->gt ts 3=e->V E code ts H (wN E results G)):∃r H',de E f [a,b,c,e] H=some (r,H')/\G r H':=
 KO mP jE (h _ (by simp;omega) rfl rfl rfl rfl)
end
def S(b:List AV):List (Nat×AV)->List AV
 |[]=>b
 |(i,v)::l=>(S b l).set i v
theorem cP{b:List AV}:∀{l:List (Nat×AV)},(S b l).length=b.length
 |[]=>rfl
 |(i,v)::l=>by rw[S,List.length_set,cP]
theorem S6{b:List AV}{j:Nat}:gt (S b []) j=gt b j:=rfl
theorem Sz{b:List AV}{l:List (Nat×AV)}{i:Nat}{v:AV}(h:i<b.length):gt (S b ((i,v)::l)) i=v:=bJ (by rw[cP];exact h)
theorem Mn{b:List AV}{l:List (Nat×AV)}{i j:Nat}{v:AV}(h:i≠j):gt (S b ((i,v)::l)) j=gt (S b l) j:=dF h
theorem azt{b:List AV}{l:List (Nat×AV)}{d:Nat}{v:AV}:bK (some d) v (S b l)=S b ((d,v)::l):=by cases l<;>rfl
theorem VS{E:Env}{c:Code}{ts:List AV}{H:Hp}{Q:Ex->List AV->Hp->Prop}(h:V E c (S ts []) H Q):V E c ts H Q:=h
section
variable{E:Env}{f:Nat}{code:Code}{nt:Nat}{results:List ResultVar}{pu du:Bool}{a b c e:AV}{G:AV->Prop}
theorem gv0(mP:E.ov f []=none)(jE:E.fn f=some {code:=code,ntmps:=nt,results:=results,pure:=pu,fL:=du})(hp:pu=true)
  (h:∀ts:List AV,ts.length=nt->V E code (S ts []) [] (oS E results G)):∃r,aP E f []=some r/\G r:=fv0 mP jE hp h
theorem gv1(mP:E.ov f [a]=none)(jE:E.fn f=some {code:=code,ntmps:=nt,results:=results,pure:=pu,fL:=du})(hp:pu=true)(hn:1<=nt)
  (h:∀ts:List AV,ts.length=nt->gt ts 0=a->V E code (S ts []) [] (oS E results G)):∃r,aP E f [a]=some r/\G r:=fv1 mP jE hp hn h
theorem gv2(mP:E.ov f [a,b]=none)(jE:E.fn f=some {code:=code,ntmps:=nt,results:=results,pure:=pu,fL:=du})(hp:pu=true)(hn:2<=nt)
  (h:∀ts:List AV,ts.length=nt->gt ts 0=a->gt ts 1=b->V E code (S ts []) [] (oS E results G)):∃r,aP E f [a,b]=some r/\G r:=fv2 mP jE hp hn h
theorem gv3(mP:E.ov f [a,b,c]=none)(jE:E.fn f=some {code:=code,ntmps:=nt,results:=results,pure:=pu,fL:=du})(hp:pu=true)(hn:3<=nt)
  (h:∀ts:List AV,ts.length=nt->gt ts 0=a->gt ts 1=b->gt ts 2=c->V E code (S ts []) [] (oS E results G)):∃r,aP E f [a,b,c]=some r/\G r:=fv3 mP jE hp hn h
theorem gv4(mP:E.ov f [a,b,c,e]=none)(jE:E.fn f=some {code:=code,ntmps:=nt,results:=results,pure:=pu,fL:=du})(hp:pu=true)(hn:4<=nt)
  (h:∀ts:List AV,ts.length=nt->gt ts 0=a->gt ts 1=b->gt ts 2=c->gt ts 3=e->V E code (S ts []) [] (oS E results G)):∃r,aP E f [a,b,c,e]=some r/\G r:=fv4 mP jE hp hn h
end
section
variable{E:Env}{f:Nat}{code:Code}{nt:Nat}{results:List ResultVar}{pu du:Bool}{a b c e:AV}{H:Hp}{G:AV->Hp->Prop}
theorem RL(mP:E.sj f [a] H=none)(jE:E.fn f=some {code:=code,ntmps:=nt,results:=results,pure:=pu,fL:=du})(hn:1<=nt)
  (h:∀ts:List AV,ts.length=nt->gt ts 0=a->V E code (S ts []) H (wN E results G)):∃r H',de E f [a] H=some (r,H')/\G r H':=fi1 mP jE hn h
theorem gi2(mP:E.sj f [a,b] H=none)(jE:E.fn f=some {code:=code,ntmps:=nt,results:=results,pure:=pu,fL:=du})(hn:2<=nt)
  (h:∀ts:List AV,ts.length=nt->gt ts 0=a->gt ts 1=b->V E code (S ts []) H (wN E results G)):∃r H',de E f [a,b] H=some (r,H')/\G r H':=fi2 mP jE hn h
theorem gi4(mP:E.sj f [a,b,c,e] H=none)(jE:E.fn f=some {code:=code,ntmps:=nt,results:=results,pure:=pu,fL:=du})(hn:4<=nt)
  (h:∀ts:List AV,ts.length=nt->gt ts 0=a->gt ts 1=b->gt ts 2=c->gt ts 3=e->V E code (S ts []) H (wN E results G)):∃r H',de E f [a,b,c,e] H=some (r,H')/\G r H':=fi4 mP jE hn h
end
section
variable{E:Env}{ts:List AV}{H:Hp}{Q:Ex->List AV->Hp->Prop}{k:List AV->Hp->Prop}{id:Nat}{a b:Code}
theorem aee:V E .skip ts H Q=Q .normal ts H:=propext Iff.rfl
theorem adh:V E (.exit id) ts H Q=Q (.exit id) ts H:=propext Iff.rfl
theorem ag8:V E .ret ts H Q=Q .ret ts H:=propext Iff.rfl
theorem ai5:V E (.seq a b) ts H Q=V E a ts H (Ax (fun ts H=>V E b ts H Q) Q):=propext Iff.rfl
theorem Z6:V E (.block id a) ts H Q=V E a ts H (qf id Q):=propext Iff.rfl
theorem ab1{c:Operand}:V E (.cond c a b) ts H Q=ck (cn ts c) fun v=>An v (V E a ts H Q) (V E b ts H Q):=propext Iff.rfl
theorem UJ{ops:Array Oper}:V E (.region id ops false) ts H Q=bV E false false (uA ops.toList) ops.toList 0 ts H [] (fun ts H _=>Q .normal ts H):=propext Iff.rfl
theorem PF{ops:Array Oper}:V E (.region id ops true) ts H Q=sS (E.pairs id ops.toList.length).isEmpty (bV E true false (uA ops.toList) ops.toList H.length ts (H++wF (qd E ops.toList)) [] (fun ts H _=>Q .normal ts H)) (bV E true true (uA ops.toList) ops.toList H.length ts (H++wF (qd E ops.toList)) [] (fun ts H l=>(E.pairs id ops.toList.length).all (ur l.reverse)=true/\Q .normal ts H)):=propext Iff.rfl
theorem abk:V E (.loop b) ts H Q=@CvB E (.loop b) ts H ⟨Q⟩:=propext Iff.rfl
theorem abE:Ax k Q .normal ts H=k ts H:=propext Iff.rfl
theorem aa9:Ax k Q .ret ts H=Q .ret ts H:=propext Iff.rfl
theorem aef:Ax k Q (.exit id) ts H=Q (.exit id) ts H:=propext Iff.rfl
theorem Tf:qf id Q .normal ts H=Q .normal ts H:=propext Iff.rfl
theorem Ti:qf id Q .ret ts H=Q .ret ts H:=propext Iff.rfl
theorem TB{j:Nat}:qf id Q (.exit j) ts H=if j=id then Q .normal ts H else Q (.exit j) ts H:=propext Iff.rfl
theorem Wn{I:Nat->List AV->Hp->Prop}{k:Nat}:AH I k Q .normal ts H=@af0 ts H ⟨I,k⟩:=propext Iff.rfl
theorem WU{I:Nat->List AV->Hp->Prop}{k:Nat}:AH I k Q .ret ts H=Q .ret ts H:=propext Iff.rfl
theorem aaj{I:Nat->List AV->Hp->Prop}{k:Nat}:AH I k Q (.exit id) ts H=Q (.exit id) ts H:=propext Iff.rfl
theorem aqT{n:Nat}:Un E b (n+1) ts H Q=V E b ts H (Ax (fun ts H=>Un E b n ts H Q) Q):=propext Iff.rfl
theorem abv{results:List ResultVar}{G:AV->Prop}:oS E results G .ret ts H=pT (iW H E ts results) fun rs=>tX (bW H [kU rs]) fun rl bs=>∃r,rl=[r]/\G r:=propext Iff.rfl
theorem abL{results:List ResultVar}{G:AV->Hp->Prop}:wN E results G .ret ts H=pT (iW H E ts results) fun rs=>G (kU rs) H:=propext Iff.rfl
theorem abb{results:List ResultVar}{G:AV->Hp->Prop}:wN E results G .normal ts H=pT (iW H E ts results) fun rs=>G (kU rs) H:=propext Iff.rfl
theorem adQ{dr tr:Bool}{ops:List (Option Nat)}{aL:Nat}{l:List WR}{q:List AV->Hp->List WR->Prop}:bV E dr tr ops [] aL ts H l q=q ts H l:=propext Iff.rfl
end
class KB(α:Type) where
 k:α->Prop
class KB2(α β:Type) where
 k:α->β->Prop
class TwB where
 a:Prop
 b:Prop
def ae3(x:Option AV) [b:KB AV]:Prop:=ck x b.k
def afc(x:Option (AV×List (Nat×cz))) [b:KB (AV×List (Nat×cz))]:Prop:=tg x b.k
def aeS(x:Option (List (Nat×cz))) [b:KB (List (Nat×cz))]:Prop:=Ei x b.k
def aeI(x:Option (List AV)) [b:KB (List AV)]:Prop:=pT x b.k
def aeU(x:Option (List (Nat×AV))) [b:KB (List (Nat×AV))]:Prop:=BW x b.k
def ae5(x:Option (List AV×List Nat)) [b:KB2 (List AV) (List Nat)]:Prop:=tX x b.k
def af7(x:Option (Option AV)) [b:KB (Option AV)]:Prop:=D4 x b.k
def aeO(x:Option (AV×Hp)) [b:KB2 AV Hp]:Prop:=tJ x b.k
def afr(fv:AV)(al:List AV) [b:KB2 Nat (List AV)]:Prop:=Fa fv al b.k
def Xv(c:Bool) [b:TwB]:Prop:=sS c b.a b.b
def Ws(v:AV) [b:TwB]:Prop:=An v b.a b.b
theorem arC{x:Option AV}{k:AV->Prop}:ck x k=@ae3 x ⟨k⟩:=propext Iff.rfl
theorem aqb{x:Option (AV×List (Nat×cz))}{k:AV×List (Nat×cz)->Prop}:tg x k=@afc x ⟨k⟩:=propext Iff.rfl
theorem anT{x:Option (List (Nat×cz))}{k:List (Nat×cz)->Prop}:Ei x k=@aeS x ⟨k⟩:=propext Iff.rfl
theorem amm{x:Option (List AV)}{k:List AV->Prop}:pT x k=@aeI x ⟨k⟩:=propext Iff.rfl
theorem aoV{x:Option (List (Nat×AV))}{k:List (Nat×AV)->Prop}:BW x k=@aeU x ⟨k⟩:=propext Iff.rfl
theorem ang{x:Option (List AV×List Nat)}{k:List AV->List Nat->Prop}:tX x k=@ae5 x ⟨k⟩:=propext Iff.rfl
theorem al0{x:Option (Option AV)}{k:Option AV->Prop}:D4 x k=@af7 x ⟨k⟩:=propext Iff.rfl
theorem aqz{x:Option (AV×Hp)}{k:AV->Hp->Prop}:tJ x k=@aeO x ⟨k⟩:=propext Iff.rfl
theorem anW{x:AV}{al:List AV}{k:Nat->List AV->Prop}:Fa x al k=@afr x al ⟨k⟩:=propext Iff.rfl
theorem YT{c:Bool}{a b:Prop}:sS c a b=@Xv c ⟨a,b⟩:=propext Iff.rfl
theorem XS{v:AV}{a b:Prop}:An v a b=@Ws v ⟨a,b⟩:=propext Iff.rfl
theorem ao5{v:AV}{k:AV->Prop}:@ae3 (some v) ⟨k⟩=k v:=propext Iff.rfl
theorem asL{v:AV×List (Nat×cz)}{k:AV×List (Nat×cz)->Prop}:@afc (some v) ⟨k⟩=k v:=propext Iff.rfl
theorem ana{v:List (Nat×cz)}{k:List (Nat×cz)->Prop}:@aeS (some v) ⟨k⟩=k v:=propext Iff.rfl
theorem alZ{l:List AV}{k:List AV->Prop}:@aeI (some l) ⟨k⟩=k l:=propext Iff.rfl
theorem ap0{l:List (Nat×AV)}{k:List (Nat×AV)->Prop}:@aeU (some l) ⟨k⟩=k l:=propext Iff.rfl
theorem asF{v:List AV}{e:List Nat}{k:List AV->List Nat->Prop}:@ae5 (some (v,e)) ⟨k⟩=k v e:=propext Iff.rfl
theorem aq5{v:AV}{e:Hp}{k:AV->Hp->Prop}:@aeO (some (v,e)) ⟨k⟩=k v e:=propext Iff.rfl
theorem arT{v:Option AV}{k:Option AV->Prop}:@af7 (some v) ⟨k⟩=k v:=propext Iff.rfl
theorem asG{f:Nat}{a c al:List AV}{k:Nat->List AV->Prop}:@afr (.func f a c) al ⟨k⟩=k f (a++al++c):=propext Iff.rfl
theorem ac2{a b:Prop}:@Xv true ⟨a,b⟩=a:=by rw[<-YT,jO]
theorem aae{a b:Prop}:@Xv false ⟨a,b⟩=b:=by rw[<-YT,iK]
theorem adi{a b:Prop}:@Ws (.bool true) ⟨a,b⟩=a:=by rw[<-XS,eG,if_pos rfl]
theorem abo{a b:Prop}:@Ws (.bool false) ⟨a,b⟩=b:=by rw[<-XS,eG,if_neg (by decide)]
theorem zaB{b:Bool}:Ii (.bool b)=some b:=rfl
theorem zaU:Ii aZ=none:=rfl
theorem zsn{b:Bool}:((none:Option Bool)==some b)=false:=by cases b<;>decide
theorem av5:(some false==some true)=false:=by decide
theorem av3:(some true==some false)=false:=by decide
end Dv
namespace Dv
open Go
theorem dZ{a b c d:Prop}(h1:a)(h2:b)(h3:c)(h4:d):(a/\b)/\c/\d:=⟨⟨h1,h2⟩,h3,h4⟩
@[reducible] def fW (f:Func):Code:=match f.body with|some c=>c|none=>.skip
abbrev fI(c:Code)(n:Nat)(r:List ResultVar):Option FnI:=some {code:=c,ntmps:=n,results:=r,pure:=true,fL:=false}
theorem b8{p:Prop} [Decidable p](h:p):decide p=true:=decide_eq_true h
theorem cg{p:Prop} [Decidable p](h:¬p):decide p=false:=decide_eq_false h
theorem dX{o:Option AV}{v:AV}(h:∃u,o=some u/\u=v):o=some v:=by obtain⟨u,h1,rfl⟩:=h;exact h1
end Dv
namespace Dv
open Go Dv
def aN:=dZ (dZ (dZ @aee (And.intro @adh @ag8) @ai5 (And.intro @Z6 @ab1)) (dZ @UJ (And.intro @PF @abk) (And.intro @abE @aa9) (And.intro @aef @Tf)) (dZ @Ti (And.intro @TB @XS) (And.intro @adi @abo) (And.intro @abv @abL)) (dZ @abb (And.intro @WU @aaj) (And.intro @adQ @aeg) (And.intro @adp @Ts))) (dZ (dZ @apU (And.intro @ZQ @ajo) (And.intro @Z2 @aka) (And.intro @ab7 @arh)) (dZ @agV (And.intro @abS @ao9) (And.intro @axJ @axL) (And.intro @avY @aec)) (dZ @ZX (And.intro @XF @NA) (And.intro @Th @aew) (And.intro @Ke @acx)) (dZ @anf (And.intro @aqk @QR) (And.intro @TM @ajY) (And.intro @ajg @WM))) (dZ (dZ @ahT (And.intro @abV @ags) (And.intro @adF @amy) (And.intro @axb @ayZ)) (dZ @Yx (And.intro @U6 @adT) (And.intro @Ki @abZ) (And.intro @alu @aq4)) (dZ @ahM (And.intro @arC @ao5) (And.intro @aqb @asL) (And.intro @anT @ana)) (dZ @YT (And.intro @ac2 @aae) (And.intro @amm @alZ) (And.intro @aoV @ap0))) (dZ (dZ @ang (And.intro @asF @al0) (And.intro @arT @aqz) (And.intro @aq5 @anW)) (dZ @asG (And.intro @aiY @YV) (And.intro @agW @ahn) (And.intro @adR @amu)) (dZ @ayp (And.intro @aw8 @auX) (And.intro @Uz @acj) (And.intro @J7 @abH)) (dZ @amS (And.intro @ajS @aci) (And.intro @ark @Y5) (And.intro @Wn @aqT)))
def lf:=dZ (dZ (dZ (And.intro @aKT (And.intro @if_true.{1} @if_false.{1})) (And.intro @ne_eq.{1} (And.intro @not_false_eq_true @List.map_cons.{0,0})) (And.intro @aLT.{0,0} (And.intro @List.length_cons.{0} @List.length_nil.{0})) (And.intro @List.drop_zero.{0} (And.intro @Bool.not_false @Bool.not_true))) (dZ (And.intro @List.map_nil.{0,0} (And.intro @Nat.add_zero @List.all_cons.{0})) (And.intro @Option.bind_some.{0,0} (And.intro @Bool.false_or @true_and)) (And.intro @List.nil_append.{0} (And.intro @List.append_nil.{0} @Bool.false_and)) (dZ @Nat.zero_add @Bool.true_and @List.getElem?_cons_zero.{0} @beq_self_eq_true.{0})) (dZ (And.intro @Bool.and_false (And.intro @oH @List.all_nil.{0})) (And.intro @List.toList_toArray.{0} (And.intro @List.getElem?_cons_succ.{0} @nz)) (And.intro @oF (And.intro @Ck @Ru)) (dZ @iU @PB @Qj @akF)) (dZ (And.intro @CH (And.intro @Pq @List.cons_append.{0})) (And.intro @List.reverse_cons.{0} (And.intro @List.reverse_nil.{0} @cW)) (And.intro @lk (And.intro @jy @uM)) (dZ @mf @xu @asP @ef))) (dZ (dZ (And.intro @Gx (And.intro @tZ @eQ)) (And.intro @jl (And.intro @Fs @Gd)) (And.intro @cO (And.intro @nu @RO)) (And.intro @Su (And.intro @iA @qj))) (dZ (And.intro @Bool.and_true (And.intro @Bool.and_self @qC)) (And.intro @ye (And.intro @wZ @Bool.or_false)) (And.intro @Bool.or_self (And.intro @Bool.or_true @List.take_succ_cons.{0})) (dZ @List.take_zero.{0} @List.drop_succ_cons.{0} @List.drop_nil.{0} @Nat.le_refl)) (dZ (And.intro @decide_true (And.intro @List.take_nil.{0} @Int.toNat_natCast)) (And.intro @iT (And.intro @List.modify_succ_cons.{0} @List.modify_zero_cons.{0})) (And.intro @and_true (And.intro @cP @S6)) (dZ @Sz @Mn @ah8 @Yg)) (dZ (And.intro @ajk (And.intro @arQ @ayd)) (And.intro @axW (And.intro @abX @avT)) (And.intro @aem (And.intro @Va @adX)) (dZ @aqx @alQ @PU @ase))) (dZ (dZ (And.intro @aor (And.intro @agz @WX)) (And.intro @adC (And.intro @aeh @alH)) (And.intro @Nb (And.intro @LB @Y7)) (And.intro @anu (And.intro @Yi @Kw))) (dZ (And.intro @ahZ (And.intro @ajW @X5)) (And.intro @ajM (And.intro @amt @aAg)) (And.intro @axV (And.intro @ab3 @axT)) (dZ @abn @Ve @adV @ari)) (dZ (And.intro @aml (And.intro @Qb @apH)) (And.intro @anp (And.intro @arq @ai3)) (And.intro @akp (And.intro @Y9 @acW)) (dZ @Om @Yt @acu @aex)) (dZ (And.intro @alE (And.intro @Ns @Zd)) (And.intro @KW (And.intro @TF @acf)) (And.intro @PD (And.intro @MS @acE)) (dZ @abK @aaT @Y3 @Xl))) (dZ (dZ (And.intro @aaV (And.intro @Yl @X8)) (And.intro @Wf (And.intro @QW @RA)) (And.intro @Pm (And.intro @T1 @aea)) (And.intro @zaB (And.intro @zaU @zsn))) (dZ (And.intro @av5 (And.intro @av3 @and_self)) (And.intro @aba (And.intro @Int.natCast_nonneg @Nat.mul_one)) (And.intro @Int.cast_ofNat_Int (And.intro @decide_false @ag4)) (dZ @akq @List.isEmpty_nil.{0} @List.isEmpty_cons.{0} @azt)) (dZ (And.intro @id_eq.{1} (And.intro @List.contains_cons.{0} @List.contains_nil.{0})) (And.intro @alP (And.intro @fW.eq_1 @aU.eq_1)) (And.intro @aU.eq_2 (And.intro @aU.eq_3 @aU.eq_4)) (dZ @aU.eq_5 @aU.eq_6 @aU.eq_7 @aU.eq_8)) (dZ (And.intro @aU.eq_9 (And.intro @bE.eq_1 @bE.eq_2)) (And.intro @bI.eq_1 (And.intro @bI.eq_2 @rT.eq_1)) (And.intro @rT.eq_2 (And.intro @ur.eq_1 @zN.eq_1)) (dZ @tl.eq_1 @RF.eq_1 @uA.eq_1 @uA.eq_2)))
def cR:=dZ (And.intro @S6 @Sz) (And.intro @Mn @cP) (And.intro @bJ @dF) (And.intro @List.length_set.{0} (And.intro @ne_eq.{1} @not_false_eq_true))
end Dv
