/- Lemmas for AssemblyChecks; no condition. -/
import Derived.Test.YtmkjgfnicfpjpaaGreatDoorTag
import Derived.Test.YtmkjgfnicfpjpaaGreatDoorTak
set_option linter.all false
set_option maxHeartbeats 100000000
set_option maxRecDepth 100000
noncomputable section
namespace Go.Proofs.YtmkjgfnicfpjpaaGreatDoor
open Go Dv
def tT:AV:=.bool true
def tF:AV:=.bool false
def tN:AV:=.aH
def tI(n:Int):AV:=.int .i64 n
def tW(n:Int):AV:=.aK [.int .u32 n] 1
def xc(c:Nat):AV:=bif Nat.ble c 1 then .aH else bif Nat.ble c 3 then .dx else tW (c/2-1:Nat)
def xs(c:Nat):AV:=.bool (Nat.beq (c%2) 1)
def xI(a b c:Int):AV:=.agg [tI a,tI b,tI c]
def xA(a:Nat):AV:=.agg [xs a,xc a]
def xB(a b:Nat):AV:=.agg [xs a,xc a,tF,xc b]
def xV(a b c d e f:Nat):AV:=.agg [xs a,xc a,tF,xc b,xs c,xc c,tF,xc d,xs e,xc e,tF,xc f]
def a0:AV:=.str [49,47,50]
def a1:AV:=.str [99,117,98,101]
def a2:AV:=.aK [tI 0,tI 0,tI 0,tI 0,tI 0,tI 1,tI 0,tI 1,tI 0,tI 0,tI 1,tI 1,tI 1,tI 0,tI 0,tI 1,tI 0,tI 1,tI 1,tI 1,tI 0,tI 1,tI 1,tI 1] 8
def a3:AV:=.aK [a1,tI 1,.aK [a2] 1] 1
def a4:AV:=.str [48]
def a5:AV:=.agg [a3,.aK [.str [97],a1,tI 1,tI 0,tI 0,tI 0,a4,a4,a4,.str [98],a1,tI 1,tI 0,tI 0,tI 0,a0,a4,a4] 2]
def a6:AV:=.str [49]
def a7:AV:=.agg [a3,.aK [.str [97],a1,tI 1,tI 0,tI 0,tI 0,a4,a4,a4,.str [98],a1,tI 1,tI 0,tI 0,tI 0,a6,a4,a4] 2]
def a8:AV:=.str [51]
def a9:AV:=.aK [.str [97],a1,tI 1,tI 0,tI 0,tI 0,a4,a4,a4,.str [98],a1,tI 1,tI 0,tI 0,tI 0,a8,a4,a4] 2
def a10:AV:=.agg [a3,a9]
def T8:AV:=.agg [a1,tI 1,.aK [a2] 1]
def a12:AV:=.dx
def a13:AV:=.aK [tF,a12,tF,tN,tF,a12,tF,tN,tF,a12,tF,tN,tF,a12,tF,tN,tF,a12,tF,tN,tF,tW 1,tF,tN,tF,a12,tF,tN,tF,tW 1,tF,tN,tF,a12,tF,tN,tF,a12,tF,tN,tF,tW 1,tF,tN,tF,tW 1,tF,tN,tF,tW 1,tF,tN,tF,a12,tF,tN,tF,a12,tF,tN,tF,tW 1,tF,tN,tF,a12,tF,tN,tF,tW 1,tF,tN,tF,tW 1,tF,tN,tF,tW 1,tF,tN,tF,a12,tF,tN,tF,tW 1,tF,tN,tF,tW 1,tF,tN,tF,tW 1,tF,tN] 8
def a14:AV:=.aK [tI 0,tI 1,tI 3,tI 2] 4
def a15:AV:=.aK [tI 0,tI 2,tI 6,tI 4] 4
def a16:AV:=.aK [tI 0,tI 4,tI 5,tI 1] 4
def a17:AV:=.aK [tI 1,tI 5,tI 7,tI 3] 4
def a18:AV:=.aK [tI 2,tI 3,tI 7,tI 6] 4
def a19:AV:=.aK [tI 4,tI 6,tI 7,tI 5] 4
def a20:AV:=.aK [tT,tW 1,tF,tN,tF,a12,tF,tN,tF,a12,tF,tN,tF,a12,tF,tN,a14,tF,a12,tF,tN,tF,a12,tF,tN,tT,tW 1,tF,tN,tF,a12,tF,tN,a15,tF,a12,tF,tN,tT,tW 1,tF,tN,tF,a12,tF,tN,tF,a12,tF,tN,a16,tF,a12,tF,tN,tF,a12,tF,tN,tF,tW 1,tF,tN,tF,tW 1,tF,tN,a17,tF,a12,tF,tN,tF,tW 1,tF,tN,tF,a12,tF,tN,tF,tW 1,tF,tN,a18,tF,tW 1,tF,tN,tF,a12,tF,tN,tF,a12,tF,tN,tF,tW 1,tF,tN,a19] 6
def a21:AV:=.aK [tI 0,tI 1,tI 0,tI 2,tI 0,tI 2,tI 0,tI 1,tI 0,tI 4,tI 1,tI 2,tI 1,tI 3,tI 0,tI 3,tI 1,tI 5,tI 2,tI 3,tI 2,tI 3,tI 0,tI 4,tI 2,tI 6,tI 1,tI 4,tI 3,tI 7,tI 3,tI 4,tI 4,tI 5,tI 2,tI 5,tI 4,tI 6,tI 1,tI 5,tI 5,tI 7,tI 3,tI 5,tI 6,tI 7,tI 4,tI 5] 12
def a22:AV:=.aK [a13,a20,a21] 1
def a23:AV:=.aK [tF,tW 1,tF,tN,tF,a12,tF,tN,tF,a12,tF,tN,tF,tW 1,tF,tN,tF,a12,tF,tN,tF,tW 1,tF,tN,tF,tW 1,tF,tN,tF,tW 1,tF,tN,tF,a12,tF,tN,tF,tW 1,tF,tN,tF,tW 1,tF,tN,tF,tW 1,tF,tN,tF,tW 2,tF,tN,tF,a12,tF,tN,tF,a12,tF,tN,tF,tW 2,tF,tN,tF,a12,tF,tN,tF,tW 1,tF,tN,tF,tW 2,tF,tN,tF,tW 1,tF,tN,tF,a12,tF,tN,tF,tW 2,tF,tN,tF,tW 1,tF,tN,tF,tW 1,tF,tN] 8
def a24:AV:=.aK [tT,tW 1,tF,tN,tF,a12,tF,tN,tF,a12,tF,tN,tT,tW 1,tF,tN,a14,tF,a12,tF,tN,tF,a12,tF,tN,tT,tW 1,tF,tN,tF,a12,tF,tN,a15,tF,a12,tF,tN,tT,tW 1,tF,tN,tF,a12,tF,tN,tF,a12,tF,tN,a16,tF,a12,tF,tN,tF,a12,tF,tN,tF,tW 1,tF,tN,tF,tW 1,tF,tN,a17,tF,a12,tF,tN,tF,tW 1,tF,tN,tF,a12,tF,tN,tF,tW 1,tF,tN,a18,tF,tW 1,tF,tN,tF,a12,tF,tN,tF,a12,tF,tN,tF,tW 2,tF,tN,a19] 6
def a25:AV:=.aK [tI 1,a22,tI 1,.aK [a23,a24,a21] 1] 2
def a26:AV:=.aK [tF,tW 3,tF,tN,tF,a12,tF,tN,tF,a12,tF,tN,tF,tW 3,tF,tN,tF,a12,tF,tN,tF,tW 1,tF,tN,tF,tW 3,tF,tN,tF,tW 1,tF,tN,tF,a12,tF,tN,tF,tW 3,tF,tN,tF,tW 1,tF,tN,tF,tW 1,tF,tN,tF,tW 4,tF,tN,tF,a12,tF,tN,tF,a12,tF,tN,tF,tW 4,tF,tN,tF,a12,tF,tN,tF,tW 1,tF,tN,tF,tW 4,tF,tN,tF,tW 1,tF,tN,tF,a12,tF,tN,tF,tW 4,tF,tN,tF,tW 1,tF,tN,tF,tW 1,tF,tN] 8
def a27:AV:=.aK [tT,tW 1,tF,tN,tF,a12,tF,tN,tF,a12,tF,tN,tT,tW 3,tF,tN,a14,tF,a12,tF,tN,tF,a12,tF,tN,tT,tW 1,tF,tN,tF,a12,tF,tN,a15,tF,a12,tF,tN,tT,tW 1,tF,tN,tF,a12,tF,tN,tF,a12,tF,tN,a16,tF,a12,tF,tN,tF,a12,tF,tN,tF,tW 1,tF,tN,tF,tW 1,tF,tN,a17,tF,a12,tF,tN,tF,tW 1,tF,tN,tF,a12,tF,tN,tF,tW 1,tF,tN,a18,tF,tW 1,tF,tN,tF,a12,tF,tN,tF,a12,tF,tN,tF,tW 4,tF,tN,a19] 6
def a28:AV:=.aK [tI 1,a22,tI 1,.aK [a26,a27,a21] 1] 2
def a29:AV:=.aK [tF,tW 1,tF,tW 2,tF,a12,tF,tN,tF,a12,tF,tN,tF,tW 1,tF,tW 2,tF,a12,tF,tN,tF,tW 1,tF,tN,tF,tW 1,tF,tW 2,tF,tW 1,tF,tN,tF,a12,tF,tN,tF,tW 1,tF,tW 2,tF,tW 1,tF,tN,tF,tW 1,tF,tN,tF,tW 3,tF,tW 2,tF,a12,tF,tN,tF,a12,tF,tN,tF,tW 3,tF,tW 2,tF,a12,tF,tN,tF,tW 1,tF,tN,tF,tW 3,tF,tW 2,tF,tW 1,tF,tN,tF,a12,tF,tN,tF,tW 3,tF,tW 2,tF,tW 1,tF,tN,tF,tW 1,tF,tN] 8
def a30:AV:=.aK [tT,tW 1,tF,tN,tF,a12,tF,tN,tF,a12,tF,tN,tT,tW 1,tF,tW 2,a14,tF,a12,tF,tN,tF,a12,tF,tN,tT,tW 1,tF,tN,tF,a12,tF,tN,a15,tF,a12,tF,tN,tT,tW 1,tF,tN,tF,a12,tF,tN,tF,a12,tF,tN,a16,tF,a12,tF,tN,tF,a12,tF,tN,tF,tW 1,tF,tN,tF,tW 1,tF,tN,a17,tF,a12,tF,tN,tF,tW 1,tF,tN,tF,a12,tF,tN,tF,tW 1,tF,tN,a18,tF,tW 1,tF,tN,tF,a12,tF,tN,tF,a12,tF,tN,tF,tW 3,tF,tW 2,a19] 6
def a31:AV:=.aK [tI 1,a22,tI 1,.aK [a29,a30,a21] 1] 2
def a32:AV:=.aK [] 0
def a33:AV:=.agg [tF,a32]
def a34:AV:=xA 10
def a35:AV:=tI (-1)
def a36:AV:=.str [50]
def a37:AV:=.str [45,49]
def xL:AV:=.agg [a13,a20,a21]
def a39:AV:=.agg [a26,a27,a21]
def a40:AV:=.tuple [tW 1,a12]
def a41:AV:=.tuple [tW 2,a12]
def gL:AV:=xB 5 0
def dK:AV:=xB 2 0
def a44:AV:=xB 4 0
def a45:AV:=.int .u64 204
def a46:AV:=.tuple [.agg [tI 0,tI 1,tI 0,a45],tT]
def a47:AV:=.int .u64 170
def a48:AV:=.tuple [.agg [tI 0,tI 0,tI 1,a47],tT]
def a49:AV:=.agg [a35,tI 0,tI 0,.int .u64 15]
def a50:AV:=.tuple [a49,tT]
def a51:AV:=.agg [tI 0,a35,tI 0,.int .u64 51]
def a52:AV:=.tuple [a51,tT]
def a53:AV:=.agg [tI 0,tI 0,a35,.int .u64 85]
def a54:AV:=.tuple [a53,tT]
def a55:AV:=.int .u64 240
def a56:AV:=.tuple [.agg [tI 1,tI 0,tI 0,a55],tT]
def a57:AV:=.tuple [.agg [tI 0,tI 1,a35,.int .u64 153],tF]
def a58:AV:=.tuple [.agg [a35,tI 0,tI 1,.int .u64 165],tF]
def a59:AV:=.tuple [.agg [a35,a35,tI 0,.int .u64 60],tF]
def a60:AV:=.tuple [.agg [tI 1,a35,tI 0,.int .u64 195],tF]
def a61:AV:=.tuple [.agg [tI 0,tI 1,tI 1,.int .u64 102],tF]
def a62:AV:=.tuple [.agg [tI 1,tI 0,a35,.int .u64 165],tF]
def a63:AV:=.tuple [.agg [tI 1,tI 1,tI 0,.int .u64 60],tF]
def a64:AV:=.tuple [.agg [a35,tI 1,tI 0,.int .u64 195],tF]
def a65:AV:=.tuple [.agg [tI 0,a35,a35,.int .u64 102],tF]
def a66:AV:=.tuple [.agg [tI 0,a35,tI 1,.int .u64 153],tF]
def a67:AV:=.tuple [.agg [a35,tI 0,a35,.int .u64 90],tF]
def a68:AV:=.tuple [.agg [tI 1,tI 0,tI 1,.int .u64 90],tF]
def gM:AV:=xV 2 0 2 0 4 0
def a70:AV:=.func 187 [] []
def xe:AV:=xB 10 0
def a72:AV:=xB 14 0
def sQ:AV:=xB 6 0
def BB:AV:=xB 0 0
def a75:AV:=.agg [tF,a32,tF,tN]
def a76:AV:=xB 9 0
def a77:AV:=xB 8 0
def a78:AV:=xB 11 0
def a79:AV:=xB 7 0
def a80:AV:=xB 4 4
def B6:AV:=xB 8 6
def a82:AV:=xB 5 6
def T9:AV:=xB 16 6
def E9:AV:=xB 9 6
def a85:AV:=xB 4 6
def a86:AV:=.tuple [xA 4,xA 2,tI 0]
def a87:AV:=.agg [tI 1,tI 5,tI 2,tI 3]
def a88:AV:=.agg [tI 4,tI 6,tI 1,tI 5]
def a89:AV:=.agg [tI 0,tI 4,tI 1,tI 2]
def a90:AV:=.agg [tI 1,tI 3,tI 0,tI 3]
def a91:AV:=.agg [tI 0,tI 1,tI 0,tI 2]
def a92:AV:=.agg [tI 2,tI 3,tI 0,tI 4]
def a93:AV:=.agg [tI 0,tI 2,tI 0,tI 1]
def a94:AV:=.agg [tI 4,tI 5,tI 2,tI 5]
def a95:AV:=.agg [tI 2,tI 6,tI 1,tI 4]
def a96:AV:=.agg [tI 5,tI 7,tI 3,tI 5]
def a97:AV:=.agg [tI 3,tI 7,tI 3,tI 4]
def rT:AV:=xV 8 0 2 0 2 0
def lh:AV:=xV 2 0 2 0 2 0
def cX:AV:=xV 4 0 2 0 2 0
def ahK:AV:=.tuple [cX,tI 0]
def kZ:AV:=xV 4 0 2 0 4 0
def lM:AV:=xV 2 0 4 0 4 0
def gw:AV:=xV 2 0 5 0 2 0
def a105:AV:=xV 4 0 4 0 4 0
def gB:AV:=xV 5 0 2 0 2 0
def a107:AV:=xV 2 0 4 0 2 0
def gx:AV:=xV 2 0 2 0 5 0
def a109:AV:=xV 4 0 4 0 2 0
def anK:AV:=.agg [tI 1,tI 0,tI 0,tI 0,a6,a4,a4]
def anL:AV:=.agg [tI 1,tI 0,tI 0,tI 0,a4,a4,a4]
def anM:AV:=.agg [tI 1,tI 0,tI 0,tI 0,a8,a4,a4]
def abc:AV:=xV 16 0 4 0 4 0
def abd:AV:=xV 30 0 4 0 8 0
def xG:AV:=xV 8 0 4 0 2 0
def a116:AV:=xV 10 0 4 0 4 0
def a117:AV:=xV 0 0 0 0 0 0
def abe:AV:=xV 6 0 4 0 8 0
def a119:AV:=xV 10 0 2 0 4 0
def anN:AV:=.agg [tF,a32,tF,tN,tF,a12,tF,tN,tF,a12,tF,tN]
def Bc:AV:=xV 6 0 4 0 4 0
def xH:AV:=xV 10 0 4 0 2 0
def xJ:AV:=xV 10 0 2 0 2 0
def a124:AV:=xV 6 0 4 0 2 0
def UT:AV:=xV 16 0 2 0 4 0
def abf:AV:=xV 16 0 2 0 2 0
def a127:AV:=xV 6 0 2 0 2 0
def xK:AV:=xV 8 0 4 0 4 0
def UU:AV:=xV 14 0 4 0 4 0
def a130:AV:=xV 8 0 2 0 4 0
def a131:AV:=xV 14 0 2 0 4 0
def abg:AV:=xV 14 0 4 0 2 0
def UW:AV:=xV 16 0 4 0 2 0
def B5:AV:=xV 6 0 2 0 4 0
def ahL:AV:=.tuple [a80,tI 0]
def qX:AV:=xV 4 6 2 0 2 0
def anO:AV:=.agg [tI 1,tI 0,tI 0,tI 0,a0,a4,a4]
def a138:AV:=xV 8 6 2 0 4 0
def a139:AV:=xV 4 6 2 0 4 0
def En:AV:=xV 8 6 4 0 4 0
def a141:AV:=xV 4 6 4 6 4 6
def abh:AV:=xV 16 6 4 6 4 6
def a143:AV:=xV 4 6 4 0 4 0
def Eo:AV:=xV 8 6 2 0 2 0
def a145:AV:=xV 4 6 4 0 2 0
def a146:AV:=xV 8 6 4 0 2 0
def Gz:AV:=.agg [a23,a24,a21]
def a148:AV:=xV 4 4 2 0 2 0
def RB:AV:=xV 0 4 4 0 2 0
def RC:AV:=xV 0 4 2 0 4 0
def L1:AV:=.aK [tF,a12,tF,tN,tF,a12,tF,tN,tF,tW 1,tF,tN,tF,a12,tF,tN,tF,tW 1,tF,tN,tF,a12,tF,tN,tF,tW 1,tF,tN,tF,a12,tF,tN,tF,a12,tF,tN] 3
def a152:AV:=.agg [a29,a30,a21]
def UX:AV:=.agg [tI 1,a22]
def a154:AV:=.agg [tI 1,.aK [a26,a27,a21] 1]
def anP:AV:=.agg [tI 1,.aK [a23,a24,a21] 1]
def a156:AV:=.agg [tI 1,.aK [a29,a30,a21] 1]
def a157:AV:=.aK [tT,tW 1,tF,tN,tF,a12,tF,tN,tF,a12,tF,tN,tF,a12,tF,tN,tT,tW 1,tF,tN,tF,a12,tF,tN,tF,a12,tF,tN,tF,a12,tF,tN,tT,tW 1,tF,tN,tF,a12,tF,tN,tF,a12,tF,tN,tF,tW 1,tF,tN,tF,a12,tF,tN,tF,tW 1,tF,tN,tF,a12,tF,tN,tF,tW 1,tF,tN,tF,a12,tF,tN,tF,a12,tF,tN] 6
def X9:aX:=[
([a0],a5),
([a6],a7),
([a8],a10)]
def Ya:aX:=[
([.str [98]],tT),
([.str [97]],tT),
([.str [97,45,49]],tT),
([a1],tT)]
def Yb:aX:=[
([T8,.cU [a1] 0],tT)]
def Yc:aX:=[
([T8],T8)]
def Yd:aX:=[
([a9,.func 31 [] [.cU [.str [98]] 0]],tI 1)]
def Ye:aX:=[
([a25],.func 67 [] [.cU [a25] 0]),
([a28],.func 67 [] [.cU [a28] 0]),
([a31],.func 67 [] [.cU [a31] 0])]
def Qs:aX:=[
([xA 2,xA 2],a33),
([xA 2,xA 4],xA 2),
([xA 2,xA 26],xA 2),
([xA 2,xA 5],xA 2),
([xA 2,xA 28],xA 2),
([xA 2,xA 8],xA 2),
([xA 0,xA 6],xA 2),
([xA 2,a34],xA 2),
([a33,xA 6],xA 2),
([xA 2,xA 6],xA 2),
([xA 2,xA 30],xA 2),
([xA 4,xA 2],xA 2),
([xA 4,xA 0],xA 2),
([xA 5,xA 2],xA 2),
([xA 5,a34],xA 11),
([xA 14,xA 4],xA 14),
([xA 4,xA 14],xA 14),
([xA 4,xA 50],xA 50),
([xA 4,xA 28],xA 28),
([xA 4,xA 26],xA 26)]
def Qt:aX:=[
([xA 5,xA 4],xA 5),
([xA 4,xA 6],xA 6),
([xA 4,xA 16],xA 16),
([xA 4,xA 32],xA 32),
([xA 5,xA 8],xA 9),
([xA 4,xA 5],xA 5),
([xA 9,xA 4],xA 9),
([xA 8,xA 4],xA 8),
([xA 6,xA 4],xA 6),
([xA 4,xA 30],xA 30),
([xA 4,xA 8],xA 8),
([xA 8,xA 6],xA 14),
([xA 5,xA 6],xA 7),
([xA 4,xA 4],xA 4),
([a34,xA 14],xA 50)]
def Qu:aX:=[
([xA 16,xA 4],xA 16),
([xA 16,xA 6],xA 30),
([xA 6,xA 6],a34),
([xA 4,a34],a34),
([xA 4,xA 170],xA 170),
([xA 50,xA 4],xA 50),
([xA 9,xA 6],xA 15)]
def Qr:aX:=Qs++(Qt++(Qu))
def Yf:aX:=[
([tI 6],xA 14),
([tI 1],xA 4),
([tI 4],a34),
([a35],xA 5),
([tI 0],xA 2)]
def Yg:aX:=[
([xA 2],a4),
([xA 6],a36),
([xA 4],a6),
([xA 5],a37)]
def No:aX:=[
([xA 0],tI 0),
([xA 2],tI 0),
([xA 5],a35),
([xA 9],a35),
([xA 26],tI 1),
([xA 7],a35),
([xA 6],tI 1),
([xA 11],a35),
([xA 14],tI 1),
([xA 50],tI 1),
([a34],tI 1),
([xA 4],tI 1)]
def Np:aX:=[
([xA 5,xA 2],a35),
([xA 5,xA 0],a35),
([xA 4,xA 5],tI 1),
([xA 2,xA 5],tI 1),
([xA 4,xA 2],tI 1),
([xA 2,xA 4],a35),
([xA 4,xA 0],tI 1),
([xA 2,xA 0],tI 0),
([xA 0,xA 0],tI 0),
([xA 2,xA 2],tI 0),
([xA 8,xA 8],tI 0),
([a34,a34],tI 0),
([xA 6,xA 6],tI 0),
([xA 15,xA 15],tI 0),
([xA 9,xA 9],tI 0),
([xA 14,xA 14],tI 0),
([xA 11,xA 11],tI 0),
([xA 5,xA 5],tI 0),
([xA 7,xA 7],tI 0),
([xA 4,xA 4],tI 0),
([xA 11,xA 9],a35),
([a34,xA 8],tI 1),
([xA 26,xA 4],tI 1),
([xA 14,xA 4],tI 1),
([xA 7,xA 5],a35),
([xA 15,xA 7],a35),
([xA 14,xA 6],tI 1),
([xA 6,xA 4],tI 1),
([xA 50,xA 4],tI 1),
([a34,xA 4],tI 1)]
def Nq:aX:=[
([xA 8],xA 9),
([xA 2],xA 2),
([xA 6],xA 7),
([xA 4],xA 5),
([xA 5],xA 4),
([a34],xA 11),
([a33],a33)]
def Nr:aX:=[
([xA 0,xA 2],xA 0),
([xA 4,xA 2],xA 4)]
def Ns:aX:=[
([xL],.func 139 [] [.cU [a13,a20,a21] 0]),
([a39],.func 139 [] [.cU [a26,a27,a21] 0])]
def JK:aX:=[
([a12,tW 4],.tuple [tN,a12]),
([a12,tW 2],.tuple [tN,a12]),
([tN,tW 1],.tuple [tN,tN]),
([tW 12,tW 24],.tuple [tN,tW 12]),
([tW 1,tW 24],.tuple [tN,tW 1]),
([tW 1,tW 2],.tuple [tN,tW 1]),
([tW 7,tW 2],.tuple [tW 3,tW 1]),
([tW 3,tW 2],.tuple [tW 1,tW 1]),
([tW 84,tW 24],.tuple [tW 3,tW 12]),
([tW 2,tW 2],a40),
([tW 6,tW 6],a40),
([tW 12,tW 12],a40),
([tW 4,tW 4],a40),
([tW 1,tW 1],a40),
([tW 24,tW 1],.tuple [tW 24,a12]),
([tW 16,tW 4],.tuple [tW 4,a12]),
([tW 2,tW 1],a41),
([tW 24,tW 12],a41)]
def JL:aX:=[
([tW 84,tW 12],.tuple [tW 7,a12]),
([tW 4,tW 2],a41)]
def G7:aX:=JK++(JL)
def Nt:aX:=[
([a2],tF)]
def Nu:aX:=[
([.int .u64 255],tI 8)]
def Nv:aX:=[
([gL],xA 5),
([dK],xA 2),
([a44],xA 4)]
def Nw:aX:=[
([.aK [tI 1,tI 1] 2],tI 1),
([.aK [a35,tI 1] 2],a35),
([.aK [a35,tI 0] 2],a35),
([.aK [tI 1,a35] 2],tI 1),
([.aK [tI 1,tI 0] 2],tI 1),
([.aK [a35,a35] 2],a35),
([.aK [tI 0,a35] 2],a35),
([.aK [tI 0,tI 1] 2],tI 1)]
def Nx:aX:=[
([tI 5,tI 6],a35),
([tI 2,tI 3],a35),
([tI 3,tI 5],a35),
([tI 0,tI 1],a35),
([tI 3,tI 4],a35),
([tI 2,tI 4],a35),
([tI 0,tI 2],a35),
([tI 1,tI 4],a35),
([tI 0,tI 4],a35),
([tI 1,tI 2],a35),
([tI 4,tI 6],a35),
([tI 4,tI 1],tI 1),
([tI 1,tI 1],tI 0),
([tI 7,tI 6],tI 1),
([tI 4,tI 2],tI 1),
([tI 5,tI 4],tI 1),
([tI 2,tI 1],tI 1),
([tI 6,tI 6],tI 0),
([tI 3,tI 3],tI 0),
([tI 6,tI 5],tI 1),
([tI 3,tI 2],tI 1),
([tI 0,tI 0],tI 0),
([tI 5,tI 3],tI 1),
([tI 2,tI 2],tI 0),
([tI 4,tI 4],tI 0),
([tI 5,tI 5],tI 0),
([tI 3,tI 1],tI 1),
([tI 6,tI 3],tI 1),
([tI 4,tI 3],tI 1),
([tI 7,tI 5],tI 1),
([tI 7,tI 7],tI 0),
([tI 1,tI 0],tI 1)]
def Ny:aX:=[
([a36],tT),
([a6],tT),
([a8],tT),
([a4],tT)]
def Nz:aX:=[
([a8],.tuple [xA 8,tI 0]),
([a6],.tuple [xA 4,tI 0]),
([a36],.tuple [xA 6,tI 0]),
([a4],.tuple [xA 2,tI 0])]
def NA:aX:=[
([a18],a18),
([a16],a16),
([a15],a15),
([a17],a17),
([a19],a19),
([a14],a14)]
def NB:aX:=[
([tI 0],tF),
([tI 1],tF)]
def JM:aX:=[
([a2,tI 7,tI 6,tI 3],a46),
([a2,tI 5,tI 3,tI 1],a48),
([a2,tI 3,tI 2,tI 1],a50)]
def JN:aX:=[
([a2,tI 4,tI 1,tI 0],a52),
([a2,tI 5,tI 1,tI 0],a52),
([a2,tI 6,tI 4,tI 0],a54)]
def JO:aX:=[
([a2,tI 6,tI 5,tI 4],a56),
([a2,tI 7,tI 5,tI 4],a56),
([a2,tI 7,tI 6,tI 2],a46)]
def JP:aX:=[
([a2,tI 6,tI 4,tI 2],a54),
([a2,tI 7,tI 3,tI 1],a48),
([a2,tI 3,tI 2,tI 0],a50)]
def JQ:aX:=[
([a2,tI 7,tI 2,tI 1],.tuple [.agg [tI 1,a35,a35,.int .u64 134],tF]),
([a2,tI 5,tI 3,tI 0],.tuple [.agg [tI 1,tI 1,a35,.int .u64 41],tF]),
([a2,tI 6,tI 5,tI 0],.tuple [.agg [a35,tI 1,tI 1,.int .u64 97],tF])]
def JR:aX:=[
([a2,tI 7,tI 4,tI 2],.tuple [.agg [a35,a35,tI 1,.int .u64 148],tF]),
([a2,tI 6,tI 5,tI 3],.tuple [.agg [tI 1,tI 1,tI 1,.int .u64 104],tF]),
([a2,tI 7,tI 4,tI 1],.tuple [.agg [tI 1,a35,tI 1,.int .u64 146],tF])]
def JS:aX:=[
([a2,tI 6,tI 3,tI 0],.tuple [.agg [a35,tI 1,a35,.int .u64 73],tF]),
([a2,tI 4,tI 2,tI 1],.tuple [.agg [a35,a35,a35,.int .u64 22],tF]),
([a2,tI 7,tI 3,tI 0],a57)]
def JT:aX:=[
([a2,tI 7,tI 5,tI 0],a58),
([a2,tI 5,tI 4,tI 2],a59),
([a2,tI 7,tI 6,tI 1],a60)]
def JU:aX:=[
([a2,tI 6,tI 5,tI 2],a61),
([a2,tI 6,tI 5,tI 1],a61),
([a2,tI 5,tI 2,tI 0],a62)]
def JV:aX:=[
([a2,tI 7,tI 6,tI 0],a60),
([a2,tI 5,tI 3,tI 2],a63),
([a2,tI 7,tI 1,tI 0],a64)]
def FN:aX:=[
([a2,tI 5,tI 2,tI 1],a65),
([a2,tI 7,tI 5,tI 2],a58),
([a2,tI 6,tI 1,tI 0],a64)]
def FO:aX:=[
([a2,tI 7,tI 4,tI 3],a66),
([a2,tI 6,tI 3,tI 1],a67),
([a2,tI 6,tI 2,tI 1],a65)]
def FP:aX:=[
([a2,tI 5,tI 4,tI 3],a59),
([a2,tI 4,tI 3,tI 2],a63),
([a2,tI 6,tI 4,tI 1],a68)]
def FQ:aX:=[
([a2,tI 6,tI 4,tI 3],a68),
([a2,tI 7,tI 4,tI 0],a66),
([a2,tI 4,tI 3,tI 1],a67)]
def FR:aX:=[
([a2,tI 7,tI 2,tI 0],a62),
([a2,tI 4,tI 3,tI 0],a57),
([a2,tI 6,tI 2,tI 0],a54)]
def FT:aX:=[
([a2,tI 7,tI 3,tI 2],a46),
([a2,tI 7,tI 6,tI 4],a56),
([a2,tI 2,tI 1,tI 0],a50)]
def FU:aX:=[
([a2,tI 7,tI 6,tI 5],a56),
([a2,tI 4,tI 2,tI 0],a54),
([a2,tI 5,tI 4,tI 0],a52)]
def FV:aX:=[
([a2,tI 5,tI 4,tI 1],a52),
([a2,tI 7,tI 5,tI 1],a48),
([a2,tI 6,tI 3,tI 2],a46)]
def FW:aX:=[
([a2,tI 7,tI 5,tI 3],a48),
([a2,tI 3,tI 1,tI 0],a50)]
def G8:aX:=JM++(JN++(JO++(JP++(JQ++(JR++(JS++(JT++(JU++(JV++(FN++(FO++(FP++(FQ++(FR++(FT++(FU++(FV++(FW))))))))))))))))))
def NC:aX:=[
([.int .u64 192],tI 6),
([.int .u64 32],tI 5),
([.int .u64 128],tI 7),
([.int .u64 80],tI 4),
([.int .u64 48],tI 4),
([.int .u64 84],tI 2),
([.int .u64 14],tI 1),
([.int .u64 85],tI 0),
([.int .u64 12],tI 2),
([.int .u64 224],tI 5),
([.int .u64 160],tI 5),
([.int .u64 200],tI 3),
([a55],tI 4),
([.int .u64 168],tI 3),
([a47],tI 1),
([.int .u64 8],tI 3),
([.int .u64 50],tI 1),
([.int .u64 15],tI 0),
([a45],tI 2),
([.int .u64 64],tI 6),
([.int .u64 51],tI 0)]
def ND:aX:=[
([tN,gM,a70],.tuple [tI 0,tF])]
def Yh:aX:=[
([a3,.func 28 [] [.cU [a1] 0]],tI 0)]
def Yi:aX:=[
([a35],gL),
([tI 4],xe),
([tI 6],a72),
([tI 1],a44),
([tI 0],dK)]
def Yj:aX:=[
([sQ],tT),
([BB],tT),
([xB 28 0],tT),
([xB 82 0],tT),
([a75],tT),
([xB 22 0],tT),
([xB 20 0],tT),
([xB 56 0],tT),
([a76],tT),
([xB 18 0],tT),
([xB 26 0],tT),
([a44],tT),
([xB 16 0],tT),
([xB 12 0],tT),
([xB 30 0],tT),
([dK],tT),
([a77],tT),
([xB 110 0],tT),
([xB 32 0],tT),
([xB 140 0],tT),
([xB 24 0],tT),
([gL],tT),
([a78],tT),
([a79],tT),
([a72],tT),
([xe],tT)]
def Yk:aX:=[
([a80],xA 4),
([xB 10 4],xA 4),
([B6],xA 6),
([a82],xA 6),
([xB 0 4],xA 4),
([xB 4 50],xA 50),
([T9],xA 6),
([E9],xA 6),
([a85],xA 6)]
def Yl:aX:=[
([a79],a35),
([gL],a35),
([a78],a35),
([a72],tI 1),
([E9],a35),
([a82],a35),
([dK],tI 0),
([sQ],tI 1),
([xB 50 0],tI 1),
([a44],tI 1)]
def Ym:aX:=[
([a6],.tuple [a44,tI 0]),
([a4],.tuple [dK,tI 0]),
([a8],.tuple [a77,tI 0])]
def NF:aX:=[
([],xA 4)]
def NG:aX:=[
([xA 0,xA 4],xA 4),
([xA 14,xA 14],xA 14),
([xA 34,a34],a34),
([xA 2,xA 6],xA 6),
([xA 0,xA 5],xA 4),
([xA 4,xA 4],xA 4),
([a34,a34],a34),
([xA 2,a34],a34),
([a34,xA 6],xA 6),
([xA 5,xA 6],xA 4),
([xA 170,xA 50],xA 26),
([xA 4,xA 50],xA 4),
([xA 9,xA 6],xA 4),
([xA 26,xA 50],xA 26),
([xA 16,xA 6],xA 4),
([xA 8,xA 6],xA 4),
([xA 4,xA 6],xA 4)]
def NH:aX:=[
([xA 14,xA 14],a86),
([a34,a34],a86),
([xA 2,a34],.tuple [xA 0,xA 2,tI 0]),
([a34,xA 6],.tuple [xA 6,xA 2,tI 0]),
([xA 50,xA 26],.tuple [xA 6,xA 2,tI 0]),
([xA 34,a34],.tuple [a34,xA 2,tI 0]),
([xA 4,xA 4],a86),
([xA 6,xA 6],a86),
([xA 2,xA 6],.tuple [xA 0,xA 2,tI 0]),
([xA 170,xA 26],.tuple [xA 16,xA 2,tI 0]),
([xA 26,xA 26],a86)]
def NI:aX:=[
([a2],.aK [a35,tI 0,tI 0,.int .u64 15,tI 0,a35,tI 0,.int .u64 51,tI 0,tI 0,a35,.int .u64 85,tI 0,tI 0,tI 1,a47,tI 0,tI 1,tI 0,a45,tI 1,tI 0,tI 0,a55] 6)]
def JW:aX:=[
([a2,.agg [tI 0,tI 1,tI 0,a45]],a18)]
def JX:aX:=[
([a2,a53],a15)]
def JY:aX:=[
([a2,a49],a14)]
def JZ:aX:=[
([a2,.agg [tI 0,tI 0,tI 1,a47]],a17)]
def J0:aX:=[
([a2,.agg [tI 1,tI 0,tI 0,a55]],a19)]
def J1:aX:=[
([a2,a51],a16)]
def G9:aX:=JW++(JX++(JY++(JZ++(J0++(J1)))))
def NJ:aX:=[
([a87,a88],a35),
([a89,a90],a35),
([a90,a91],tI 1),
([a89,a92],a35),
([a93,a90],a35),
([a87,a90],tI 1),
([a89,a93],tI 1),
([a87,a94],a35),
([a93,a92],a35),
([a94,a88],a35),
([a89,a88],a35),
([a95,a92],tI 1),
([a89,a95],a35),
([a96,a88],tI 1),
([a97,a95],tI 1),
([a94,a95],tI 1),
([a93,a91],tI 1),
([a88,a95],tI 1),
([a87,a92],a35),
([a97,a94],a35),
([a97,a88],a35),
([a87,a95],a35),
([a97,a96],a35),
([.agg [tI 6,tI 7,tI 4,tI 5],a96],tI 1),
([a92,a90],tI 1)]
def akY:aX:=[
([a10,a1],.tuple [T8,tT]),
([a5,a1],.tuple [T8,tT]),
([a7,a1],.tuple [T8,tT])]
def Qw:aX:=[
([dK,a75],dK),
([dK,dK],dK),
([BB,dK],dK),
([a75,dK],dK),
([a75,a75],dK),
([BB,a75],dK),
([a76,dK],a76),
([gL,dK],gL),
([BB,gL],gL),
([dK,gL],gL),
([a79,dK],a79),
([a78,dK],a78),
([gL,a75],gL),
([a79,a75],a79),
([BB,a76],a76),
([BB,a78],a78),
([a75,gL],gL)]
def Qx:aX:=[
([a78,a75],a78),
([a76,a75],a76),
([BB,a79],a79),
([xe,a75],xe),
([a77,dK],a77),
([a44,dK],a44),
([xe,dK],xe),
([a44,a75],a44),
([a77,a75],a77),
([sQ,a75],sQ),
([sQ,dK],sQ),
([BB,a44],a44),
([dK,a44],a44),
([BB,xe],xe),
([dK,sQ],sQ)]
def Qy:aX:=[
([BB,sQ],sQ),
([dK,a77],a77),
([dK,xB 30 0],xB 30 0),
([BB,a77],a77),
([a72,a77],xB 20 0),
([xB 16 0,xB 16 0],xB 30 0),
([xB 20 0,sQ],xB 24 0),
([sQ,a44],a77),
([xB 110 0,xB 32 0],xB 140 0),
([xB 56 0,xB 28 0],xB 82 0),
([xB 82 0,xB 30 0],xB 110 0),
([a72,sQ],xB 18 0),
([a44,a44],sQ),
([xB 18 0,xB 16 0],xB 32 0)]
def Qz:aX:=[
([a77,xe],xB 16 0),
([xe,xe],xB 18 0),
([xe,a77],xB 16 0),
([xB 140 0,xB 32 0],xB 170 0),
([xB 30 0,xB 28 0],xB 56 0),
([xB 16 0,a72],xB 28 0),
([a44,sQ],a77),
([xe,sQ],a72),
([xB 22 0,sQ],xB 26 0),
([xB 20 0,a44],xB 22 0),
([xe,a44],xB 12 0),
([a72,a72],xB 26 0),
([a77,a44],xe),
([a72,xB 16 0],xB 28 0)]
def QA:aX:=[
([xB 24 0,a44],xB 26 0),
([a77,a77],a72),
([xB 12 0,a44],a72),
([xB 20 0,a77],xB 26 0),
([xB 18 0,a44],xB 20 0),
([a44,a77],xe),
([a77,gL],sQ),
([xe,a76],a44),
([sQ,gL],a44),
([sQ,a79],dK),
([a77,a76],dK),
([xe,a78],dK),
([a44,gL],dK)]
def Qv:aX:=Qw++(Qx++(Qy++(Qz++(QA))))
def Yn:aX:=[
([dK],a4),
([a44],a6),
([gL],a37),
([sQ],a36)]
def Yo:aX:=[
([.agg [a8,a4,a4]],.tuple [rT,tI 0]),
([.agg [a4,a4,a4]],.tuple [lh,tI 0]),
([.agg [a6,a4,a4]],ahK)]
def Yp:aX:=[
([dK,dK],a75),
([gL,sQ],a79),
([dK,a44],dK),
([dK,sQ],dK),
([dK,xe],dK),
([a44,xe],xe),
([dK,a77],dK),
([dK,xB 28 0],dK),
([gL,dK],dK),
([dK,xB 26 0],dK),
([gL,a44],gL),
([a44,a77],a77),
([a44,gL],gL),
([a44,sQ],sQ),
([dK,gL],dK),
([gL,xe],a78),
([a44,a44],a44),
([a44,xB 30 0],xB 30 0),
([a44,dK],dK),
([dK,xB 30 0],dK),
([xe,a72],xB 50 0),
([a44,xB 32 0],xB 32 0),
([gL,a77],a76),
([a44,xB 28 0],xB 28 0)]
def Yq:aX:=[
([a85],tF),
([xB 6 4],tT),
([a80],tT),
([a82],tF),
([T9],tF),
([B6],tF),
([xB 4 50],tF),
([xB 0 4],tT),
([E9],tF)]
def Yr:aX:=[
([xA 4,xA 4],a80),
([xA 4,xA 6],a85),
([xA 4,xA 50],xB 4 50),
([xA 9,xA 6],E9),
([xA 8,xA 6],B6),
([xA 16,xA 6],T9),
([xA 5,xA 6],a82),
([a34,xA 6],xB 6 4),
([xA 2,a34],xB 0 4),
([xA 2,xA 6],xB 0 4),
([a34,a34],a80),
([xA 170,xA 50],T9),
([xA 14,xA 14],a80),
([xA 34,a34],xB 10 4),
([xA 26,xA 50],a85)]
def Ys:aX:=[
([gL],xA 4),
([a75],xA 4),
([BB],xA 4),
([xB 26 0],xA 4),
([a72],xA 4),
([sQ],xA 4),
([xB 50 0],xA 4),
([dK],xA 4),
([xB 170 0],xA 4),
([a44],xA 4)]
def Yt:aX:=[
([xI 1 0 1],kZ),
([xI 0 1 1],lM),
([xI 0 (-1) 0],gw),
([xI 1 1 1],a105),
([xI (-1) 0 0],gB),
([xI 0 0 0],lh),
([xI 0 1 0],a107),
([xI 0 0 1],gM),
([xI 1 0 0],cX),
([xI 0 0 (-1)],gx),
([xI 1 1 0],a109)]
def Yu:aX:=[
([gL,BB],a35),
([gL,gL],tI 0),
([a76,a76],tI 0),
([a44,a44],tI 0),
([dK,a44],a35),
([sQ,a44],tI 1),
([dK,BB],tI 0),
([gL,dK],a35),
([a44,BB],tI 1),
([a44,dK],tI 1),
([a77,a77],tI 0),
([a78,a76],a35),
([xe,xe],tI 0),
([a79,a79],tI 0),
([a44,gL],tI 1),
([a78,a78],tI 0),
([sQ,sQ],tI 0),
([dK,dK],tI 0),
([xe,a77],tI 1),
([a79,gL],a35),
([dK,gL],tI 1)]
def Yv:aX:=[
([a0],.tuple [a85,tI 0])]
def NK:aX:=[
([a2],.tuple [.aK [a35,tI 0,tI 0,.int .u64 15,tI 0,tI 0,a35,.int .u64 85,tI 0,a35,tI 0,.int .u64 51,tI 0,tI 0,tI 1,a47,tI 0,tI 1,tI 0,a45,tI 1,tI 0,tI 0,a55] 6,.aK [a14,a15,a16,a17,a18,a19] 6,.int .u64 255])]
def NL:aX:=[
([a20],a21)]
def Yw:aX:=[
([anK],tI 0),
([anL],tI 0),
([anM],tI 0)]
def QC:aX:=[
([BB,xB 0 4],dK),
([BB,a82],a82),
([a82,dK],a82),
([E9,dK],E9),
([a82,a75],a82),
([BB,E9],E9),
([E9,a75],E9),
([BB,a80],a44),
([B6,dK],B6),
([a85,dK],a85),
([a85,a75],a85),
([B6,a75],B6),
([BB,B6],B6),
([dK,a85],a85),
([BB,T9],T9)]
def QD:aX:=[
([BB,a85],a85),
([a85,T9],xB 10 4),
([a44,a85],B6),
([a85,a85],a80),
([B6,a82],a80),
([a85,gL],a82),
([B6,E9],xB 0 4),
([a85,a82],xB 0 4)]
def QB:aX:=QC++(QD)
def QG:aX:=[
([xV 14 0 6 0 4 0,abc],xV 28 0 8 0 6 0),
([lh,a107],a107),
([abd,xV 28 0 6 0 8 0],xV 56 0 8 0 14 0),
([cX,lh],cX),
([xG,a116],xV 16 0 6 0 4 0),
([a117,lh],lh),
([lh,rT],rT),
([a107,a105],xV 4 0 6 0 4 0),
([xV 140 0 24 0 22 0,xV 32 0 4 0 6 0],xV 170 0 26 0 26 0),
([xV 4 0 2 0 6 0,a105],abe),
([lh,lh],lh),
([kZ,rT],a119),
([a117,anN],lh),
([cX,a105],Bc),
([a109,rT],xH),
([cX,rT],xJ),
([lh,.agg [tF,a12,tF,tN,tF,a12,tF,tN,tF,a32,tF,tN]],lh),
([gM,lh],gM),
([a124,a105],xV 8 0 6 0 4 0),
([xV 14 0 20 0 20 0,xV 8 0 6 0 4 0],xV 20 0 24 0 22 0),
([a119,rT],UT),
([lh,anN],lh),
([abf,UT],xV 30 0 2 0 4 0),
([cX,cX],a127),
([gM,cX],kZ),
([xV 82 0 14 0 18 0,xV 30 0 8 0 4 0],xV 110 0 20 0 20 0)]
def QH:aX:=[
([a109,lh],a109),
([xV 4 0 4 0 6 0,lM],xV 4 0 6 0 8 0),
([rT,xK],UU),
([rT,a130],a131),
([xK,rT],UU),
([xV 4 0 6 0 4 0,a109],xV 6 0 8 0 4 0),
([UU,abg],xV 26 0 6 0 4 0),
([lh,lM],lM),
([UW,abf],xV 30 0 4 0 2 0),
([xV 10 0 14 0 18 0,xV 6 0 8 0 4 0],xV 14 0 20 0 20 0),
([xJ,a116],xV 18 0 4 0 4 0),
([a107,lh],a107),
([lh,cX],cX),
([gM,a105],xV 4 0 4 0 6 0),
([gM,kZ],xV 4 0 2 0 6 0),
([cX,kZ],B5),
([lh,.agg [tF,a12,tF,tN,tF,a32,tF,tN,tF,a12,tF,tN]],lh),
([gM,lM],xV 2 0 4 0 6 0),
([a107,cX],a109),
([rT,a119],UT),
([xV 16 0 4 0 6 0,UU],xV 28 0 6 0 8 0),
([xV 8 0 8 0 14 0,xV 4 0 8 0 6 0],xV 10 0 14 0 18 0),
([gM,rT],a130),
([kZ,lh],kZ),
([a131,UU],xV 26 0 4 0 6 0),
([abe,xV 4 0 6 0 8 0],xV 8 0 8 0 14 0)]
def QI:aX:=[
([xH,rT],UW),
([lh,abd],abd),
([a130,rT],a131),
([a107,lM],xV 2 0 6 0 4 0),
([xV 16 0 2 0 6 0,abc],abd),
([a130,a116],xV 16 0 4 0 6 0),
([xG,xK],xV 14 0 6 0 4 0),
([lM,rT],xK),
([a116,rT],abc),
([a105,rT],a116),
([lh,gM],gM),
([rT,xG],abg),
([xV 18 0 4 0 4 0,UT],xV 32 0 4 0 6 0),
([rT,xH],UW),
([xG,rT],abg),
([a105,cX],Bc),
([a107,rT],xG),
([xJ,xH],xV 18 0 4 0 2 0),
([lh,kZ],kZ),
([xV 56 0 8 0 14 0,xV 28 0 8 0 6 0],xV 82 0 14 0 18 0),
([xV 16 0 6 0 4 0,UW],xV 30 0 8 0 4 0),
([lh,abe],abe),
([lM,cX],a105),
([lM,lh],lM),
([lh,a109],a109),
([lM,a107],xV 2 0 6 0 4 0)]
def QJ:aX:=[
([xV 2 0 6 0 4 0,a105],xV 4 0 8 0 6 0),
([xV 18 0 4 0 2 0,abc],xV 32 0 6 0 4 0),
([a130,a119],xV 16 0 2 0 6 0),
([abg,UW],xV 28 0 6 0 2 0),
([a109,cX],a124),
([a105,lh],a105),
([kZ,gM],xV 4 0 2 0 6 0),
([xV 110 0 20 0 20 0,xV 32 0 6 0 4 0],xV 140 0 24 0 22 0),
([xV 20 0 24 0 22 0,xV 8 0 4 0 6 0],xV 26 0 26 0 26 0),
([kZ,cX],B5),
([xJ,rT],abf),
([cX,a109],a124),
([rT,xJ],abf),
([a107,a109],xV 4 0 6 0 2 0),
([Bc,kZ],xV 8 0 4 0 6 0),
([UT,a131],xV 28 0 2 0 6 0)]
def QE:aX:=QG++(QH++(QI++(QJ)))
def Yx:aX:=[
([a72,a72],ahL),
([a44,a44],ahL),
([a44,xB 50 0],.tuple [xB 4 50,tI 0]),
([a44,sQ],.tuple [a85,tI 0])]
def Yy:aX:=[
([xB 6 4],a36),
([a85],a0)]
def Yz:aX:=[
([a107],.agg [a4,a6,a4]),
([gx],.agg [a4,a4,a37]),
([cX],.agg [a6,a4,a4]),
([gM],.agg [a4,a4,a6]),
([gB],.agg [a37,a4,a4]),
([gw],.agg [a4,a37,a4])]
def YA:aX:=[
([.agg [a0,a4,a4]],.tuple [qX,tI 0])]
def YB:aX:=[
([a80,a44],a44),
([a80,gL],gL),
([a80,dK],dK),
([a80,a80],a44),
([a80,xB 0 4],dK),
([gL,a85],a82),
([a80,a85],a85),
([dK,B6],xB 0 4),
([gL,B6],E9),
([a44,a85],a85),
([xB 4 50,xB 170 0],T9),
([a85,xB 10 4],xB 6 4),
([a44,B6],B6),
([a85,a80],a85),
([a80,T9],T9),
([xB 4 50,xB 26 0],a85),
([a44,T9],T9),
([dK,a85],xB 0 4)]
def YC:aX:=[
([a80,BB],tI 1),
([xB 0 4,BB],tI 0),
([B6,a85],tI 1),
([E9,a82],a35),
([E9,E9],tI 0),
([a82,a82],tI 0),
([a85,a85],tI 0),
([B6,B6],tI 0)]
def J2:aX:=[
([gM,gM],a44),
([gM,xJ],dK),
([a107,B5],dK),
([a107,xH],a44),
([gB,gM],dK),
([gM,a105],a44),
([gw,cX],dK),
([gB,lM],dK),
([a107,cX],dK),
([gM,xH],dK),
([cX,xV 4 0 5 0 2 0],a44),
([cX,xH],xe),
([cX,xK],a77),
([a107,a116],a44),
([cX,xG],a77),
([a107,lM],a44),
([gw,gM],dK),
([gB,lh],dK)]
def J3:aX:=[
([gx,a130],gL),
([a107,Bc],a44),
([gM,rT],dK),
([gM,gB],dK),
([gB,Bc],a79),
([gB,rT],a76),
([gw,Bc],gL),
([cX,gw],dK),
([gM,kZ],a44),
([gM,a109],dK),
([gx,Bc],gL),
([gx,a116],gL),
([gw,kZ],dK),
([a107,xJ],dK),
([gw,xJ],dK),
([gw,a105],gL),
([gM,a107],dK),
([gM,xK],a44)]
def J4:aX:=[
([gx,xK],gL),
([gM,a119],a44),
([gM,Bc],a44),
([gM,cX],dK),
([cX,gM],dK),
([a107,rT],dK),
([gx,xJ],dK),
([a107,gM],dK),
([gB,xK],a76),
([gx,cX],dK),
([a107,xV 2 0 4 0 5 0],a44),
([gw,B5],dK),
([a107,kZ],dK),
([gM,lh],dK),
([cX,cX],a44),
([gB,a107],dK),
([gB,cX],gL),
([cX,a124],sQ)]
def J5:aX:=[
([gx,xG],dK),
([gB,B5],a79),
([gw,a127],dK),
([gM,xG],dK),
([a107,lh],dK),
([gx,a119],gL),
([cX,gx],dK),
([a107,xG],a44),
([gB,xG],a76),
([a107,a130],dK),
([cX,kZ],a44),
([gw,xK],gL),
([gx,gM],gL),
([gM,gx],gL),
([gx,kZ],gL),
([gx,lM],gL),
([cX,lM],dK),
([cX,a127],sQ)]
def J6:aX:=[
([gx,xH],dK),
([gw,lh],dK),
([cX,xJ],xe),
([gB,a119],a78),
([gx,rT],dK),
([gx,a124],dK),
([gw,xG],gL),
([cX,Bc],sQ),
([a107,a119],dK),
([a107,xK],a44),
([gB,a109],gL),
([gM,a124],dK),
([a107,gB],dK),
([a107,xV 5 0 4 0 2 0],a44),
([gw,a107],gL),
([gB,a124],a79),
([gx,a109],dK),
([gM,a116],a44)]
def J7:aX:=[
([gB,kZ],gL),
([a107,a127],dK),
([gw,a130],dK),
([gw,a116],gL),
([gB,a127],a79),
([lh,gx],dK),
([cX,lh],dK),
([a107,a109],a44),
([gB,a116],a78),
([gB,a130],a76),
([cX,B5],sQ),
([cX,gB],gL),
([a107,gx],dK),
([gw,a124],gL),
([cX,a119],xe),
([gM,a127],dK),
([a107,a105],a44),
([gx,a107],dK)]
def J8:aX:=[
([lh,gB],dK),
([gB,xJ],a78),
([a107,a107],a44),
([gB,a105],gL),
([cX,xV 4 0 2 0 5 0],a44),
([gw,lM],gL),
([cX,a107],dK),
([gB,xH],a78),
([gM,B5],a44),
([cX,a116],xe),
([gw,rT],dK),
([gw,xH],gL),
([gx,a105],gL),
([a107,a124],a44),
([gM,a130],a44),
([gx,B5],gL),
([gw,a119],dK),
([gx,lh],dK)]
def J9:aX:=[
([lh,gw],dK),
([cX,a109],a44),
([cX,a130],a77),
([gx,a127],dK),
([gM,gw],dK),
([gw,a109],gL),
([gM,xV 2 0 5 0 4 0],a44),
([a107,gw],gL),
([gM,lM],a44),
([gM,xV 5 0 2 0 4 0],a44),
([cX,a105],a44),
([cX,rT],a77)]
def Hc:aX:=J2++(J3++(J4++(J5++(J6++(J7++(J8++(J9)))))))
def NM:aX:=[
([.agg [a2]],tI 0)]
def Ka:aX:=[
([xG,rT],a107),
([a116,rT],a105),
([xJ,rT],cX),
([rT,rT],lh),
([a107,lh],a107),
([B5,a127],gM),
([a116,xK],cX),
([a116,xH],gM),
([cX,lh],cX),
([a105,lh],a105),
([a109,cX],a107),
([kZ,gM],cX),
([a105,lM],cX),
([a105,a109],gM),
([xH,rT],a109),
([a130,rT],gM),
([B5,kZ],cX)]
def Kb:aX:=[
([gM,lh],gM),
([a105,kZ],a107),
([a109,lh],a109),
([a119,rT],kZ),
([xH,xG],cX),
([kZ,lh],kZ),
([kZ,cX],gM),
([xH,xJ],a107),
([Bc,B5],a107),
([a119,xJ],gM),
([Bc,a124],gM),
([lM,gM],a107),
([lh,lh],lh),
([lM,a107],gM),
([a116,a119],a107),
([a109,a107],cX),
([a124,a127],a107)]
def Kc:aX:=[
([a119,a130],cX),
([Bc,a105],cX),
([a124,a109],cX),
([xK,rT],lM),
([xK,a130],a107),
([xK,xG],gM),
([a127,cX],cX),
([lM,lh],lM)]
def Hd:aX:=Ka++(Kb++(Kc))
def NN:aX:=[
([xA 4,xA 4],ahL)]
def NO:aX:=[
([gx],gM),
([cX],gB),
([gw],a107),
([gM],gx),
([a107],gw),
([gB],cX)]
def NP:aX:=[
([gB,a117],a35),
([gx,gB],tI 1),
([gw,gB],tI 1),
([cX,gB],tI 1),
([gM,cX],a35),
([gw,cX],a35),
([a107,cX],a35),
([cX,a117],tI 1),
([gx,cX],a35),
([gM,a107],a35),
([a107,a117],tI 1),
([gw,a117],a35),
([gw,gM],a35),
([gw,gx],a35),
([a107,gM],tI 1),
([gM,gx],tI 1),
([gx,a117],a35),
([gM,a117],tI 1),
([a107,a107],tI 0),
([cX,cX],tI 0),
([lh,a117],tI 0),
([gM,gM],tI 0)]
def YD:aX:=[
([anO],tI 0)]
def YE:aX:=[
([kZ,qX],a138),
([gM,qX],a139),
([a105,qX],En),
([lh,qX],qX),
([a141,abh],xV 10 4 4 4 4 4),
([lM,qX],a143),
([a117,a141],a141),
([cX,qX],Eo),
([a117,abh],abh),
([a107,qX],a145),
([a109,qX],a146)]
def YF:aX:=[
([xV 6 4 4 6 4 6],.agg [a36,a0,a0])]
def Kd:aX:=[
([gB,a139],a82),
([gw,qX],dK),
([gx,En],gL),
([gw,a146],gL),
([gw,a138],dK),
([gB,a146],E9),
([a107,En],a44),
([a107,a146],a44),
([cX,a139],a85),
([gw,a145],gL),
([gB,En],E9),
([cX,a143],a85),
([gx,a146],dK),
([a107,a145],a44),
([gx,a145],dK),
([gB,qX],a82),
([gx,Eo],dK),
([cX,a145],a85)]
def Ke:aX:=[
([gM,qX],dK),
([cX,En],B6),
([gx,qX],dK),
([gB,Eo],E9),
([gM,En],a44),
([gx,a138],gL),
([gB,a143],a82),
([gw,En],gL),
([gx,a143],gL),
([a107,Eo],dK),
([gw,a143],gL),
([gw,a139],dK),
([a107,a138],dK),
([a107,qX],dK),
([gM,a146],dK),
([gx,a139],gL),
([gM,a138],a44),
([gM,a143],a44)]
def Kf:aX:=[
([gM,Eo],dK),
([gB,a145],a82),
([a107,a139],dK),
([a107,a143],a44),
([gM,a139],a44),
([cX,Eo],B6),
([gB,a138],E9),
([cX,a138],B6),
([gw,Eo],dK),
([cX,a146],B6),
([gM,a145],dK),
([cX,qX],a85)]
def He:aX:=Kd++(Ke++(Kf))
def NQ:aX:=[
([lh],.tuple [a117,tI 19]),
([gM],.tuple [gM,tI 0]),
([gB],.tuple [gB,tI 0]),
([cX],ahK),
([gw],.tuple [gw,tI 0]),
([gx],.tuple [gx,tI 0]),
([a107],.tuple [a107,tI 0])]
def Kg:aX:=[
([xL,a39,gB],a78),
([xL,a39,cX],sQ),
([xL,a39,gx],gL),
([xL,a39,gM],gL)]
def Kh:aX:=[
([xL,Gz,a107],gL),
([xL,Gz,gx],gL),
([xL,Gz,gw],gL),
([xL,Gz,cX],dK)]
def Ki:aX:=[
([xL,a39,gw],gL),
([xL,Gz,gB],a79),
([xL,Gz,gM],gL),
([xL,a39,a107],gL)]
def Hg:aX:=Kg++(Kh++(Ki))
def NR:aX:=[
([gM,a105,lM],a44),
([lh,cX,kZ],dK),
([cX,a105,kZ],a44),
([a107,a105,a109],a44),
([lh,a107,a109],dK),
([lh,kZ,gM],dK),
([gM,kZ,a105],a44),
([lh,gM,lM],dK),
([lh,a109,cX],dK),
([lh,lM,a107],dK),
([a107,lM,a105],a44),
([cX,a109,a105],a44)]
def NS:aX:=[
([a146,a145],a148),
([a145,qX],RB),
([a138,a139],a148),
([En,a143],a148),
([Eo,qX],a148),
([a143,a139],RB),
([En,a138],RB),
([a143,a145],RC),
([a139,qX],RC),
([a146,Eo],RB),
([a138,Eo],RC),
([En,a146],RC)]
def NT:aX:=[
([a148,a117],tI 1),
([RB,a117],tI 1),
([RC,a117],tI 1)]
def NU:aX:=[
([.aK [tF,a12,tF,tN,tF,a12,tF,tN,tF,tW 1,tF,tN,tF,a12,tF,tN,tF,tW 1,tF,tN,tF,a12,tF,tN] 2,cX,a70],.tuple [tI 2,tF]),
([.aK [tF,a12,tF,tN,tF,a12,tF,tN,tF,tW 1,tF,tN] 1,a107,a70],.tuple [tI 1,tF]),
([L1,gM,a70],.tuple [tI 0,tT]),
([L1,a107,a70],.tuple [tI 1,tT]),
([L1,cX,a70],.tuple [tI 2,tT])]
def QM:aX:=[
([a39],abh)]
def QN:aX:=[
([xL],a141)]
def QK:aX:=QM++(QN)
def YG:aX:=[
([a39],a80),
([xL],a80)]
def YH:aX:=[
([.agg [a2]],.tuple [xL,tI 0])]
def NV:aX:=[
([RC],.tuple [gM,tI 0]),
([RB],.tuple [a107,tI 0]),
([a148],ahK)]
def Kj:aX:=[
([xL,a152,gB],E9),
([xL,a152,gw],gL),
([xL,a152,a107],gL),
([xL,a152,cX],a82)]
def Kk:aX:=[
([xL,a152,gM],gL),
([xL,a152,gx],gL)]
def Hh:aX:=Kj++(Kk)
def NW:aX:=[
([xL],L1),
([Gz],L1),
([a39],L1)]
def YI:aX:=[
([T8],.tuple [a22,tI 0])]
def YJ:aX:=[
([UX],a44),
([a154],a44)]
def NX:aX:=[
([a152],L1)]
def YK:aX:=[
([T8],tI 0)]
def QP:aX:=[
([T8,anK],.tuple [anP,tI 0])]
def QQ:aX:=[
([T8,anL],.tuple [UX,tI 0])]
def QR:aX:=[
([T8,anO],.tuple [a156,tI 0])]
def QS:aX:=[
([T8,anM],.tuple [a154,tI 0])]
def QO:aX:=QP++(QQ++(QR++(QS)))
def YL:aX:=[
([a5],tI 0),
([a7],tI 0),
([a10],tI 0)]
def Ni:aX:=[
([a5],.tuple [a31,tI 0]),
([a10],.tuple [a28,tI 0]),
([a7],.tuple [a25,tI 0])]
def SH:aX:=[
([xL,a152],a157)]
def SI:aX:=[
([xL,Gz],a157)]
def SJ:aX:=[
([xL,a39],a157)]
def Qq:aX:=SH++(SI++(SJ))
def Nj:aX:=[
([xL,a39],tI 1),
([xL,a152],tI 3),
([xL,Gz],tI 2)]
def Nk:aX:=[
([UX,a156],tI 3),
([UX,a154],tI 1),
([UX,anP],tI 2)]
def Nl:aX:=[
([a10],.tuple [tN,tI 0]),
([a7],.tuple [.aK [tI 0,tI 1,tI 2] 1,tI 0])]
def Nn:aX:=[
([a5],.tuple [tI 0,tI 1,tI 25]),
([a7],.tuple [tI 0,tI 0,tI 0])]
def tree:Dv.Tree:=.node 96 (.node 54 (.node 29 (.node 19 (.node 17 (.node 12 (.leaf 8 [(3,akY)]) (.leaf 12 [(9,YL)])) (.node 18 (.leaf 17 [(10,Ni)]) (.leaf 18 [(14,Nl)]))) (.node 26 (.node 25 (.leaf 19 [(14,Nn)]) (.leaf 25 [(1,X9)])) (.node 27 (.leaf 26 [(1,Ya)]) (.node 28 (.leaf 27 [(2,Yh)]) (.leaf 28 [(1,Yb)]))))) (.node 47 (.node 33 (.node 30 (.leaf 29 [(1,Yc)]) (.leaf 30 [(1,Yd)])) (.node 34 (.leaf 33 [(8,YK)]) (.node 44 (.leaf 34 [(4,Yw),(5,YD)]) (.leaf 44 [(1,Ye)])))) (.node 51 (.node 48 (.leaf 47 [(3,Qv),(4,QB)]) (.leaf 48 [(4,QE),(5,YE)])) (.node 52 (.leaf 51 [(4,Yx)]) (.node 53 (.leaf 52 [(2,Yi)]) (.leaf 53 [(3,Yn),(4,Yy)])))))) (.node 74 (.node 68 (.node 64 (.node 63 (.leaf 54 [(4,Yz),(5,YF)]) (.leaf 63 [(7,YI)])) (.node 65 (.leaf 64 [(3,Yo),(4,YA)]) (.leaf 65 [(8,QO)]))) (.node 70 (.node 69 (.leaf 68 [(13,Nk)]) (.leaf 69 [(3,Yp),(4,YB)])) (.node 71 (.leaf 70 [(7,YJ)]) (.node 73 (.leaf 71 [(2,Yj),(3,Yq)]) (.leaf 73 [(3,Yr)]))))) (.node 81 (.node 78 (.node 75 (.leaf 74 [(1,Qr)]) (.leaf 75 [(2,Yk),(3,Ys)])) (.node 79 (.leaf 78 [(6,QK)]) (.node 80 (.leaf 79 [(6,YG)]) (.leaf 80 [(2,Yl)])))) (.node 84 (.node 82 (.leaf 81 [(1,Yf)]) (.leaf 82 [(1,Yg)])) (.node 85 (.leaf 84 [(3,Yt)]) (.node 91 (.leaf 85 [(3,Yu),(4,YC)]) (.leaf 91 [(6,YH)]))))))) (.node 157 (.node 123 (.node 103 (.node 101 (.node 98 (.leaf 96 [(2,Ym),(3,Yv)]) (.leaf 98 [(12,Nj)])) (.node 102 (.leaf 101 [(1,No)]) (.leaf 102 [(1,Np)]))) (.node 109 (.node 108 (.leaf 103 [(2,NF)]) (.leaf 108 [(1,Nq)])) (.node 110 (.leaf 109 [(1,Nr),(2,NG)]) (.node 111 (.leaf 110 [(2,NH)]) (.leaf 111 [(1,Ns)]))))) (.node 134 (.node 125 (.node 124 (.leaf 123 [(4,Hc),(5,He)]) (.leaf 124 [(4,NM)])) (.node 126 (.leaf 125 [(3,NK)]) (.node 127 (.leaf 126 [(5,NQ),(6,NV)]) (.leaf 127 [(3,NL)])))) (.node 137 (.node 135 (.leaf 134 [(11,Qq)]) (.leaf 135 [(5,Hg),(6,Hh)])) (.node 140 (.leaf 137 [(1,G7)]) (.node 141 (.leaf 140 [(5,NR)]) (.leaf 141 [(4,Hd),(5,NS)])))))) (.node 173 (.node 165 (.node 159 (.node 158 (.leaf 157 [(1,Nt)]) (.leaf 158 [(1,Nu)])) (.node 160 (.leaf 159 [(2,NI)]) (.leaf 160 [(2,G9)]))) (.node 169 (.node 166 (.leaf 165 [(4,NN)]) (.leaf 166 [(1,Nv)])) (.node 170 (.leaf 169 [(2,NJ)]) (.node 171 (.leaf 170 [(1,Nw)]) (.leaf 171 [(1,Nx)]))))) (.node 187 (.node 179 (.node 176 (.leaf 173 [(6,NW),(7,NX)]) (.leaf 176 [(1,Ny)])) (.node 181 (.leaf 179 [(1,Nz)]) (.node 183 (.leaf 181 [(1,NA)]) (.leaf 183 [(4,NO)])))) (.node 207 (.node 201 (.leaf 187 [(4,NP),(5,NT)]) (.leaf 201 [(1,NB)])) (.node 208 (.leaf 207 [(1,G8)]) (.node 214 (.leaf 208 [(1,NC)]) (.leaf 214 [(1,ND),(5,NU)])))))))
noncomputable abbrev cK(l f:Nat)(k:aX):Bool:=sY (E0.upto tree l) 100000 f k
noncomputable abbrev lO(n:Nat):Table:=(tree.leaves.filter fun x=>x.2.1==n).map (fun x=>(x.1,x.2.2))
def ak0:Table:=[(25,X9),(26,Ya),(28,Yb),(29,Yc),(30,Yd),(44,Ye),(74,Qr),(81,Yf),(82,Yg),(101,No),(102,Np),(108,Nq),(109,Nr),(111,Ns),(137,G7),(157,Nt),(158,Nu),(166,Nv),(170,Nw),(171,Nx),(176,Ny),(179,Nz),(181,NA),(201,NB),(207,G8),(208,NC),(214,ND)]
def ak1:Table:=[(27,Yh),(52,Yi),(71,Yj),(75,Yk),(80,Yl),(96,Ym),(103,NF),(109,NG),(110,NH),(159,NI),(160,G9),(169,NJ)]
def ak2:Table:=[(8,akY),(47,Qv),(53,Yn),(64,Yo),(69,Yp),(71,Yq),(73,Yr),(75,Ys),(84,Yt),(85,Yu),(96,Yv),(125,NK),(127,NL)]
def ak3:Table:=[(34,Yw),(47,QB),(48,QE),(51,Yx),(53,Yy),(54,Yz),(64,YA),(69,YB),(85,YC),(123,Hc),(124,NM),(141,Hd),(165,NN),(183,NO),(187,NP)]
def ak4:Table:=[(34,YD),(48,YE),(54,YF),(123,He),(126,NQ),(135,Hg),(140,NR),(141,NS),(187,NT),(214,NU)]
def ak5:Table:=[(78,QK),(79,YG),(91,YH),(126,NV),(135,Hh),(173,NW)]
def ak6:Table:=[(63,YI),(70,YJ),(173,NX)]
def ak7:Table:=[(33,YK),(65,QO)]
def ak8:Table:=[(12,YL)]
def YM:Table:=[(17,Ni)]
def auj:Table:=[(134,Qq)]
def YN:Table:=[(98,Nj)]
def YO:Table:=[(68,Nk)]
def YP:Table:=[(18,Nl),(19,Nn)]
end Go.Proofs.YtmkjgfnicfpjpaaGreatDoor
