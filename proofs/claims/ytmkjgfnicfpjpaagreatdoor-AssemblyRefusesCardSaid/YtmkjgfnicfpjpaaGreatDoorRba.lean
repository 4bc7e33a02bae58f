/- Lemmas for AssemblyRefuses; no condition. -/
import Derived.Test.YtmkjgfnicfpjpaaGreatDoorRag
import Derived.Test.YtmkjgfnicfpjpaaGreatDoorRak
set_option linter.all false
set_option maxHeartbeats 100000000
set_option maxRecDepth 100000
noncomputable section
namespace Go.Proofs.YtmkjgfnicfpjpaaGreatDoor
open Go Dv
def tT:AV:=.bool true
def tF:AV:=.bool false
def tN:AV:=.aH
def tI(n:Int):AV:=.int .i64 n
def tW(n:Int):AV:=.aK [.int .u32 n] 1
def xc(c:Nat):AV:=bif Nat.ble c 1 then .aH else bif Nat.ble c 3 then .dw else tW (c/2-1:Nat)
def xs(c:Nat):AV:=.bool (Nat.beq (c%2) 1)
def xI(a b c:Int):AV:=.agg [tI a,tI b,tI c]
def xA(a:Nat):AV:=.agg [xs a,xc a]
def xB(a b:Nat):AV:=.agg [xs a,xc a,tF,xc b]
def xV(a b c d e f:Nat):AV:=.agg [xs a,xc a,tF,xc b,xs c,xc c,tF,xc d,xs e,xc e,tF,xc f]
def a0:AV:=.str [49,47,50]
def a1:AV:=.str [99,117,98,101]
def a2:AV:=.aK [tI 0,tI 0,tI 0,tI 0,tI 0,tI 1,tI 0,tI 1,tI 0,tI 0,tI 1,tI 1,tI 1,tI 0,tI 0,tI 1,tI 0,tI 1,tI 1,tI 1,tI 0,tI 1,tI 1,tI 1] 8
def a3:AV:=.aK [a1,tI 1,.aK [a2] 1] 1
def a4:AV:=.str [48]
def a5:AV:=.agg [a3,.aK [.str [97],a1,tI 1,tI 0,tI 0,tI 0,a4,a4,a4,.str [98],a1,tI 1,tI 0,tI 0,tI 0,a0,a4,a4] 2]
def a6:AV:=.str [49]
def a7:AV:=.agg [a3,.aK [.str [97],a1,tI 1,tI 0,tI 0,tI 0,a4,a4,a4,.str [98],a1,tI 1,tI 0,tI 0,tI 0,a6,a4,a4] 2]
def a8:AV:=.str [51]
def a9:AV:=.aK [.str [97],a1,tI 1,tI 0,tI 0,tI 0,a4,a4,a4,.str [98],a1,tI 1,tI 0,tI 0,tI 0,a8,a4,a4] 2
def a10:AV:=.agg [a3,a9]
def Uj:AV:=.agg [a1,tI 1,.aK [a2] 1]
def a12:AV:=.dw
def a13:AV:=.aK [tF,a12,tF,tN,tF,a12,tF,tN,tF,a12,tF,tN,tF,a12,tF,tN,tF,a12,tF,tN,tF,tW 1,tF,tN,tF,a12,tF,tN,tF,tW 1,tF,tN,tF,a12,tF,tN,tF,a12,tF,tN,tF,tW 1,tF,tN,tF,tW 1,tF,tN,tF,tW 1,tF,tN,tF,a12,tF,tN,tF,a12,tF,tN,tF,tW 1,tF,tN,tF,a12,tF,tN,tF,tW 1,tF,tN,tF,tW 1,tF,tN,tF,tW 1,tF,tN,tF,a12,tF,tN,tF,tW 1,tF,tN,tF,tW 1,tF,tN,tF,tW 1,tF,tN] 8
def a14:AV:=.aK [tI 0,tI 1,tI 3,tI 2] 4
def a15:AV:=.aK [tI 0,tI 2,tI 6,tI 4] 4
def a16:AV:=.aK [tI 0,tI 4,tI 5,tI 1] 4
def a17:AV:=.aK [tI 1,tI 5,tI 7,tI 3] 4
def a18:AV:=.aK [tI 2,tI 3,tI 7,tI 6] 4
def a19:AV:=.aK [tI 4,tI 6,tI 7,tI 5] 4
def a20:AV:=.aK [tT,tW 1,tF,tN,tF,a12,tF,tN,tF,a12,tF,tN,tF,a12,tF,tN,a14,tF,a12,tF,tN,tF,a12,tF,tN,tT,tW 1,tF,tN,tF,a12,tF,tN,a15,tF,a12,tF,tN,tT,tW 1,tF,tN,tF,a12,tF,tN,tF,a12,tF,tN,a16,tF,a12,tF,tN,tF,a12,tF,tN,tF,tW 1,tF,tN,tF,tW 1,tF,tN,a17,tF,a12,tF,tN,tF,tW 1,tF,tN,tF,a12,tF,tN,tF,tW 1,tF,tN,a18,tF,tW 1,tF,tN,tF,a12,tF,tN,tF,a12,tF,tN,tF,tW 1,tF,tN,a19] 6
def a21:AV:=.aK [tI 0,tI 1,tI 0,tI 2,tI 0,tI 2,tI 0,tI 1,tI 0,tI 4,tI 1,tI 2,tI 1,tI 3,tI 0,tI 3,tI 1,tI 5,tI 2,tI 3,tI 2,tI 3,tI 0,tI 4,tI 2,tI 6,tI 1,tI 4,tI 3,tI 7,tI 3,tI 4,tI 4,tI 5,tI 2,tI 5,tI 4,tI 6,tI 1,tI 5,tI 5,tI 7,tI 3,tI 5,tI 6,tI 7,tI 4,tI 5] 12
def a22:AV:=.aK [a13,a20,a21] 1
def a23:AV:=.aK [tF,tW 1,tF,tN,tF,a12,tF,tN,tF,a12,tF,tN,tF,tW 1,tF,tN,tF,a12,tF,tN,tF,tW 1,tF,tN,tF,tW 1,tF,tN,tF,tW 1,tF,tN,tF,a12,tF,tN,tF,tW 1,tF,tN,tF,tW 1,tF,tN,tF,tW 1,tF,tN,tF,tW 2,tF,tN,tF,a12,tF,tN,tF,a12,tF,tN,tF,tW 2,tF,tN,tF,a12,tF,tN,tF,tW 1,tF,tN,tF,tW 2,tF,tN,tF,tW 1,tF,tN,tF,a12,tF,tN,tF,tW 2,tF,tN,tF,tW 1,tF,tN,tF,tW 1,tF,tN] 8
def a24:AV:=.aK [tT,tW 1,tF,tN,tF,a12,tF,tN,tF,a12,tF,tN,tT,tW 1,tF,tN,a14,tF,a12,tF,tN,tF,a12,tF,tN,tT,tW 1,tF,tN,tF,a12,tF,tN,a15,tF,a12,tF,tN,tT,tW 1,tF,tN,tF,a12,tF,tN,tF,a12,tF,tN,a16,tF,a12,tF,tN,tF,a12,tF,tN,tF,tW 1,tF,tN,tF,tW 1,tF,tN,a17,tF,a12,tF,tN,tF,tW 1,tF,tN,tF,a12,tF,tN,tF,tW 1,tF,tN,a18,tF,tW 1,tF,tN,tF,a12,tF,tN,tF,a12,tF,tN,tF,tW 2,tF,tN,a19] 6
def a25:AV:=.aK [tI 1,a22,tI 1,.aK [a23,a24,a21] 1] 2
def a26:AV:=.aK [tF,tW 3,tF,tN,tF,a12,tF,tN,tF,a12,tF,tN,tF,tW 3,tF,tN,tF,a12,tF,tN,tF,tW 1,tF,tN,tF,tW 3,tF,tN,tF,tW 1,tF,tN,tF,a12,tF,tN,tF,tW 3,tF,tN,tF,tW 1,tF,tN,tF,tW 1,tF,tN,tF,tW 4,tF,tN,tF,a12,tF,tN,tF,a12,tF,tN,tF,tW 4,tF,tN,tF,a12,tF,tN,tF,tW 1,tF,tN,tF,tW 4,tF,tN,tF,tW 1,tF,tN,tF,a12,tF,tN,tF,tW 4,tF,tN,tF,tW 1,tF,tN,tF,tW 1,tF,tN] 8
def a27:AV:=.aK [tT,tW 1,tF,tN,tF,a12,tF,tN,tF,a12,tF,tN,tT,tW 3,tF,tN,a14,tF,a12,tF,tN,tF,a12,tF,tN,tT,tW 1,tF,tN,tF,a12,tF,tN,a15,tF,a12,tF,tN,tT,tW 1,tF,tN,tF,a12,tF,tN,tF,a12,tF,tN,a16,tF,a12,tF,tN,tF,a12,tF,tN,tF,tW 1,tF,tN,tF,tW 1,tF,tN,a17,tF,a12,tF,tN,tF,tW 1,tF,tN,tF,a12,tF,tN,tF,tW 1,tF,tN,a18,tF,tW 1,tF,tN,tF,a12,tF,tN,tF,a12,tF,tN,tF,tW 4,tF,tN,a19] 6
def a28:AV:=.aK [tI 1,a22,tI 1,.aK [a26,a27,a21] 1] 2
def a29:AV:=.aK [tF,tW 1,tF,tW 2,tF,a12,tF,tN,tF,a12,tF,tN,tF,tW 1,tF,tW 2,tF,a12,tF,tN,tF,tW 1,tF,tN,tF,tW 1,tF,tW 2,tF,tW 1,tF,tN,tF,a12,tF,tN,tF,tW 1,tF,tW 2,tF,tW 1,tF,tN,tF,tW 1,tF,tN,tF,tW 3,tF,tW 2,tF,a12,tF,tN,tF,a12,tF,tN,tF,tW 3,tF,tW 2,tF,a12,tF,tN,tF,tW 1,tF,tN,tF,tW 3,tF,tW 2,tF,tW 1,tF,tN,tF,a12,tF,tN,tF,tW 3,tF,tW 2,tF,tW 1,tF,tN,tF,tW 1,tF,tN] 8
def a30:AV:=.aK [tT,tW 1,tF,tN,tF,a12,tF,tN,tF,a12,tF,tN,tT,tW 1,tF,tW 2,a14,tF,a12,tF,tN,tF,a12,tF,tN,tT,tW 1,tF,tN,tF,a12,tF,tN,a15,tF,a12,tF,tN,tT,tW 1,tF,tN,tF,a12,tF,tN,tF,a12,tF,tN,a16,tF,a12,tF,tN,tF,a12,tF,tN,tF,tW 1,tF,tN,tF,tW 1,tF,tN,a17,tF,a12,tF,tN,tF,tW 1,tF,tN,tF,a12,tF,tN,tF,tW 1,tF,tN,a18,tF,tW 1,tF,tN,tF,a12,tF,tN,tF,a12,tF,tN,tF,tW 3,tF,tW 2,a19] 6
def a31:AV:=.aK [tI 1,a22,tI 1,.aK [a29,a30,a21] 1] 2
def a32:AV:=.aK [] 0
def a33:AV:=.agg [tF,a32]
def a34:AV:=xA 10
def a35:AV:=tI (-1)
def a36:AV:=.str [50]
def a37:AV:=.str [45,49]
def xP:AV:=.agg [a13,a20,a21]
def a39:AV:=.agg [a26,a27,a21]
def a40:AV:=.tuple [tW 1,a12]
def a41:AV:=.tuple [tW 2,a12]
def gM:AV:=xB 5 0
def dL:AV:=xB 2 0
def a44:AV:=xB 4 0
def a45:AV:=.int .u64 204
def a46:AV:=.tuple [.agg [tI 0,tI 1,tI 0,a45],tT]
def a47:AV:=.int .u64 170
def a48:AV:=.tuple [.agg [tI 0,tI 0,tI 1,a47],tT]
def a49:AV:=.agg [a35,tI 0,tI 0,.int .u64 15]
def a50:AV:=.tuple [a49,tT]
def a51:AV:=.agg [tI 0,a35,tI 0,.int .u64 51]
def a52:AV:=.tuple [a51,tT]
def a53:AV:=.agg [tI 0,tI 0,a35,.int .u64 85]
def a54:AV:=.tuple [a53,tT]
def a55:AV:=.int .u64 240
def a56:AV:=.tuple [.agg [tI 1,tI 0,tI 0,a55],tT]
def a57:AV:=.tuple [.agg [tI 0,tI 1,a35,.int .u64 153],tF]
def a58:AV:=.tuple [.agg [a35,tI 0,tI 1,.int .u64 165],tF]
def a59:AV:=.tuple [.agg [a35,a35,tI 0,.int .u64 60],tF]
def a60:AV:=.tuple [.agg [tI 1,a35,tI 0,.int .u64 195],tF]
def a61:AV:=.tuple [.agg [tI 0,tI 1,tI 1,.int .u64 102],tF]
def a62:AV:=.tuple [.agg [tI 1,tI 0,a35,.int .u64 165],tF]
def a63:AV:=.tuple [.agg [tI 1,tI 1,tI 0,.int .u64 60],tF]
def a64:AV:=.tuple [.agg [a35,tI 1,tI 0,.int .u64 195],tF]
def a65:AV:=.tuple [.agg [tI 0,a35,a35,.int .u64 102],tF]
def a66:AV:=.tuple [.agg [tI 0,a35,tI 1,.int .u64 153],tF]
def a67:AV:=.tuple [.agg [a35,tI 0,a35,.int .u64 90],tF]
def a68:AV:=.tuple [.agg [tI 1,tI 0,tI 1,.int .u64 90],tF]
def gN:AV:=xV 2 0 2 0 4 0
def a70:AV:=.func 187 [] []
def xh:AV:=xB 10 0
def a72:AV:=xB 14 0
def sU:AV:=xB 6 0
def By:AV:=xB 0 0
def a75:AV:=.agg [tF,a32,tF,tN]
def a76:AV:=xB 9 0
def a77:AV:=xB 8 0
def a78:AV:=xB 11 0
def a79:AV:=xB 7 0
def a80:AV:=xB 4 4
def B4:AV:=xB 8 6
def a82:AV:=xB 5 6
def Uk:AV:=xB 16 6
def E7:AV:=xB 9 6
def a85:AV:=xB 4 6
def a86:AV:=.tuple [xA 4,xA 2,tI 0]
def a87:AV:=.agg [tI 1,tI 5,tI 2,tI 3]
def a88:AV:=.agg [tI 4,tI 6,tI 1,tI 5]
def a89:AV:=.agg [tI 0,tI 4,tI 1,tI 2]
def a90:AV:=.agg [tI 1,tI 3,tI 0,tI 3]
def a91:AV:=.agg [tI 0,tI 1,tI 0,tI 2]
def a92:AV:=.agg [tI 2,tI 3,tI 0,tI 4]
def a93:AV:=.agg [tI 0,tI 2,tI 0,tI 1]
def a94:AV:=.agg [tI 4,tI 5,tI 2,tI 5]
def a95:AV:=.agg [tI 2,tI 6,tI 1,tI 4]
def a96:AV:=.agg [tI 5,tI 7,tI 3,tI 5]
def a97:AV:=.agg [tI 3,tI 7,tI 3,tI 4]
def rY:AV:=xV 8 0 2 0 2 0
def lh:AV:=xV 2 0 2 0 2 0
def cX:AV:=xV 4 0 2 0 2 0
def ahO:AV:=.tuple [cX,tI 0]
def k6:AV:=xV 4 0 2 0 4 0
def lR:AV:=xV 2 0 4 0 4 0
def gw:AV:=xV 2 0 5 0 2 0
def a105:AV:=xV 4 0 4 0 4 0
def gB:AV:=xV 5 0 2 0 2 0
def a107:AV:=xV 2 0 4 0 2 0
def gx:AV:=xV 2 0 2 0 5 0
def a109:AV:=xV 4 0 4 0 2 0
def anP:AV:=.agg [tI 1,tI 0,tI 0,tI 0,a6,a4,a4]
def anQ:AV:=.agg [tI 1,tI 0,tI 0,tI 0,a4,a4,a4]
def anR:AV:=.agg [tI 1,tI 0,tI 0,tI 0,a8,a4,a4]
def abd:AV:=xV 16 0 4 0 4 0
def abe:AV:=xV 30 0 4 0 8 0
def xL:AV:=xV 8 0 4 0 2 0
def a116:AV:=xV 10 0 4 0 4 0
def a117:AV:=xV 0 0 0 0 0 0
def abf:AV:=xV 6 0 4 0 8 0
def a119:AV:=xV 10 0 2 0 4 0
def anS:AV:=.agg [tF,a32,tF,tN,tF,a12,tF,tN,tF,a12,tF,tN]
def A9:AV:=xV 6 0 4 0 4 0
def xM:AV:=xV 10 0 4 0 2 0
def xN:AV:=xV 10 0 2 0 2 0
def a124:AV:=xV 6 0 4 0 2 0
def U1:AV:=xV 16 0 2 0 4 0
def abg:AV:=xV 16 0 2 0 2 0
def a127:AV:=xV 6 0 2 0 2 0
def xO:AV:=xV 8 0 4 0 4 0
def U3:AV:=xV 14 0 4 0 4 0
def a130:AV:=xV 8 0 2 0 4 0
def a131:AV:=xV 14 0 2 0 4 0
def abh:AV:=xV 14 0 4 0 2 0
def U4:AV:=xV 16 0 4 0 2 0
def B0:AV:=xV 6 0 2 0 4 0
def ahP:AV:=.tuple [a80,tI 0]
def rh:AV:=xV 4 6 2 0 2 0
def anT:AV:=.agg [tI 1,tI 0,tI 0,tI 0,a0,a4,a4]
def a138:AV:=xV 8 6 2 0 4 0
def a139:AV:=xV 4 6 2 0 4 0
def El:AV:=xV 8 6 4 0 4 0
def a141:AV:=xV 4 6 4 6 4 6
def abi:AV:=xV 16 6 4 6 4 6
def a143:AV:=xV 4 6 4 0 4 0
def Em:AV:=xV 8 6 2 0 2 0
def a145:AV:=xV 4 6 4 0 2 0
def a146:AV:=xV 8 6 4 0 2 0
def Gz:AV:=.agg [a23,a24,a21]
def a148:AV:=xV 4 4 2 0 2 0
def RH:AV:=xV 0 4 4 0 2 0
def RI:AV:=xV 0 4 2 0 4 0
def L6:AV:=.aK [tF,a12,tF,tN,tF,a12,tF,tN,tF,tW 1,tF,tN,tF,a12,tF,tN,tF,tW 1,tF,tN,tF,a12,tF,tN,tF,tW 1,tF,tN,tF,a12,tF,tN,tF,a12,tF,tN] 3
def a152:AV:=.agg [a29,a30,a21]
def U5:AV:=.agg [tI 1,a22]
def a154:AV:=.agg [tI 1,.aK [a26,a27,a21] 1]
def anU:AV:=.agg [tI 1,.aK [a23,a24,a21] 1]
def a156:AV:=.agg [tI 1,.aK [a29,a30,a21] 1]
def a157:AV:=.aK [tT,tW 1,tF,tN,tF,a12,tF,tN,tF,a12,tF,tN,tF,a12,tF,tN,tT,tW 1,tF,tN,tF,a12,tF,tN,tF,a12,tF,tN,tF,a12,tF,tN,tT,tW 1,tF,tN,tF,a12,tF,tN,tF,a12,tF,tN,tF,tW 1,tF,tN,tF,a12,tF,tN,tF,tW 1,tF,tN,tF,a12,tF,tN,tF,tW 1,tF,tN,tF,a12,tF,tN,tF,a12,tF,tN] 6
def X9:aX:=[
([a0],a5),
([a6],a7),
([a8],a10)]
def Ya:aX:=[
([.str [98]],tT),
([.str [97]],tT),
([.str [97,45,49]],tT),
([a1],tT)]
def Yb:aX:=[
([Uj,.cS [a1] 0],tT)]
def Yc:aX:=[
([Uj],Uj)]
def Yd:aX:=[
([a9,.func 31 [] [.cS [.str [98]] 0]],tI 1)]
def Ye:aX:=[
([a25],.func 67 [] [.cS [a25] 0]),
([a28],.func 67 [] [.cS [a28] 0]),
([a31],.func 67 [] [.cS [a31] 0])]
def Qy:aX:=[
([xA 2,xA 2],a33),
([xA 2,xA 4],xA 2),
([xA 2,xA 26],xA 2),
([xA 2,xA 5],xA 2),
([xA 2,xA 28],xA 2),
([xA 2,xA 8],xA 2),
([xA 0,xA 6],xA 2),
([xA 2,a34],xA 2),
([a33,xA 6],xA 2),
([xA 2,xA 6],xA 2),
([xA 2,xA 30],xA 2),
([xA 4,xA 2],xA 2),
([xA 4,xA 0],xA 2),
([xA 5,xA 2],xA 2),
([xA 5,a34],xA 11),
([xA 14,xA 4],xA 14),
([xA 4,xA 14],xA 14),
([xA 4,xA 50],xA 50),
([xA 4,xA 28],xA 28),
([xA 4,xA 26],xA 26)]
def Qz:aX:=[
([xA 5,xA 4],xA 5),
([xA 4,xA 6],xA 6),
([xA 4,xA 16],xA 16),
([xA 4,xA 32],xA 32),
([xA 5,xA 8],xA 9),
([xA 4,xA 5],xA 5),
([xA 9,xA 4],xA 9),
([xA 8,xA 4],xA 8),
([xA 6,xA 4],xA 6),
([xA 4,xA 30],xA 30),
([xA 4,xA 8],xA 8),
([xA 8,xA 6],xA 14),
([xA 5,xA 6],xA 7),
([xA 4,xA 4],xA 4),
([a34,xA 14],xA 50)]
def QA:aX:=[
([xA 16,xA 4],xA 16),
([xA 16,xA 6],xA 30),
([xA 6,xA 6],a34),
([xA 4,a34],a34),
([xA 4,xA 170],xA 170),
([xA 50,xA 4],xA 50),
([xA 9,xA 6],xA 15)]
def Qx:aX:=Qy++(Qz++(QA))
def Yf:aX:=[
([tI 6],xA 14),
([tI 1],xA 4),
([tI 4],a34),
([a35],xA 5),
([tI 0],xA 2)]
def Yg:aX:=[
([xA 2],a4),
([xA 6],a36),
([xA 4],a6),
([xA 5],a37)]
def Ns:aX:=[
([xA 0],tI 0),
([xA 2],tI 0),
([xA 5],a35),
([xA 9],a35),
([xA 26],tI 1),
([xA 7],a35),
([xA 6],tI 1),
([xA 11],a35),
([xA 14],tI 1),
([xA 50],tI 1),
([a34],tI 1),
([xA 4],tI 1)]
def Nt:aX:=[
([xA 5,xA 2],a35),
([xA 5,xA 0],a35),
([xA 4,xA 5],tI 1),
([xA 2,xA 5],tI 1),
([xA 4,xA 2],tI 1),
([xA 2,xA 4],a35),
([xA 4,xA 0],tI 1),
([xA 2,xA 0],tI 0),
([xA 0,xA 0],tI 0),
([xA 2,xA 2],tI 0),
([xA 8,xA 8],tI 0),
([a34,a34],tI 0),
([xA 6,xA 6],tI 0),
([xA 15,xA 15],tI 0),
([xA 9,xA 9],tI 0),
([xA 14,xA 14],tI 0),
([xA 11,xA 11],tI 0),
([xA 5,xA 5],tI 0),
([xA 7,xA 7],tI 0),
([xA 4,xA 4],tI 0),
([xA 11,xA 9],a35),
([a34,xA 8],tI 1),
([xA 26,xA 4],tI 1),
([xA 14,xA 4],tI 1),
([xA 7,xA 5],a35),
([xA 15,xA 7],a35),
([xA 14,xA 6],tI 1),
([xA 6,xA 4],tI 1),
([xA 50,xA 4],tI 1),
([a34,xA 4],tI 1)]
def Nu:aX:=[
([xA 8],xA 9),
([xA 2],xA 2),
([xA 6],xA 7),
([xA 4],xA 5),
([xA 5],xA 4),
([a34],xA 11),
([a33],a33)]
def Nv:aX:=[
([xA 0,xA 2],xA 0),
([xA 4,xA 2],xA 4)]
def Nw:aX:=[
([xP],.func 139 [] [.cS [a13,a20,a21] 0]),
([a39],.func 139 [] [.cS [a26,a27,a21] 0])]
def JG:aX:=[
([a12,tW 4],.tuple [tN,a12]),
([a12,tW 2],.tuple [tN,a12]),
([tN,tW 1],.tuple [tN,tN]),
([tW 12,tW 24],.tuple [tN,tW 12]),
([tW 1,tW 24],.tuple [tN,tW 1]),
([tW 1,tW 2],.tuple [tN,tW 1]),
([tW 7,tW 2],.tuple [tW 3,tW 1]),
([tW 3,tW 2],.tuple [tW 1,tW 1]),
([tW 84,tW 24],.tuple [tW 3,tW 12]),
([tW 2,tW 2],a40),
([tW 6,tW 6],a40),
([tW 12,tW 12],a40),
([tW 4,tW 4],a40),
([tW 1,tW 1],a40),
([tW 24,tW 1],.tuple [tW 24,a12]),
([tW 16,tW 4],.tuple [tW 4,a12]),
([tW 2,tW 1],a41),
([tW 24,tW 12],a41)]
def JH:aX:=[
([tW 84,tW 12],.tuple [tW 7,a12]),
([tW 4,tW 2],a41)]
def G8:aX:=JG++(JH)
def Nx:aX:=[
([a2],tF)]
def Ny:aX:=[
([.int .u64 255],tI 8)]
def Nz:aX:=[
([gM],xA 5),
([dL],xA 2),
([a44],xA 4)]
def NA:aX:=[
([.aK [tI 1,tI 1] 2],tI 1),
([.aK [a35,tI 1] 2],a35),
([.aK [a35,tI 0] 2],a35),
([.aK [tI 1,a35] 2],tI 1),
([.aK [tI 1,tI 0] 2],tI 1),
([.aK [a35,a35] 2],a35),
([.aK [tI 0,a35] 2],a35),
([.aK [tI 0,tI 1] 2],tI 1)]
def NB:aX:=[
([tI 5,tI 6],a35),
([tI 2,tI 3],a35),
([tI 3,tI 5],a35),
([tI 0,tI 1],a35),
([tI 3,tI 4],a35),
([tI 2,tI 4],a35),
([tI 0,tI 2],a35),
([tI 1,tI 4],a35),
([tI 0,tI 4],a35),
([tI 1,tI 2],a35),
([tI 4,tI 6],a35),
([tI 4,tI 1],tI 1),
([tI 1,tI 1],tI 0),
([tI 7,tI 6],tI 1),
([tI 4,tI 2],tI 1),
([tI 5,tI 4],tI 1),
([tI 2,tI 1],tI 1),
([tI 6,tI 6],tI 0),
([tI 3,tI 3],tI 0),
([tI 6,tI 5],tI 1),
([tI 3,tI 2],tI 1),
([tI 0,tI 0],tI 0),
([tI 5,tI 3],tI 1),
([tI 2,tI 2],tI 0),
([tI 4,tI 4],tI 0),
([tI 5,tI 5],tI 0),
([tI 3,tI 1],tI 1),
([tI 6,tI 3],tI 1),
([tI 4,tI 3],tI 1),
([tI 7,tI 5],tI 1),
([tI 7,tI 7],tI 0),
([tI 1,tI 0],tI 1)]
def NC:aX:=[
([a36],tT),
([a6],tT),
([a8],tT),
([a4],tT)]
def ND:aX:=[
([a8],.tuple [xA 8,tI 0]),
([a6],.tuple [xA 4,tI 0]),
([a36],.tuple [xA 6,tI 0]),
([a4],.tuple [xA 2,tI 0])]
def NF:aX:=[
([a18],a18),
([a16],a16),
([a15],a15),
([a17],a17),
([a19],a19),
([a14],a14)]
def NG:aX:=[
([tI 0],tF),
([tI 1],tF)]
def JI:aX:=[
([a2,tI 7,tI 6,tI 3],a46),
([a2,tI 5,tI 3,tI 1],a48),
([a2,tI 3,tI 2,tI 1],a50)]
def JJ:aX:=[
([a2,tI 4,tI 1,tI 0],a52),
([a2,tI 5,tI 1,tI 0],a52),
([a2,tI 6,tI 4,tI 0],a54)]
def JK:aX:=[
([a2,tI 6,tI 5,tI 4],a56),
([a2,tI 7,tI 5,tI 4],a56),
([a2,tI 7,tI 6,tI 2],a46)]
def JL:aX:=[
([a2,tI 6,tI 4,tI 2],a54),
([a2,tI 7,tI 3,tI 1],a48),
([a2,tI 3,tI 2,tI 0],a50)]
def JM:aX:=[
([a2,tI 7,tI 2,tI 1],.tuple [.agg [tI 1,a35,a35,.int .u64 134],tF]),
([a2,tI 5,tI 3,tI 0],.tuple [.agg [tI 1,tI 1,a35,.int .u64 41],tF]),
([a2,tI 6,tI 5,tI 0],.tuple [.agg [a35,tI 1,tI 1,.int .u64 97],tF])]
def JN:aX:=[
([a2,tI 7,tI 4,tI 2],.tuple [.agg [a35,a35,tI 1,.int .u64 148],tF]),
([a2,tI 6,tI 5,tI 3],.tuple [.agg [tI 1,tI 1,tI 1,.int .u64 104],tF]),
([a2,tI 7,tI 4,tI 1],.tuple [.agg [tI 1,a35,tI 1,.int .u64 146],tF])]
def JO:aX:=[
([a2,tI 6,tI 3,tI 0],.tuple [.agg [a35,tI 1,a35,.int .u64 73],tF]),
([a2,tI 4,tI 2,tI 1],.tuple [.agg [a35,a35,a35,.int .u64 22],tF]),
([a2,tI 7,tI 3,tI 0],a57)]
def JP:aX:=[
([a2,tI 7,tI 5,tI 0],a58),
([a2,tI 5,tI 4,tI 2],a59),
([a2,tI 7,tI 6,tI 1],a60)]
def JQ:aX:=[
([a2,tI 6,tI 5,tI 2],a61),
([a2,tI 6,tI 5,tI 1],a61),
([a2,tI 5,tI 2,tI 0],a62)]
def JR:aX:=[
([a2,tI 7,tI 6,tI 0],a60),
([a2,tI 5,tI 3,tI 2],a63),
([a2,tI 7,tI 1,tI 0],a64)]
def FL:aX:=[
([a2,tI 5,tI 2,tI 1],a65),
([a2,tI 7,tI 5,tI 2],a58),
([a2,tI 6,tI 1,tI 0],a64)]
def FM:aX:=[
([a2,tI 7,tI 4,tI 3],a66),
([a2,tI 6,tI 3,tI 1],a67),
([a2,tI 6,tI 2,tI 1],a65)]
def FN:aX:=[
([a2,tI 5,tI 4,tI 3],a59),
([a2,tI 4,tI 3,tI 2],a63),
([a2,tI 6,tI 4,tI 1],a68)]
def FO:aX:=[
([a2,tI 6,tI 4,tI 3],a68),
([a2,tI 7,tI 4,tI 0],a66),
([a2,tI 4,tI 3,tI 1],a67)]
def FP:aX:=[
([a2,tI 7,tI 2,tI 0],a62),
([a2,tI 4,tI 3,tI 0],a57),
([a2,tI 6,tI 2,tI 0],a54)]
def FQ:aX:=[
([a2,tI 7,tI 3,tI 2],a46),
([a2,tI 7,tI 6,tI 4],a56),
([a2,tI 2,tI 1,tI 0],a50)]
def FR:aX:=[
([a2,tI 7,tI 6,tI 5],a56),
([a2,tI 4,tI 2,tI 0],a54),
([a2,tI 5,tI 4,tI 0],a52)]
def FT:aX:=[
([a2,tI 5,tI 4,tI 1],a52),
([a2,tI 7,tI 5,tI 1],a48),
([a2,tI 6,tI 3,tI 2],a46)]
def FU:aX:=[
([a2,tI 7,tI 5,tI 3],a48),
([a2,tI 3,tI 1,tI 0],a50)]
def G9:aX:=JI++(JJ++(JK++(JL++(JM++(JN++(JO++(JP++(JQ++(JR++(FL++(FM++(FN++(FO++(FP++(FQ++(FR++(FT++(FU))))))))))))))))))
def NH:aX:=[
([.int .u64 192],tI 6),
([.int .u64 32],tI 5),
([.int .u64 128],tI 7),
([.int .u64 80],tI 4),
([.int .u64 48],tI 4),
([.int .u64 84],tI 2),
([.int .u64 14],tI 1),
([.int .u64 85],tI 0),
([.int .u64 12],tI 2),
([.int .u64 224],tI 5),
([.int .u64 160],tI 5),
([.int .u64 200],tI 3),
([a55],tI 4),
([.int .u64 168],tI 3),
([a47],tI 1),
([.int .u64 8],tI 3),
([.int .u64 50],tI 1),
([.int .u64 15],tI 0),
([a45],tI 2),
([.int .u64 64],tI 6),
([.int .u64 51],tI 0)]
def NI:aX:=[
([tN,gN,a70],.tuple [tI 0,tF])]
def Yh:aX:=[
([a3,.func 28 [] [.cS [a1] 0]],tI 0)]
def Yi:aX:=[
([a35],gM),
([tI 4],xh),
([tI 6],a72),
([tI 1],a44),
([tI 0],dL)]
def Yj:aX:=[
([sU],tT),
([By],tT),
([xB 28 0],tT),
([xB 82 0],tT),
([a75],tT),
([xB 22 0],tT),
([xB 20 0],tT),
([xB 56 0],tT),
([a76],tT),
([xB 18 0],tT),
([xB 26 0],tT),
([a44],tT),
([xB 16 0],tT),
([xB 12 0],tT),
([xB 30 0],tT),
([dL],tT),
([a77],tT),
([xB 110 0],tT),
([xB 32 0],tT),
([xB 140 0],tT),
([xB 24 0],tT),
([gM],tT),
([a78],tT),
([a79],tT),
([a72],tT),
([xh],tT)]
def Yk:aX:=[
([a80],xA 4),
([xB 10 4],xA 4),
([B4],xA 6),
([a82],xA 6),
([xB 0 4],xA 4),
([xB 4 50],xA 50),
([Uk],xA 6),
([E7],xA 6),
([a85],xA 6)]
def Yl:aX:=[
([a79],a35),
([gM],a35),
([a78],a35),
([a72],tI 1),
([E7],a35),
([a82],a35),
([dL],tI 0),
([sU],tI 1),
([xB 50 0],tI 1),
([a44],tI 1)]
def Ym:aX:=[
([a6],.tuple [a44,tI 0]),
([a4],.tuple [dL,tI 0]),
([a8],.tuple [a77,tI 0])]
def NJ:aX:=[
([],xA 4)]
def NK:aX:=[
([xA 0,xA 4],xA 4),
([xA 14,xA 14],xA 14),
([xA 34,a34],a34),
([xA 2,xA 6],xA 6),
([xA 0,xA 5],xA 4),
([xA 4,xA 4],xA 4),
([a34,a34],a34),
([xA 2,a34],a34),
([a34,xA 6],xA 6),
([xA 5,xA 6],xA 4),
([xA 170,xA 50],xA 26),
([xA 4,xA 50],xA 4),
([xA 9,xA 6],xA 4),
([xA 26,xA 50],xA 26),
([xA 16,xA 6],xA 4),
([xA 8,xA 6],xA 4),
([xA 4,xA 6],xA 4)]
def NL:aX:=[
([xA 14,xA 14],a86),
([a34,a34],a86),
([xA 2,a34],.tuple [xA 0,xA 2,tI 0]),
([a34,xA 6],.tuple [xA 6,xA 2,tI 0]),
([xA 50,xA 26],.tuple [xA 6,xA 2,tI 0]),
([xA 34,a34],.tuple [a34,xA 2,tI 0]),
([xA 4,xA 4],a86),
([xA 6,xA 6],a86),
([xA 2,xA 6],.tuple [xA 0,xA 2,tI 0]),
([xA 170,xA 26],.tuple [xA 16,xA 2,tI 0]),
([xA 26,xA 26],a86)]
def NM:aX:=[
([a2],.aK [a35,tI 0,tI 0,.int .u64 15,tI 0,a35,tI 0,.int .u64 51,tI 0,tI 0,a35,.int .u64 85,tI 0,tI 0,tI 1,a47,tI 0,tI 1,tI 0,a45,tI 1,tI 0,tI 0,a55] 6)]
def JS:aX:=[
([a2,.agg [tI 0,tI 1,tI 0,a45]],a18)]
def JT:aX:=[
([a2,a53],a15)]
def JU:aX:=[
([a2,a49],a14)]
def JV:aX:=[
([a2,.agg [tI 0,tI 0,tI 1,a47]],a17)]
def JW:aX:=[
([a2,.agg [tI 1,tI 0,tI 0,a55]],a19)]
def JX:aX:=[
([a2,a51],a16)]
def Hc:aX:=JS++(JT++(JU++(JV++(JW++(JX)))))
def NN:aX:=[
([a87,a88],a35),
([a89,a90],a35),
([a90,a91],tI 1),
([a89,a92],a35),
([a93,a90],a35),
([a87,a90],tI 1),
([a89,a93],tI 1),
([a87,a94],a35),
([a93,a92],a35),
([a94,a88],a35),
([a89,a88],a35),
([a95,a92],tI 1),
([a89,a95],a35),
([a96,a88],tI 1),
([a97,a95],tI 1),
([a94,a95],tI 1),
([a93,a91],tI 1),
([a88,a95],tI 1),
([a87,a92],a35),
([a97,a94],a35),
([a97,a88],a35),
([a87,a95],a35),
([a97,a96],a35),
([.agg [tI 6,tI 7,tI 4,tI 5],a96],tI 1),
([a92,a90],tI 1)]
def akZ:aX:=[
([a10,a1],.tuple [Uj,tT]),
([a5,a1],.tuple [Uj,tT]),
([a7,a1],.tuple [Uj,tT])]
def QC:aX:=[
([dL,a75],dL),
([dL,dL],dL),
([By,dL],dL),
([a75,dL],dL),
([a75,a75],dL),
([By,a75],dL),
([a76,dL],a76),
([gM,dL],gM),
([By,gM],gM),
([dL,gM],gM),
([a79,dL],a79),
([a78,dL],a78),
([gM,a75],gM),
([a79,a75],a79),
([By,a76],a76),
([By,a78],a78),
([a75,gM],gM)]
def QD:aX:=[
([a78,a75],a78),
([a76,a75],a76),
([By,a79],a79),
([xh,a75],xh),
([a77,dL],a77),
([a44,dL],a44),
([xh,dL],xh),
([a44,a75],a44),
([a77,a75],a77),
([sU,a75],sU),
([sU,dL],sU),
([By,a44],a44),
([dL,a44],a44),
([By,xh],xh),
([dL,sU],sU)]
def QE:aX:=[
([By,sU],sU),
([dL,a77],a77),
([dL,xB 30 0],xB 30 0),
([By,a77],a77),
([a72,a77],xB 20 0),
([xB 16 0,xB 16 0],xB 30 0),
([xB 20 0,sU],xB 24 0),
([sU,a44],a77),
([xB 110 0,xB 32 0],xB 140 0),
([xB 56 0,xB 28 0],xB 82 0),
([xB 82 0,xB 30 0],xB 110 0),
([a72,sU],xB 18 0),
([a44,a44],sU),
([xB 18 0,xB 16 0],xB 32 0)]
def QG:aX:=[
([a77,xh],xB 16 0),
([xh,xh],xB 18 0),
([xh,a77],xB 16 0),
([xB 140 0,xB 32 0],xB 170 0),
([xB 30 0,xB 28 0],xB 56 0),
([xB 16 0,a72],xB 28 0),
([a44,sU],a77),
([xh,sU],a72),
([xB 22 0,sU],xB 26 0),
([xB 20 0,a44],xB 22 0),
([xh,a44],xB 12 0),
([a72,a72],xB 26 0),
([a77,a44],xh),
([a72,xB 16 0],xB 28 0)]
def QH:aX:=[
([xB 24 0,a44],xB 26 0),
([a77,a77],a72),
([xB 12 0,a44],a72),
([xB 20 0,a77],xB 26 0),
([xB 18 0,a44],xB 20 0),
([a44,a77],xh),
([a77,gM],sU),
([xh,a76],a44),
([sU,gM],a44),
([sU,a79],dL),
([a77,a76],dL),
([xh,a78],dL),
([a44,gM],dL)]
def QB:aX:=QC++(QD++(QE++(QG++(QH))))
def Yn:aX:=[
([dL],a4),
([a44],a6),
([gM],a37),
([sU],a36)]
def Yo:aX:=[
([.agg [a8,a4,a4]],.tuple [rY,tI 0]),
([.agg [a4,a4,a4]],.tuple [lh,tI 0]),
([.agg [a6,a4,a4]],ahO)]
def Yp:aX:=[
([dL,dL],a75),
([gM,sU],a79),
([dL,a44],dL),
([dL,sU],dL),
([dL,xh],dL),
([a44,xh],xh),
([dL,a77],dL),
([dL,xB 28 0],dL),
([gM,dL],dL),
([dL,xB 26 0],dL),
([gM,a44],gM),
([a44,a77],a77),
([a44,gM],gM),
([a44,sU],sU),
([dL,gM],dL),
([gM,xh],a78),
([a44,a44],a44),
([a44,xB 30 0],xB 30 0),
([a44,dL],dL),
([dL,xB 30 0],dL),
([xh,a72],xB 50 0),
([a44,xB 32 0],xB 32 0),
([gM,a77],a76),
([a44,xB 28 0],xB 28 0)]
def Yq:aX:=[
([a85],tF),
([xB 6 4],tT),
([a80],tT),
([a82],tF),
([Uk],tF),
([B4],tF),
([xB 4 50],tF),
([xB 0 4],tT),
([E7],tF)]
def Yr:aX:=[
([xA 4,xA 4],a80),
([xA 4,xA 6],a85),
([xA 4,xA 50],xB 4 50),
([xA 9,xA 6],E7),
([xA 8,xA 6],B4),
([xA 16,xA 6],Uk),
([xA 5,xA 6],a82),
([a34,xA 6],xB 6 4),
([xA 2,a34],xB 0 4),
([xA 2,xA 6],xB 0 4),
([a34,a34],a80),
([xA 170,xA 50],Uk),
([xA 14,xA 14],a80),
([xA 34,a34],xB 10 4),
([xA 26,xA 50],a85)]
def Ys:aX:=[
([gM],xA 4),
([a75],xA 4),
([By],xA 4),
([xB 26 0],xA 4),
([a72],xA 4),
([sU],xA 4),
([xB 50 0],xA 4),
([dL],xA 4),
([xB 170 0],xA 4),
([a44],xA 4)]
def Yt:aX:=[
([xI 1 0 1],k6),
([xI 0 1 1],lR),
([xI 0 (-1) 0],gw),
([xI 1 1 1],a105),
([xI (-1) 0 0],gB),
([xI 0 0 0],lh),
([xI 0 1 0],a107),
([xI 0 0 1],gN),
([xI 1 0 0],cX),
([xI 0 0 (-1)],gx),
([xI 1 1 0],a109)]
def Yu:aX:=[
([gM,By],a35),
([gM,gM],tI 0),
([a76,a76],tI 0),
([a44,a44],tI 0),
([dL,a44],a35),
([sU,a44],tI 1),
([dL,By],tI 0),
([gM,dL],a35),
([a44,By],tI 1),
([a44,dL],tI 1),
([a77,a77],tI 0),
([a78,a76],a35),
([xh,xh],tI 0),
([a79,a79],tI 0),
([a44,gM],tI 1),
([a78,a78],tI 0),
([sU,sU],tI 0),
([dL,dL],tI 0),
([xh,a77],tI 1),
([a79,gM],a35),
([dL,gM],tI 1)]
def Yv:aX:=[
([a0],.tuple [a85,tI 0])]
def NO:aX:=[
([a2],.tuple [.aK [a35,tI 0,tI 0,.int .u64 15,tI 0,tI 0,a35,.int .u64 85,tI 0,a35,tI 0,.int .u64 51,tI 0,tI 0,tI 1,a47,tI 0,tI 1,tI 0,a45,tI 1,tI 0,tI 0,a55] 6,.aK [a14,a15,a16,a17,a18,a19] 6,.int .u64 255])]
def NP:aX:=[
([a20],a21)]
def Yw:aX:=[
([anP],tI 0),
([anQ],tI 0),
([anR],tI 0)]
def QJ:aX:=[
([By,xB 0 4],dL),
([By,a82],a82),
([a82,dL],a82),
([E7,dL],E7),
([a82,a75],a82),
([By,E7],E7),
([E7,a75],E7),
([By,a80],a44),
([B4,dL],B4),
([a85,dL],a85),
([a85,a75],a85),
([B4,a75],B4),
([By,B4],B4),
([dL,a85],a85),
([By,Uk],Uk)]
def QK:aX:=[
([By,a85],a85),
([a85,Uk],xB 10 4),
([a44,a85],B4),
([a85,a85],a80),
([B4,a82],a80),
([a85,gM],a82),
([B4,E7],xB 0 4),
([a85,a82],xB 0 4)]
def QI:aX:=QJ++(QK)
def QN:aX:=[
([xV 14 0 6 0 4 0,abd],xV 28 0 8 0 6 0),
([lh,a107],a107),
([abe,xV 28 0 6 0 8 0],xV 56 0 8 0 14 0),
([cX,lh],cX),
([xL,a116],xV 16 0 6 0 4 0),
([a117,lh],lh),
([lh,rY],rY),
([a107,a105],xV 4 0 6 0 4 0),
([xV 140 0 24 0 22 0,xV 32 0 4 0 6 0],xV 170 0 26 0 26 0),
([xV 4 0 2 0 6 0,a105],abf),
([lh,lh],lh),
([k6,rY],a119),
([a117,anS],lh),
([cX,a105],A9),
([a109,rY],xM),
([cX,rY],xN),
([lh,.agg [tF,a12,tF,tN,tF,a12,tF,tN,tF,a32,tF,tN]],lh),
([gN,lh],gN),
([a124,a105],xV 8 0 6 0 4 0),
([xV 14 0 20 0 20 0,xV 8 0 6 0 4 0],xV 20 0 24 0 22 0),
([a119,rY],U1),
([lh,anS],lh),
([abg,U1],xV 30 0 2 0 4 0),
([cX,cX],a127),
([gN,cX],k6),
([xV 82 0 14 0 18 0,xV 30 0 8 0 4 0],xV 110 0 20 0 20 0)]
def QO:aX:=[
([a109,lh],a109),
([xV 4 0 4 0 6 0,lR],xV 4 0 6 0 8 0),
([rY,xO],U3),
([rY,a130],a131),
([xO,rY],U3),
([xV 4 0 6 0 4 0,a109],xV 6 0 8 0 4 0),
([U3,abh],xV 26 0 6 0 4 0),
([lh,lR],lR),
([U4,abg],xV 30 0 4 0 2 0),
([xV 10 0 14 0 18 0,xV 6 0 8 0 4 0],xV 14 0 20 0 20 0),
([xN,a116],xV 18 0 4 0 4 0),
([a107,lh],a107),
([lh,cX],cX),
([gN,a105],xV 4 0 4 0 6 0),
([gN,k6],xV 4 0 2 0 6 0),
([cX,k6],B0),
([lh,.agg [tF,a12,tF,tN,tF,a32,tF,tN,tF,a12,tF,tN]],lh),
([gN,lR],xV 2 0 4 0 6 0),
([a107,cX],a109),
([rY,a119],U1),
([xV 16 0 4 0 6 0,U3],xV 28 0 6 0 8 0),
([xV 8 0 8 0 14 0,xV 4 0 8 0 6 0],xV 10 0 14 0 18 0),
([gN,rY],a130),
([k6,lh],k6),
([a131,U3],xV 26 0 4 0 6 0),
([abf,xV 4 0 6 0 8 0],xV 8 0 8 0 14 0)]
def QP:aX:=[
([xM,rY],U4),
([lh,abe],abe),
([a130,rY],a131),
([a107,lR],xV 2 0 6 0 4 0),
([xV 16 0 2 0 6 0,abd],abe),
([a130,a116],xV 16 0 4 0 6 0),
([xL,xO],xV 14 0 6 0 4 0),
([lR,rY],xO),
([a116,rY],abd),
([a105,rY],a116),
([lh,gN],gN),
([rY,xL],abh),
([xV 18 0 4 0 4 0,U1],xV 32 0 4 0 6 0),
([rY,xM],U4),
([xL,rY],abh),
([a105,cX],A9),
([a107,rY],xL),
([xN,xM],xV 18 0 4 0 2 0),
([lh,k6],k6),
([xV 56 0 8 0 14 0,xV 28 0 8 0 6 0],xV 82 0 14 0 18 0),
([xV 16 0 6 0 4 0,U4],xV 30 0 8 0 4 0),
([lh,abf],abf),
([lR,cX],a105),
([lR,lh],lR),
([lh,a109],a109),
([lR,a107],xV 2 0 6 0 4 0)]
def QQ:aX:=[
([xV 2 0 6 0 4 0,a105],xV 4 0 8 0 6 0),
([xV 18 0 4 0 2 0,abd],xV 32 0 6 0 4 0),
([a130,a119],xV 16 0 2 0 6 0),
([abh,U4],xV 28 0 6 0 2 0),
([a109,cX],a124),
([a105,lh],a105),
([k6,gN],xV 4 0 2 0 6 0),
([xV 110 0 20 0 20 0,xV 32 0 6 0 4 0],xV 140 0 24 0 22 0),
([xV 20 0 24 0 22 0,xV 8 0 4 0 6 0],xV 26 0 26 0 26 0),
([k6,cX],B0),
([xN,rY],abg),
([cX,a109],a124),
([rY,xN],abg),
([a107,a109],xV 4 0 6 0 2 0),
([A9,k6],xV 8 0 4 0 6 0),
([U1,a131],xV 28 0 2 0 6 0)]
def QM:aX:=QN++(QO++(QP++(QQ)))
def Yx:aX:=[
([a72,a72],ahP),
([a44,a44],ahP),
([a44,xB 50 0],.tuple [xB 4 50,tI 0]),
([a44,sU],.tuple [a85,tI 0])]
def Yy:aX:=[
([xB 6 4],a36),
([a85],a0)]
def Yz:aX:=[
([a107],.agg [a4,a6,a4]),
([gx],.agg [a4,a4,a37]),
([cX],.agg [a6,a4,a4]),
([gN],.agg [a4,a4,a6]),
([gB],.agg [a37,a4,a4]),
([gw],.agg [a4,a37,a4])]
def YA:aX:=[
([.agg [a0,a4,a4]],.tuple [rh,tI 0])]
def YB:aX:=[
([a80,a44],a44),
([a80,gM],gM),
([a80,dL],dL),
([a80,a80],a44),
([a80,xB 0 4],dL),
([gM,a85],a82),
([a80,a85],a85),
([dL,B4],xB 0 4),
([gM,B4],E7),
([a44,a85],a85),
([xB 4 50,xB 170 0],Uk),
([a85,xB 10 4],xB 6 4),
([a44,B4],B4),
([a85,a80],a85),
([a80,Uk],Uk),
([xB 4 50,xB 26 0],a85),
([a44,Uk],Uk),
([dL,a85],xB 0 4)]
def YC:aX:=[
([a80,By],tI 1),
([xB 0 4,By],tI 0),
([B4,a85],tI 1),
([E7,a82],a35),
([E7,E7],tI 0),
([a82,a82],tI 0),
([a85,a85],tI 0),
([B4,B4],tI 0)]
def JY:aX:=[
([gN,gN],a44),
([gN,xN],dL),
([a107,B0],dL),
([a107,xM],a44),
([gB,gN],dL),
([gN,a105],a44),
([gw,cX],dL),
([gB,lR],dL),
([a107,cX],dL),
([gN,xM],dL),
([cX,xV 4 0 5 0 2 0],a44),
([cX,xM],xh),
([cX,xO],a77),
([a107,a116],a44),
([cX,xL],a77),
([a107,lR],a44),
([gw,gN],dL),
([gB,lh],dL)]
def JZ:aX:=[
([gx,a130],gM),
([a107,A9],a44),
([gN,rY],dL),
([gN,gB],dL),
([gB,A9],a79),
([gB,rY],a76),
([gw,A9],gM),
([cX,gw],dL),
([gN,k6],a44),
([gN,a109],dL),
([gx,A9],gM),
([gx,a116],gM),
([gw,k6],dL),
([a107,xN],dL),
([gw,xN],dL),
([gw,a105],gM),
([gN,a107],dL),
([gN,xO],a44)]
def J0:aX:=[
([gx,xO],gM),
([gN,a119],a44),
([gN,A9],a44),
([gN,cX],dL),
([cX,gN],dL),
([a107,rY],dL),
([gx,xN],dL),
([a107,gN],dL),
([gB,xO],a76),
([gx,cX],dL),
([a107,xV 2 0 4 0 5 0],a44),
([gw,B0],dL),
([a107,k6],dL),
([gN,lh],dL),
([cX,cX],a44),
([gB,a107],dL),
([gB,cX],gM),
([cX,a124],sU)]
def J1:aX:=[
([gx,xL],dL),
([gB,B0],a79),
([gw,a127],dL),
([gN,xL],dL),
([a107,lh],dL),
([gx,a119],gM),
([cX,gx],dL),
([a107,xL],a44),
([gB,xL],a76),
([a107,a130],dL),
([cX,k6],a44),
([gw,xO],gM),
([gx,gN],gM),
([gN,gx],gM),
([gx,k6],gM),
([gx,lR],gM),
([cX,lR],dL),
([cX,a127],sU)]
def J2:aX:=[
([gx,xM],dL),
([gw,lh],dL),
([cX,xN],xh),
([gB,a119],a78),
([gx,rY],dL),
([gx,a124],dL),
([gw,xL],gM),
([cX,A9],sU),
([a107,a119],dL),
([a107,xO],a44),
([gB,a109],gM),
([gN,a124],dL),
([a107,gB],dL),
([a107,xV 5 0 4 0 2 0],a44),
([gw,a107],gM),
([gB,a124],a79),
([gx,a109],dL),
([gN,a116],a44)]
def J3:aX:=[
([gB,k6],gM),
([a107,a127],dL),
([gw,a130],dL),
([gw,a116],gM),
([gB,a127],a79),
([lh,gx],dL),
([cX,lh],dL),
([a107,a109],a44),
([gB,a116],a78),
([gB,a130],a76),
([cX,B0],sU),
([cX,gB],gM),
([a107,gx],dL),
([gw,a124],gM),
([cX,a119],xh),
([gN,a127],dL),
([a107,a105],a44),
([gx,a107],dL)]
def J4:aX:=[
([lh,gB],dL),
([gB,xN],a78),
([a107,a107],a44),
([gB,a105],gM),
([cX,xV 4 0 2 0 5 0],a44),
([gw,lR],gM),
([cX,a107],dL),
([gB,xM],a78),
([gN,B0],a44),
([cX,a116],xh),
([gw,rY],dL),
([gw,xM],gM),
([gx,a105],gM),
([a107,a124],a44),
([gN,a130],a44),
([gx,B0],gM),
([gw,a119],dL),
([gx,lh],dL)]
def J5:aX:=[
([lh,gw],dL),
([cX,a109],a44),
([cX,a130],a77),
([gx,a127],dL),
([gN,gw],dL),
([gw,a109],gM),
([gN,xV 2 0 5 0 4 0],a44),
([a107,gw],gM),
([gN,lR],a44),
([gN,xV 5 0 2 0 4 0],a44),
([cX,a105],a44),
([cX,rY],a77)]
def Hd:aX:=JY++(JZ++(J0++(J1++(J2++(J3++(J4++(J5)))))))
def NQ:aX:=[
([.agg [a2]],tI 0)]
def J6:aX:=[
([xL,rY],a107),
([a116,rY],a105),
([xN,rY],cX),
([rY,rY],lh),
([a107,lh],a107),
([B0,a127],gN),
([a116,xO],cX),
([a116,xM],gN),
([cX,lh],cX),
([a105,lh],a105),
([a109,cX],a107),
([k6,gN],cX),
([a105,lR],cX),
([a105,a109],gN),
([xM,rY],a109),
([a130,rY],gN),
([B0,k6],cX)]
def J7:aX:=[
([gN,lh],gN),
([a105,k6],a107),
([a109,lh],a109),
([a119,rY],k6),
([xM,xL],cX),
([k6,lh],k6),
([k6,cX],gN),
([xM,xN],a107),
([A9,B0],a107),
([a119,xN],gN),
([A9,a124],gN),
([lR,gN],a107),
([lh,lh],lh),
([lR,a107],gN),
([a116,a119],a107),
([a109,a107],cX),
([a124,a127],a107)]
def J8:aX:=[
([a119,a130],cX),
([A9,a105],cX),
([a124,a109],cX),
([xO,rY],lR),
([xO,a130],a107),
([xO,xL],gN),
([a127,cX],cX),
([lR,lh],lR)]
def He:aX:=J6++(J7++(J8))
def NR:aX:=[
([xA 4,xA 4],ahP)]
def NS:aX:=[
([gx],gN),
([cX],gB),
([gw],a107),
([gN],gx),
([a107],gw),
([gB],cX)]
def NT:aX:=[
([gB,a117],a35),
([gx,gB],tI 1),
([gw,gB],tI 1),
([cX,gB],tI 1),
([gN,cX],a35),
([gw,cX],a35),
([a107,cX],a35),
([cX,a117],tI 1),
([gx,cX],a35),
([gN,a107],a35),
([a107,a117],tI 1),
([gw,a117],a35),
([gw,gN],a35),
([gw,gx],a35),
([a107,gN],tI 1),
([gN,gx],tI 1),
([gx,a117],a35),
([gN,a117],tI 1),
([a107,a107],tI 0),
([cX,cX],tI 0),
([lh,a117],tI 0),
([gN,gN],tI 0)]
def YD:aX:=[
([anT],tI 0)]
def YE:aX:=[
([k6,rh],a138),
([gN,rh],a139),
([a105,rh],El),
([lh,rh],rh),
([a141,abi],xV 10 4 4 4 4 4),
([lR,rh],a143),
([a117,a141],a141),
([cX,rh],Em),
([a117,abi],abi),
([a107,rh],a145),
([a109,rh],a146)]
def YF:aX:=[
([xV 6 4 4 6 4 6],.agg [a36,a0,a0])]
def J9:aX:=[
([gB,a139],a82),
([gw,rh],dL),
([gx,El],gM),
([gw,a146],gM),
([gw,a138],dL),
([gB,a146],E7),
([a107,El],a44),
([a107,a146],a44),
([cX,a139],a85),
([gw,a145],gM),
([gB,El],E7),
([cX,a143],a85),
([gx,a146],dL),
([a107,a145],a44),
([gx,a145],dL),
([gB,rh],a82),
([gx,Em],dL),
([cX,a145],a85)]
def Ka:aX:=[
([gN,rh],dL),
([cX,El],B4),
([gx,rh],dL),
([gB,Em],E7),
([gN,El],a44),
([gx,a138],gM),
([gB,a143],a82),
([gw,El],gM),
([gx,a143],gM),
([a107,Em],dL),
([gw,a143],gM),
([gw,a139],dL),
([a107,a138],dL),
([a107,rh],dL),
([gN,a146],dL),
([gx,a139],gM),
([gN,a138],a44),
([gN,a143],a44)]
def Kb:aX:=[
([gN,Em],dL),
([gB,a145],a82),
([a107,a139],dL),
([a107,a143],a44),
([gN,a139],a44),
([cX,Em],B4),
([gB,a138],E7),
([cX,a138],B4),
([gw,Em],dL),
([cX,a146],B4),
([gN,a145],dL),
([cX,rh],a85)]
def Hg:aX:=J9++(Ka++(Kb))
def NU:aX:=[
([lh],.tuple [a117,tI 19]),
([gN],.tuple [gN,tI 0]),
([gB],.tuple [gB,tI 0]),
([cX],ahO),
([gw],.tuple [gw,tI 0]),
([gx],.tuple [gx,tI 0]),
([a107],.tuple [a107,tI 0])]
def Kc:aX:=[
([xP,a39,gB],a78),
([xP,a39,cX],sU),
([xP,a39,gx],gM),
([xP,a39,gN],gM)]
def Kd:aX:=[
([xP,Gz,a107],gM),
([xP,Gz,gx],gM),
([xP,Gz,gw],gM),
([xP,Gz,cX],dL)]
def Ke:aX:=[
([xP,a39,gw],gM),
([xP,Gz,gB],a79),
([xP,Gz,gN],gM),
([xP,a39,a107],gM)]
def Hh:aX:=Kc++(Kd++(Ke))
def NV:aX:=[
([gN,a105,lR],a44),
([lh,cX,k6],dL),
([cX,a105,k6],a44),
([a107,a105,a109],a44),
([lh,a107,a109],dL),
([lh,k6,gN],dL),
([gN,k6,a105],a44),
([lh,gN,lR],dL),
([lh,a109,cX],dL),
([lh,lR,a107],dL),
([a107,lR,a105],a44),
([cX,a109,a105],a44)]
def NW:aX:=[
([a146,a145],a148),
([a145,rh],RH),
([a138,a139],a148),
([El,a143],a148),
([Em,rh],a148),
([a143,a139],RH),
([El,a138],RH),
([a143,a145],RI),
([a139,rh],RI),
([a146,Em],RH),
([a138,Em],RI),
([El,a146],RI)]
def NX:aX:=[
([a148,a117],tI 1),
([RH,a117],tI 1),
([RI,a117],tI 1)]
def NY:aX:=[
([.aK [tF,a12,tF,tN,tF,a12,tF,tN,tF,tW 1,tF,tN,tF,a12,tF,tN,tF,tW 1,tF,tN,tF,a12,tF,tN] 2,cX,a70],.tuple [tI 2,tF]),
([.aK [tF,a12,tF,tN,tF,a12,tF,tN,tF,tW 1,tF,tN] 1,a107,a70],.tuple [tI 1,tF]),
([L6,gN,a70],.tuple [tI 0,tT]),
([L6,a107,a70],.tuple [tI 1,tT]),
([L6,cX,a70],.tuple [tI 2,tT])]
def QS:aX:=[
([a39],abi)]
def QT:aX:=[
([xP],a141)]
def QR:aX:=QS++(QT)
def YG:aX:=[
([a39],a80),
([xP],a80)]
def YH:aX:=[
([.agg [a2]],.tuple [xP,tI 0])]
def NZ:aX:=[
([RI],.tuple [gN,tI 0]),
([RH],.tuple [a107,tI 0]),
([a148],ahO)]
def Kf:aX:=[
([xP,a152,gB],E7),
([xP,a152,gw],gM),
([xP,a152,a107],gM),
([xP,a152,cX],a82)]
def Kg:aX:=[
([xP,a152,gN],gM),
([xP,a152,gx],gM)]
def Hi:aX:=Kf++(Kg)
def N0:aX:=[
([xP],L6),
([Gz],L6),
([a39],L6)]
def YI:aX:=[
([Uj],.tuple [a22,tI 0])]
def YJ:aX:=[
([U5],a44),
([a154],a44)]
def N1:aX:=[
([a152],L6)]
def YK:aX:=[
([Uj],tI 0)]
def QV:aX:=[
([Uj,anP],.tuple [anU,tI 0])]
def QW:aX:=[
([Uj,anQ],.tuple [U5,tI 0])]
def QX:aX:=[
([Uj,anT],.tuple [a156,tI 0])]
def QY:aX:=[
([Uj,anR],.tuple [a154,tI 0])]
def QU:aX:=QV++(QW++(QX++(QY)))
def YL:aX:=[
([a5],tI 0),
([a7],tI 0),
([a10],tI 0)]
def Nn:aX:=[
([a5],.tuple [a31,tI 0]),
([a10],.tuple [a28,tI 0]),
([a7],.tuple [a25,tI 0])]
def SS:aX:=[
([xP,a152],a157)]
def SU:aX:=[
([xP,Gz],a157)]
def SW:aX:=[
([xP,a39],a157)]
def Qw:aX:=SS++(SU++(SW))
def No:aX:=[
([xP,a39],tI 1),
([xP,a152],tI 3),
([xP,Gz],tI 2)]
def Np:aX:=[
([U5,a156],tI 3),
([U5,a154],tI 1),
([U5,anU],tI 2)]
def Nq:aX:=[
([a10],.tuple [tN,tI 0]),
([a7],.tuple [.aK [tI 0,tI 1,tI 2] 1,tI 0])]
def Nr:aX:=[
([a5],.tuple [tI 0,tI 1,tI 25]),
([a7],.tuple [tI 0,tI 0,tI 0])]
def tree:Dv.Tree:=.node 96 (.node 54 (.node 29 (.node 19 (.node 17 (.node 12 (.leaf 8 [(3,akZ)]) (.leaf 12 [(9,YL)])) (.node 18 (.leaf 17 [(10,Nn)]) (.leaf 18 [(14,Nq)]))) (.node 26 (.node 25 (.leaf 19 [(14,Nr)]) (.leaf 25 [(1,X9)])) (.node 27 (.leaf 26 [(1,Ya)]) (.node 28 (.leaf 27 [(2,Yh)]) (.leaf 28 [(1,Yb)]))))) (.node 47 (.node 33 (.node 30 (.leaf 29 [(1,Yc)]) (.leaf 30 [(1,Yd)])) (.node 34 (.leaf 33 [(8,YK)]) (.node 44 (.leaf 34 [(4,Yw),(5,YD)]) (.leaf 44 [(1,Ye)])))) (.node 51 (.node 48 (.leaf 47 [(3,QB),(4,QI)]) (.leaf 48 [(4,QM),(5,YE)])) (.node 52 (.leaf 51 [(4,Yx)]) (.node 53 (.leaf 52 [(2,Yi)]) (.leaf 53 [(3,Yn),(4,Yy)])))))) (.node 74 (.node 68 (.node 64 (.node 63 (.leaf 54 [(4,Yz),(5,YF)]) (.leaf 63 [(7,YI)])) (.node 65 (.leaf 64 [(3,Yo),(4,YA)]) (.leaf 65 [(8,QU)]))) (.node 70 (.node 69 (.leaf 68 [(13,Np)]) (.leaf 69 [(3,Yp),(4,YB)])) (.node 71 (.leaf 70 [(7,YJ)]) (.node 73 (.leaf 71 [(2,Yj),(3,Yq)]) (.leaf 73 [(3,Yr)]))))) (.node 81 (.node 78 (.node 75 (.leaf 74 [(1,Qx)]) (.leaf 75 [(2,Yk),(3,Ys)])) (.node 79 (.leaf 78 [(6,QR)]) (.node 80 (.leaf 79 [(6,YG)]) (.leaf 80 [(2,Yl)])))) (.node 84 (.node 82 (.leaf 81 [(1,Yf)]) (.leaf 82 [(1,Yg)])) (.node 85 (.leaf 84 [(3,Yt)]) (.node 91 (.leaf 85 [(3,Yu),(4,YC)]) (.leaf 91 [(6,YH)]))))))) (.node 157 (.node 123 (.node 103 (.node 101 (.node 98 (.leaf 96 [(2,Ym),(3,Yv)]) (.leaf 98 [(12,No)])) (.node 102 (.leaf 101 [(1,Ns)]) (.leaf 102 [(1,Nt)]))) (.node 109 (.node 108 (.leaf 103 [(2,NJ)]) (.leaf 108 [(1,Nu)])) (.node 110 (.leaf 109 [(1,Nv),(2,NK)]) (.node 111 (.leaf 110 [(2,NL)]) (.leaf 111 [(1,Nw)]))))) (.node 134 (.node 125 (.node 124 (.leaf 123 [(4,Hd),(5,Hg)]) (.leaf 124 [(4,NQ)])) (.node 126 (.leaf 125 [(3,NO)]) (.node 127 (.leaf 126 [(5,NU),(6,NZ)]) (.leaf 127 [(3,NP)])))) (.node 137 (.node 135 (.leaf 134 [(11,Qw)]) (.leaf 135 [(5,Hh),(6,Hi)])) (.node 140 (.leaf 137 [(1,G8)]) (.node 141 (.leaf 140 [(5,NV)]) (.leaf 141 [(4,He),(5,NW)])))))) (.node 173 (.node 165 (.node 159 (.node 158 (.leaf 157 [(1,Nx)]) (.leaf 158 [(1,Ny)])) (.node 160 (.leaf 159 [(2,NM)]) (.leaf 160 [(2,Hc)]))) (.node 169 (.node 166 (.leaf 165 [(4,NR)]) (.leaf 166 [(1,Nz)])) (.node 170 (.leaf 169 [(2,NN)]) (.node 171 (.leaf 170 [(1,NA)]) (.leaf 171 [(1,NB)]))))) (.node 187 (.node 179 (.node 176 (.leaf 173 [(6,N0),(7,N1)]) (.leaf 176 [(1,NC)])) (.node 181 (.leaf 179 [(1,ND)]) (.node 183 (.leaf 181 [(1,NF)]) (.leaf 183 [(4,NS)])))) (.node 207 (.node 201 (.leaf 187 [(4,NT),(5,NX)]) (.leaf 201 [(1,NG)])) (.node 208 (.leaf 207 [(1,G9)]) (.node 214 (.leaf 208 [(1,NH)]) (.leaf 214 [(1,NI),(5,NY)])))))))
noncomputable abbrev cK(l f:Nat)(k:aX):Bool:=s9 (E0.upto tree l) 100000 f k
noncomputable abbrev lO(n:Nat):Table:=(tree.leaves.filter fun x=>x.2.1==n).map (fun x=>(x.1,x.2.2))
def ak1:Table:=[(25,X9),(26,Ya),(28,Yb),(29,Yc),(30,Yd),(44,Ye),(74,Qx),(81,Yf),(82,Yg),(101,Ns),(102,Nt),(108,Nu),(109,Nv),(111,Nw),(137,G8),(157,Nx),(158,Ny),(166,Nz),(170,NA),(171,NB),(176,NC),(179,ND),(181,NF),(201,NG),(207,G9),(208,NH),(214,NI)]
def ak2:Table:=[(27,Yh),(52,Yi),(71,Yj),(75,Yk),(80,Yl),(96,Ym),(103,NJ),(109,NK),(110,NL),(159,NM),(160,Hc),(169,NN)]
def ak3:Table:=[(8,akZ),(47,QB),(53,Yn),(64,Yo),(69,Yp),(71,Yq),(73,Yr),(75,Ys),(84,Yt),(85,Yu),(96,Yv),(125,NO),(127,NP)]
def ak4:Table:=[(34,Yw),(47,QI),(48,QM),(51,Yx),(53,Yy),(54,Yz),(64,YA),(69,YB),(85,YC),(123,Hd),(124,NQ),(141,He),(165,NR),(183,NS),(187,NT)]
def ak5:Table:=[(34,YD),(48,YE),(54,YF),(123,Hg),(126,NU),(135,Hh),(140,NV),(141,NW),(187,NX),(214,NY)]
def ak6:Table:=[(78,QR),(79,YG),(91,YH),(126,NZ),(135,Hi),(173,N0)]
def ak7:Table:=[(63,YI),(70,YJ),(173,N1)]
def ak8:Table:=[(33,YK),(65,QU)]
def ak9:Table:=[(12,YL)]
def YM:Table:=[(17,Nn)]
def aum:Table:=[(134,Qw)]
def YN:Table:=[(98,No)]
def YO:Table:=[(68,Np)]
def YP:Table:=[(18,Nq),(19,Nr)]
end Go.Proofs.YtmkjgfnicfpjpaaGreatDoor
