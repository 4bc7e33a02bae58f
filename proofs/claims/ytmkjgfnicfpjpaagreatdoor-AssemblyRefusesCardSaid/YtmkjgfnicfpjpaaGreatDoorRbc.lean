/- Lemmas for AssemblyRefuses; no condition. -/
import Derived.Test.YtmkjgfnicfpjpaaGreatDoorRba
set_option linter.all false
set_option maxHeartbeats 100000000
set_option maxRecDepth 100000
noncomputable section
namespace Go.Proofs.YtmkjgfnicfpjpaaGreatDoor
open Go Dv
def ao1:cK 0 26 Ya=true:=by kernel_rfl
def ao2:cK 0 28 Yb=true:=by kernel_rfl
def ao5:cK 0 44 Ye=true:=by kernel_rfl
def abC:cK 0 74 Qy=true:=by kernel_rfl
def abD:cK 0 74 Qz=true:=by kernel_rfl
def ao8:cK 0 82 Yg=true:=by kernel_rfl
def air:cK 0 102 Nt=true:=by kernel_rfl
def ais:cK 0 108 Nu=true:=by kernel_rfl
def Vm:cK 0 137 JH=true:=by kernel_rfl
def aiB:cK 0 176 NC=true:=by kernel_rfl
def aiD:cK 0 181 NF=true:=by kernel_rfl
def aiE:cK 0 201 NG=true:=by kernel_rfl
def Vs:cK 0 207 JN=true:=by kernel_rfl
def Vu:cK 0 207 JP=true:=by kernel_rfl
def RS:cK 0 207 FM=true:=by kernel_rfl
def RX:cK 0 207 FR=true:=by kernel_rfl
def aiG:cK 0 208 NH=true:=by kernel_rfl
def aiP:cK 1 109 NK=true:=by kernel_rfl
def aiR:cK 1 159 NM=true:=by kernel_rfl
def Vx:cK 1 160 JS=true:=by kernel_rfl
def VC:cK 1 160 JW=true:=by kernel_rfl
def abI:cK 2 47 QG=true:=by kernel_rfl
def apW:cK 2 53 Yn=true:=by kernel_rfl
def ap3:cK 2 85 Yu=true:=by kernel_rfl
def abK:cK 3 47 QJ=true:=by kernel_rfl
def abP:cK 3 48 QQ=true:=by kernel_rfl
def VF:cK 3 123 JZ=true:=by kernel_rfl
def VJ:cK 3 123 J3=true:=by kernel_rfl
def aiZ:cK 3 165 NR=true:=by kernel_rfl
def ai1:cK 3 187 NT=true:=by kernel_rfl
def aqg:cK 4 54 YF=true:=by kernel_rfl
def VU:cK 4 135 Kc=true:=by kernel_rfl
def ai7:cK 4 187 NX=true:=by kernel_rfl
def abQ:cK 5 78 QS=true:=by kernel_rfl
def abU:cK 7 65 QX=true:=by kernel_rfl
def aqo:cK 8 12 YL=true:=by kernel_rfl
def aii:cK 11 98 No=true:=by kernel_rfl
end Go.Proofs.YtmkjgfnicfpjpaaGreatDoor
