/- Lemmas for AssemblyChecks; no condition. -/
import Derived.Test.YtmkjgfnicfpjpaaGreatDoorTbb
set_option linter.all false
set_option maxHeartbeats 100000000
set_option maxRecDepth 100000
noncomputable section
namespace Go.Proofs.YtmkjgfnicfpjpaaGreatDoor
open Go Dv
def aoU:cK 0 25 X9=true:=by kernel_rfl
def aoX:cK 0 29 Yc=true:=by kernel_rfl
def ao1:cK 0 81 Yf=true:=by kernel_rfl
def Vg:cK 0 137 JK=true:=by kernel_rfl
def ais:cK 0 158 Nu=true:=by kernel_rfl
def aiv:cK 0 171 Nx=true:=by kernel_rfl
def Vi:cK 0 207 JM=true:=by kernel_rfl
def Vk:cK 0 207 JO=true:=by kernel_rfl
def Vs:cK 0 207 JV=true:=by kernel_rfl
def RN:cK 0 207 FQ=true:=by kernel_rfl
def RO:cK 0 207 FR=true:=by kernel_rfl
def RP:cK 0 207 FT=true:=by kernel_rfl
def apG:cK 1 27 Yh=true:=by kernel_rfl
def apK:cK 1 80 Yl=true:=by kernel_rfl
def aiK:cK 1 103 NF=true:=by kernel_rfl
def Vx:cK 1 160 JZ=true:=by kernel_rfl
def Vz:cK 1 160 J1=true:=by kernel_rfl
def aiP:cK 1 169 NJ=true:=by kernel_rfl
def axD:cK 2 8 akY=true:=by kernel_rfl
def abE:cK 2 47 Qx=true:=by kernel_rfl
def abF:cK 2 47 Qy=true:=by kernel_rfl
def apQ:cK 2 64 Yo=true:=by kernel_rfl
def apU:cK 2 75 Ys=true:=by kernel_rfl
def apV:cK 2 84 Yt=true:=by kernel_rfl
def aiQ:cK 2 125 NK=true:=by kernel_rfl
def abJ:cK 3 47 QD=true:=by kernel_rfl
def ap1:cK 3 51 Yx=true:=by kernel_rfl
def VD:cK 3 123 J4=true:=by kernel_rfl
def VH:cK 3 123 J8=true:=by kernel_rfl
def aiT:cK 3 124 NM=true:=by kernel_rfl
def VK:cK 3 141 Kb=true:=by kernel_rfl
def VR:cK 4 135 Kh=true:=by kernel_rfl
def aqc:cK 5 91 YH=true:=by kernel_rfl
def VV:cK 5 135 Kk=true:=by kernel_rfl
def aqd:cK 6 63 YI=true:=by kernel_rfl
def ai8:cK 6 173 NX=true:=by kernel_rfl
def abQ:cK 7 65 QP=true:=by kernel_rfl
end Go.Proofs.YtmkjgfnicfpjpaaGreatDoor
