/- Lemmas for AssemblyRefuses; no condition. -/
import Derived.Test.YtmkjgfnicfpjpaaGreatDoorRba
set_option linter.all false
set_option maxHeartbeats 100000000
set_option maxRecDepth 100000
noncomputable section
namespace Go.Proofs.YtmkjgfnicfpjpaaGreatDoor
open Go Dv
def ao0:cK 0 25 X9=true:=by kernel_rfl
def ao3:cK 0 29 Yc=true:=by kernel_rfl
def ao7:cK 0 81 Yf=true:=by kernel_rfl
def Vk:cK 0 137 JG=true:=by kernel_rfl
def aix:cK 0 158 Ny=true:=by kernel_rfl
def aiA:cK 0 171 NB=true:=by kernel_rfl
def Vn:cK 0 207 JI=true:=by kernel_rfl
def Vp:cK 0 207 JK=true:=by kernel_rfl
def Vw:cK 0 207 JR=true:=by kernel_rfl
def RU:cK 0 207 FO=true:=by kernel_rfl
def RV:cK 0 207 FP=true:=by kernel_rfl
def RW:cK 0 207 FQ=true:=by kernel_rfl
def apN:cK 1 27 Yh=true:=by kernel_rfl
def apR:cK 1 80 Yl=true:=by kernel_rfl
def aiO:cK 1 103 NJ=true:=by kernel_rfl
def VB:cK 1 160 JV=true:=by kernel_rfl
def VD:cK 1 160 JX=true:=by kernel_rfl
def aiT:cK 1 169 NN=true:=by kernel_rfl
def axJ:cK 2 8 akZ=true:=by kernel_rfl
def abG:cK 2 47 QD=true:=by kernel_rfl
def abH:cK 2 47 QE=true:=by kernel_rfl
def apX:cK 2 64 Yo=true:=by kernel_rfl
def ap1:cK 2 75 Ys=true:=by kernel_rfl
def ap2:cK 2 84 Yt=true:=by kernel_rfl
def aiU:cK 2 125 NO=true:=by kernel_rfl
def abL:cK 3 47 QK=true:=by kernel_rfl
def ap8:cK 3 51 Yx=true:=by kernel_rfl
def VG:cK 3 123 J0=true:=by kernel_rfl
def VK:cK 3 123 J4=true:=by kernel_rfl
def aiX:cK 3 124 NQ=true:=by kernel_rfl
def VN:cK 3 141 J7=true:=by kernel_rfl
def VV:cK 4 135 Kd=true:=by kernel_rfl
def aqj:cK 5 91 YH=true:=by kernel_rfl
def VY:cK 5 135 Kg=true:=by kernel_rfl
def aqk:cK 6 63 YI=true:=by kernel_rfl
def ajc:cK 6 173 N1=true:=by kernel_rfl
def abS:cK 7 65 QV=true:=by kernel_rfl
end Go.Proofs.YtmkjgfnicfpjpaaGreatDoor
