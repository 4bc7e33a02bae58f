/- Lemmas for AssemblyRefuses; no condition. -/
import Derived.Test.YtmkjgfnicfpjpaaGreatDoorRba
set_option linter.all false
set_option maxHeartbeats 100000000
set_option maxRecDepth 100000
noncomputable section
namespace Go.Proofs.YtmkjgfnicfpjpaaGreatDoor
open Go Dv
def ao4:cK 0 30 Yd=true:=by kernel_rfl
def abE:cK 0 74 QA=true:=by kernel_rfl
def aiw:cK 0 157 Nx=true:=by kernel_rfl
def aiy:cK 0 166 Nz=true:=by kernel_rfl
def aiC:cK 0 179 ND=true:=by kernel_rfl
def Vt:cK 0 207 JO=true:=by kernel_rfl
def RR:cK 0 207 FL=true:=by kernel_rfl
def RY:cK 0 207 FT=true:=by kernel_rfl
def RZ:cK 0 207 FU=true:=by kernel_rfl
def aiH:cK 0 214 NI=true:=by kernel_rfl
def apO:cK 1 52 Yi=true:=by kernel_rfl
def apQ:cK 1 75 Yk=true:=by kernel_rfl
def apS:cK 1 96 Ym=true:=by kernel_rfl
def Vy:cK 1 160 JT=true:=by kernel_rfl
def abJ:cK 2 47 QH=true:=by kernel_rfl
def abM:cK 3 48 QN=true:=by kernel_rfl
def abO:cK 3 48 QP=true:=by kernel_rfl
def ap9:cK 3 53 Yy=true:=by kernel_rfl
def aqc:cK 3 69 YB=true:=by kernel_rfl
def aqd:cK 3 85 YC=true:=by kernel_rfl
def VE:cK 3 123 JY=true:=by kernel_rfl
def VI:cK 3 123 J2=true:=by kernel_rfl
def VL:cK 3 123 J5=true:=by kernel_rfl
def ai0:cK 3 183 NS=true:=by kernel_rfl
def VR:cK 4 123 Ka=true:=by kernel_rfl
def ai3:cK 4 126 NU=true:=by kernel_rfl
def ai8:cK 4 214 NY=true:=by kernel_rfl
def abR:cK 5 78 QT=true:=by kernel_rfl
def aqi:cK 5 79 YG=true:=by kernel_rfl
def ai9:cK 5 126 NZ=true:=by kernel_rfl
def VX:cK 5 135 Kf=true:=by kernel_rfl
def ajb:cK 5 173 N0=true:=by kernel_rfl
def aql:cK 6 70 YJ=true:=by kernel_rfl
def abV:cK 7 65 QY=true:=by kernel_rfl
def aie:cK 9 17 Nn=true:=by kernel_rfl
def ail:cK 13 19 Nr=true:=by kernel_rfl
end Go.Proofs.YtmkjgfnicfpjpaaGreatDoor
