/- Lemmas for AssemblyChecks; no condition. -/
import Derived.Test.YtmkjgfnicfpjpaaGreatDoorTbb
set_option linter.all false
set_option maxHeartbeats 100000000
set_option maxRecDepth 100000
noncomputable section
namespace Go.Proofs.YtmkjgfnicfpjpaaGreatDoor
open Go Dv
def aoY:cK 0 30 Yd=true:=by kernel_rfl
def abC:cK 0 74 Qu=true:=by kernel_rfl
def air:cK 0 157 Nt=true:=by kernel_rfl
def ait:cK 0 166 Nv=true:=by kernel_rfl
def aix:cK 0 179 Nz=true:=by kernel_rfl
def Vp:cK 0 207 JS=true:=by kernel_rfl
def RJ:cK 0 207 FN=true:=by kernel_rfl
def RR:cK 0 207 FV=true:=by kernel_rfl
def RS:cK 0 207 FW=true:=by kernel_rfl
def aiC:cK 0 214 ND=true:=by kernel_rfl
def apH:cK 1 52 Yi=true:=by kernel_rfl
def apJ:cK 1 75 Yk=true:=by kernel_rfl
def apL:cK 1 96 Ym=true:=by kernel_rfl
def Vv:cK 1 160 JX=true:=by kernel_rfl
def abH:cK 2 47 QA=true:=by kernel_rfl
def abK:cK 3 48 QG=true:=by kernel_rfl
def abM:cK 3 48 QI=true:=by kernel_rfl
def ap2:cK 3 53 Yy=true:=by kernel_rfl
def ap5:cK 3 69 YB=true:=by kernel_rfl
def ap6:cK 3 85 YC=true:=by kernel_rfl
def VB:cK 3 123 J2=true:=by kernel_rfl
def VF:cK 3 123 J6=true:=by kernel_rfl
def VI:cK 3 123 J9=true:=by kernel_rfl
def aiW:cK 3 183 NO=true:=by kernel_rfl
def VN:cK 4 123 Ke=true:=by kernel_rfl
def aiZ:cK 4 126 NQ=true:=by kernel_rfl
def ai4:cK 4 214 NU=true:=by kernel_rfl
def abP:cK 5 78 QN=true:=by kernel_rfl
def aqb:cK 5 79 YG=true:=by kernel_rfl
def ai5:cK 5 126 NV=true:=by kernel_rfl
def VU:cK 5 135 Kj=true:=by kernel_rfl
def ai7:cK 5 173 NW=true:=by kernel_rfl
def aqe:cK 6 70 YJ=true:=by kernel_rfl
def abT:cK 7 65 QS=true:=by kernel_rfl
def ah9:cK 9 17 Ni=true:=by kernel_rfl
def aif:cK 13 19 Nn=true:=by kernel_rfl
end Go.Proofs.YtmkjgfnicfpjpaaGreatDoor
