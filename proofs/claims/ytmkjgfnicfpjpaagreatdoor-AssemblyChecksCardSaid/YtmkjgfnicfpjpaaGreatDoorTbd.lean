/- Lemmas for AssemblyChecks; no condition. -/
import Derived.Test.YtmkjgfnicfpjpaaGreatDoorTbb
set_option linter.all false
set_option maxHeartbeats 100000000
set_option maxRecDepth 100000
noncomputable section
namespace Go.Proofs.YtmkjgfnicfpjpaaGreatDoor
open Go Dv
def aoV:cK 0 26 Ya=true:=by kernel_rfl
def aoW:cK 0 28 Yb=true:=by kernel_rfl
def aoZ:cK 0 44 Ye=true:=by kernel_rfl
def abA:cK 0 74 Qs=true:=by kernel_rfl
def abB:cK 0 74 Qt=true:=by kernel_rfl
def ao2:cK 0 82 Yg=true:=by kernel_rfl
def ail:cK 0 102 Np=true:=by kernel_rfl
def aim:cK 0 108 Nq=true:=by kernel_rfl
def Vh:cK 0 137 JL=true:=by kernel_rfl
def aiw:cK 0 176 Ny=true:=by kernel_rfl
def aiy:cK 0 181 NA=true:=by kernel_rfl
def aiz:cK 0 201 NB=true:=by kernel_rfl
def Vo:cK 0 207 JR=true:=by kernel_rfl
def Vq:cK 0 207 JT=true:=by kernel_rfl
def RL:cK 0 207 FO=true:=by kernel_rfl
def RQ:cK 0 207 FU=true:=by kernel_rfl
def aiB:cK 0 208 NC=true:=by kernel_rfl
def aiL:cK 1 109 NG=true:=by kernel_rfl
def aiN:cK 1 159 NI=true:=by kernel_rfl
def Vu:cK 1 160 JW=true:=by kernel_rfl
def Vy:cK 1 160 J0=true:=by kernel_rfl
def abG:cK 2 47 Qz=true:=by kernel_rfl
def apP:cK 2 53 Yn=true:=by kernel_rfl
def apW:cK 2 85 Yu=true:=by kernel_rfl
def abI:cK 3 47 QC=true:=by kernel_rfl
def abN:cK 3 48 QJ=true:=by kernel_rfl
def VC:cK 3 123 J3=true:=by kernel_rfl
def VG:cK 3 123 J7=true:=by kernel_rfl
def aiV:cK 3 165 NN=true:=by kernel_rfl
def aiX:cK 3 187 NP=true:=by kernel_rfl
def ap9:cK 4 54 YF=true:=by kernel_rfl
def VQ:cK 4 135 Kg=true:=by kernel_rfl
def ai3:cK 4 187 NT=true:=by kernel_rfl
def abO:cK 5 78 QM=true:=by kernel_rfl
def abS:cK 7 65 QR=true:=by kernel_rfl
def aqh:cK 8 12 YL=true:=by kernel_rfl
def aic:cK 11 98 Nj=true:=by kernel_rfl
end Go.Proofs.YtmkjgfnicfpjpaaGreatDoor
