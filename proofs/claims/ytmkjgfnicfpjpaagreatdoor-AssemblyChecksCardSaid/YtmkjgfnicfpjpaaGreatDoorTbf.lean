/- Lemmas for AssemblyChecks; no condition. -/
import Derived.Test.YtmkjgfnicfpjpaaGreatDoorTbb
set_option linter.all false
set_option maxHeartbeats 100000000
set_option maxRecDepth 100000
noncomputable section
namespace Go.Proofs.YtmkjgfnicfpjpaaGreatDoor
open Go Dv
def aik:cK 0 101 No=true:=by kernel_rfl
def aio:cK 0 109 Nr=true:=by kernel_rfl
def aip:cK 0 111 Ns=true:=by kernel_rfl
def aiu:cK 0 170 Nw=true:=by kernel_rfl
def Vj:cK 0 207 JN=true:=by kernel_rfl
def Vm:cK 0 207 JP=true:=by kernel_rfl
def Vn:cK 0 207 JQ=true:=by kernel_rfl
def Vr:cK 0 207 JU=true:=by kernel_rfl
def RM:cK 0 207 FP=true:=by kernel_rfl
def apI:cK 1 71 Yj=true:=by kernel_rfl
def aiM:cK 1 110 NH=true:=by kernel_rfl
def Vw:cK 1 160 JY=true:=by kernel_rfl
def abD:cK 2 47 Qw=true:=by kernel_rfl
def apR:cK 2 69 Yp=true:=by kernel_rfl
def apS:cK 2 71 Yq=true:=by kernel_rfl
def apT:cK 2 73 Yr=true:=by kernel_rfl
def apX:cK 2 96 Yv=true:=by kernel_rfl
def aiR:cK 2 127 NL=true:=by kernel_rfl
def apY:cK 3 34 Yw=true:=by kernel_rfl
def abL:cK 3 48 QH=true:=by kernel_rfl
def ap3:cK 3 54 Yz=true:=by kernel_rfl
def ap4:cK 3 64 YA=true:=by kernel_rfl
def VE:cK 3 123 J5=true:=by kernel_rfl
def VJ:cK 3 141 Ka=true:=by kernel_rfl
def VL:cK 3 141 Kc=true:=by kernel_rfl
def ap7:cK 4 34 YD=true:=by kernel_rfl
def ap8:cK 4 48 YE=true:=by kernel_rfl
def VM:cK 4 123 Kd=true:=by kernel_rfl
def VP:cK 4 123 Kf=true:=by kernel_rfl
def VT:cK 4 135 Ki=true:=by kernel_rfl
def ai1:cK 4 140 NR=true:=by kernel_rfl
def ai2:cK 4 141 NS=true:=by kernel_rfl
def aqf:cK 7 33 YK=true:=by kernel_rfl
def abR:cK 7 65 QQ=true:=by kernel_rfl
def aid:cK 12 68 Nk=true:=by kernel_rfl
def aie:cK 13 18 Nl=true:=by kernel_rfl
end Go.Proofs.YtmkjgfnicfpjpaaGreatDoor
