/- Lemmas for AssemblyRefuses; no condition. -/
import Derived.Test.YtmkjgfnicfpjpaaGreatDoorRba
set_option linter.all false
set_option maxHeartbeats 100000000
set_option maxRecDepth 100000
noncomputable section
namespace Go.Proofs.YtmkjgfnicfpjpaaGreatDoor
open Go Dv
def aiq:cK 0 101 Ns=true:=by kernel_rfl
def ait:cK 0 109 Nv=true:=by kernel_rfl
def aiu:cK 0 111 Nw=true:=by kernel_rfl
def aiz:cK 0 170 NA=true:=by kernel_rfl
def Vo:cK 0 207 JJ=true:=by kernel_rfl
def Vq:cK 0 207 JL=true:=by kernel_rfl
def Vr:cK 0 207 JM=true:=by kernel_rfl
def Vv:cK 0 207 JQ=true:=by kernel_rfl
def RT:cK 0 207 FN=true:=by kernel_rfl
def apP:cK 1 71 Yj=true:=by kernel_rfl
def aiQ:cK 1 110 NL=true:=by kernel_rfl
def Vz:cK 1 160 JU=true:=by kernel_rfl
def abF:cK 2 47 QC=true:=by kernel_rfl
def apY:cK 2 69 Yp=true:=by kernel_rfl
def apZ:cK 2 71 Yq=true:=by kernel_rfl
def ap0:cK 2 73 Yr=true:=by kernel_rfl
def ap4:cK 2 96 Yv=true:=by kernel_rfl
def aiV:cK 2 127 NP=true:=by kernel_rfl
def ap5:cK 3 34 Yw=true:=by kernel_rfl
def abN:cK 3 48 QO=true:=by kernel_rfl
def aqa:cK 3 54 Yz=true:=by kernel_rfl
def aqb:cK 3 64 YA=true:=by kernel_rfl
def VH:cK 3 123 J1=true:=by kernel_rfl
def VM:cK 3 141 J6=true:=by kernel_rfl
def VP:cK 3 141 J8=true:=by kernel_rfl
def aqe:cK 4 34 YD=true:=by kernel_rfl
def aqf:cK 4 48 YE=true:=by kernel_rfl
def VQ:cK 4 123 J9=true:=by kernel_rfl
def VT:cK 4 123 Kb=true:=by kernel_rfl
def VW:cK 4 135 Ke=true:=by kernel_rfl
def ai5:cK 4 140 NV=true:=by kernel_rfl
def ai6:cK 4 141 NW=true:=by kernel_rfl
def aqm:cK 7 33 YK=true:=by kernel_rfl
def abT:cK 7 65 QW=true:=by kernel_rfl
def aij:cK 12 68 Np=true:=by kernel_rfl
def aik:cK 13 18 Nq=true:=by kernel_rfl
end Go.Proofs.YtmkjgfnicfpjpaaGreatDoor
