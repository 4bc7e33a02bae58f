/- Lemmas for AssemblyChecks; no condition. -/
import Derived.Test.YtmkjgfnicfpjpaaGreatDoorTba
import Derived.Test.YtmkjgfnicfpjpaaGreatDoorTaj
import Derived.Test.YtmkjgfnicfpjpaaGreatDoorTbc
import Derived.Test.YtmkjgfnicfpjpaaGreatDoorTbd
import Derived.Test.YtmkjgfnicfpjpaaGreatDoorTbe
import Derived.Test.YtmkjgfnicfpjpaaGreatDoorTbf
set_option linter.all false
set_option maxHeartbeats 100000000
set_option maxRecDepth 100000
noncomputable section
open Bool renaming and_self->aQz
open List renaming all_cons->aPa,all_nil->aQC
namespace Go.Proofs.YtmkjgfnicfpjpaaGreatDoor
open Go Dv
variable{E:Env}[C:Ctx E]
def ao0:cK 0 74 Qr=true:=by simp only[Qr,dF,aQz,abA,abB,abC]
def aiq:cK 0 137 G7=true:=by simp only[G7,dF,aQz,Vg,Vh]
def aiA:cK 0 207 G8=true:=by simp only[G8,dF,aQz,Vi,Vj,Vk,Vm,Vn,Vo,Vp,Vq,Vr,Vs,RJ,RL,RM,RN,RO,RP,RQ,RR,RS]
def aiO:cK 1 160 G9=true:=by simp only[G9,dF,aQz,Vu,Vv,Vw,Vx,Vy,Vz]
def apO:cK 2 47 Qv=true:=by simp only[Qv,dF,aQz,abD,abE,abF,abG,abH]
def apZ:cK 3 47 QB=true:=by simp only[QB,dF,aQz,abI,abJ]
def ap0:cK 3 48 QE=true:=by simp only[QE,dF,aQz,abK,abL,abM,abN]
def aiS:cK 3 123 Hc=true:=by simp only[Hc,dF,aQz,VB,VC,VD,VE,VF,VG,VH,VI]
def aiU:cK 3 141 Hd=true:=by simp only[Hd,dF,aQz,VJ,VK,VL]
def aiY:cK 4 123 He=true:=by simp only[He,dF,aQz,VM,VN,VP]
def ai0:cK 4 135 Hg=true:=by simp only[Hg,dF,aQz,VQ,VR,VT]
def aqa:cK 5 78 QK=true:=by simp only[QK,dF,aQz,abO,abP]
def ai6:cK 5 135 Hh=true:=by simp only[Hh,dF,aQz,VU,VV]
def aqg:cK 7 65 QO=true:=by simp only[QO,dF,aQz,abQ,abR,abS,abT]
def g0:df E0 Tryz.prog tree 0:=df.zero (by kernel_rfl)
def auk:lO 1=ak0:=by kernel_rfl
def t1:fl (E0.upto tree 0) 100000 ak0=true:=by simp only[ak0,fl,aPa,aQC,aQz,aoU,aoV,aoW,aoX,aoY,aoZ,ao0,ao1,ao2,aik,ail,aim,aio,aip,aiq,air,ais,ait,aiu,aiv,aiw,aix,aiy,aiz,aiA,aiB,aiC]
def g1:df E0 Tryz.prog tree 1:=g0.qC fq oB auk t1
def aul:lO 2=ak1:=by kernel_rfl
def t2:fl (E0.upto tree 1) 100000 ak1=true:=by simp only[ak1,fl,aPa,aQC,aQz,apG,apH,apI,apJ,apK,apL,aiK,aiL,aiM,aiN,aiO,aiP]
def g2:df E0 Tryz.prog tree 2:=g1.qC fq oB aul t2
def aum:lO 3=ak2:=by kernel_rfl
def t3:fl (E0.upto tree 2) 100000 ak2=true:=by simp only[ak2,fl,aPa,aQC,aQz,axD,apO,apP,apQ,apR,apS,apT,apU,apV,apW,apX,aiQ,aiR]
def g3:df E0 Tryz.prog tree 3:=g2.qC fq oB aum t3
def aun:lO 4=ak3:=by kernel_rfl
def t4:fl (E0.upto tree 3) 100000 ak3=true:=by simp only[ak3,fl,aPa,aQC,aQz,apY,apZ,ap0,ap1,ap2,ap3,ap4,ap5,ap6,aiS,aiT,aiU,aiV,aiW,aiX]
def g4:df E0 Tryz.prog tree 4:=g3.qC fq oB aun t4
def auo:lO 5=ak4:=by kernel_rfl
def t5:fl (E0.upto tree 4) 100000 ak4=true:=by simp only[ak4,fl,aPa,aQC,aQz,ap7,ap8,ap9,aiY,aiZ,ai0,ai1,ai2,ai3,ai4]
def g5:df E0 Tryz.prog tree 5:=g4.qC fq oB auo t5
def aup:lO 6=ak5:=by kernel_rfl
def t6:fl (E0.upto tree 5) 100000 ak5=true:=by simp only[ak5,fl,aPa,aQC,aQz,aqa,aqb,aqc,ai5,ai6,ai7]
def g6:df E0 Tryz.prog tree 6:=g5.qC fq oB aup t6
def auq:lO 7=ak6:=by kernel_rfl
def t7:fl (E0.upto tree 6) 100000 ak6=true:=by simp only[ak6,fl,aPa,aQC,aQz,aqd,aqe,ai8]
def g7:df E0 Tryz.prog tree 7:=g6.qC fq oB auq t7
def aur:lO 8=ak7:=by kernel_rfl
def t8:fl (E0.upto tree 7) 100000 ak7=true:=by simp only[ak7,fl,aPa,aQC,aQz,aqf,aqg]
def g8:df E0 Tryz.prog tree 8:=g7.qC fq oB aur t8
def aus:lO 9=ak8:=by kernel_rfl
def t9:fl (E0.upto tree 8) 100000 ak8=true:=by simp only[ak8,fl,aPa,aQC,aQz,aqh]
def g9:df E0 Tryz.prog tree 9:=g8.qC fq oB aus t9
def ak9:lO 10=YM:=by kernel_rfl
def t10:fl (E0.upto tree 9) 100000 YM=true:=by simp only[YM,fl,aPa,aQC,aQz,ah9]
def g10:df E0 Tryz.prog tree 10:=g9.qC fq oB ak9 t10
def ala:lO 11=auj:=by kernel_rfl
def g11:df E0 Tryz.prog tree 11:=g10.other ala (L4 (N:=100000) fq oB g10 (by kernel_rfl))
def alb:lO 12=YN:=by kernel_rfl
def t12:fl (E0.upto tree 11) 100000 YN=true:=by simp only[YN,fl,aPa,aQC,aQz,aic]
def g12:df E0 Tryz.prog tree 12:=g11.qC fq oB alb t12
def alc:lO 13=YO:=by kernel_rfl
def t13:fl (E0.upto tree 12) 100000 YO=true:=by simp only[YO,fl,aPa,aQC,aQz,aid]
def g13:df E0 Tryz.prog tree 13:=g12.qC fq oB alc t13
def ald:lO 14=YP:=by kernel_rfl
def t14:fl (E0.upto tree 13) 100000 YP=true:=by simp only[YP,fl,aPa,aQC,aQz,aie,aif]
def g14:df E0 Tryz.prog tree 14:=g13.qC fq oB ald t14
end Go.Proofs.YtmkjgfnicfpjpaaGreatDoor
