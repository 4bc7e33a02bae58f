/- Lemmas for AssemblyRefuses; no condition. -/
import Derived.Test.YtmkjgfnicfpjpaaGreatDoorRaz
import Derived.Test.YtmkjgfnicfpjpaaGreatDoorRaj
import Derived.Test.YtmkjgfnicfpjpaaGreatDoorRbb
import Derived.Test.YtmkjgfnicfpjpaaGreatDoorRbc
import Derived.Test.YtmkjgfnicfpjpaaGreatDoorRbd
import Derived.Test.YtmkjgfnicfpjpaaGreatDoorRbe
set_option linter.all false
set_option maxHeartbeats 100000000
set_option maxRecDepth 100000
noncomputable section
open Bool renaming and_self->aRo
open List renaming all_cons->aPZ,all_nil->aRr
namespace Go.Proofs.YtmkjgfnicfpjpaaGreatDoor
open Go Dv
variable{E:Env}[C:Ctx E]
def ao6:cK 0 74 Qx=true:=by simp only[Qx,dF,aRo,abC,abD,abE]
def aiv:cK 0 137 G8=true:=by simp only[G8,dF,aRo,Vk,Vm]
def aiF:cK 0 207 G9=true:=by simp only[G9,dF,aRo,Vn,Vo,Vp,Vq,Vr,Vs,Vt,Vu,Vv,Vw,RR,RS,RT,RU,RV,RW,RX,RY,RZ]
def aiS:cK 1 160 Hc=true:=by simp only[Hc,dF,aRo,Vx,Vy,Vz,VB,VC,VD]
def apV:cK 2 47 QB=true:=by simp only[QB,dF,aRo,abF,abG,abH,abI,abJ]
def ap6:cK 3 47 QI=true:=by simp only[QI,dF,aRo,abK,abL]
def ap7:cK 3 48 QM=true:=by simp only[QM,dF,aRo,abM,abN,abO,abP]
def aiW:cK 3 123 Hd=true:=by simp only[Hd,dF,aRo,VE,VF,VG,VH,VI,VJ,VK,VL]
def aiY:cK 3 141 He=true:=by simp only[He,dF,aRo,VM,VN,VP]
def ai2:cK 4 123 Hg=true:=by simp only[Hg,dF,aRo,VQ,VR,VT]
def ai4:cK 4 135 Hh=true:=by simp only[Hh,dF,aRo,VU,VV,VW]
def aqh:cK 5 78 QR=true:=by simp only[QR,dF,aRo,abQ,abR]
def aja:cK 5 135 Hi=true:=by simp only[Hi,dF,aRo,VX,VY]
def aqn:cK 7 65 QU=true:=by simp only[QU,dF,aRo,abS,abT,abU,abV]
def g0:df E0 Tryz.prog tree 0:=df.zero (by kernel_rfl)
def aun:lO 1=ak1:=by kernel_rfl
def t1:fl (E0.upto tree 0) 100000 ak1=true:=by simp only[ak1,fl,aPZ,aRr,aRo,ao0,ao1,ao2,ao3,ao4,ao5,ao6,ao7,ao8,aiq,air,ais,ait,aiu,aiv,aiw,aix,aiy,aiz,aiA,aiB,aiC,aiD,aiE,aiF,aiG,aiH]
def g1:df E0 Tryz.prog tree 1:=g0.qH fq oG aun t1
def auo:lO 2=ak2:=by kernel_rfl
def t2:fl (E0.upto tree 1) 100000 ak2=true:=by simp only[ak2,fl,aPZ,aRr,aRo,apN,apO,apP,apQ,apR,apS,aiO,aiP,aiQ,aiR,aiS,aiT]
def g2:df E0 Tryz.prog tree 2:=g1.qH fq oG auo t2
def aup:lO 3=ak3:=by kernel_rfl
def t3:fl (E0.upto tree 2) 100000 ak3=true:=by simp only[ak3,fl,aPZ,aRr,aRo,axJ,apV,apW,apX,apY,apZ,ap0,ap1,ap2,ap3,ap4,aiU,aiV]
def g3:df E0 Tryz.prog tree 3:=g2.qH fq oG aup t3
def auq:lO 4=ak4:=by kernel_rfl
def t4:fl (E0.upto tree 3) 100000 ak4=true:=by simp only[ak4,fl,aPZ,aRr,aRo,ap5,ap6,ap7,ap8,ap9,aqa,aqb,aqc,aqd,aiW,aiX,aiY,aiZ,ai0,ai1]
def g4:df E0 Tryz.prog tree 4:=g3.qH fq oG auq t4
def aur:lO 5=ak5:=by kernel_rfl
def t5:fl (E0.upto tree 4) 100000 ak5=true:=by simp only[ak5,fl,aPZ,aRr,aRo,aqe,aqf,aqg,ai2,ai3,ai4,ai5,ai6,ai7,ai8]
def g5:df E0 Tryz.prog tree 5:=g4.qH fq oG aur t5
def aus:lO 6=ak6:=by kernel_rfl
def t6:fl (E0.upto tree 5) 100000 ak6=true:=by simp only[ak6,fl,aPZ,aRr,aRo,aqh,aqi,aqj,ai9,aja,ajb]
def g6:df E0 Tryz.prog tree 6:=g5.qH fq oG aus t6
def aut:lO 7=ak7:=by kernel_rfl
def t7:fl (E0.upto tree 6) 100000 ak7=true:=by simp only[ak7,fl,aPZ,aRr,aRo,aqk,aql,ajc]
def g7:df E0 Tryz.prog tree 7:=g6.qH fq oG aut t7
def auu:lO 8=ak8:=by kernel_rfl
def t8:fl (E0.upto tree 7) 100000 ak8=true:=by simp only[ak8,fl,aPZ,aRr,aRo,aqm,aqn]
def g8:df E0 Tryz.prog tree 8:=g7.qH fq oG auu t8
def auv:lO 9=ak9:=by kernel_rfl
def t9:fl (E0.upto tree 8) 100000 ak9=true:=by simp only[ak9,fl,aPZ,aRr,aRo,aqo]
def g9:df E0 Tryz.prog tree 9:=g8.qH fq oG auv t9
def ala:lO 10=YM:=by kernel_rfl
def t10:fl (E0.upto tree 9) 100000 YM=true:=by simp only[YM,fl,aPZ,aRr,aRo,aie]
def g10:df E0 Tryz.prog tree 10:=g9.qH fq oG ala t10
def alb:lO 11=aum:=by kernel_rfl
def g11:df E0 Tryz.prog tree 11:=g10.other alb (Ma (N:=100000) fq oG g10 (by kernel_rfl))
def alc:lO 12=YN:=by kernel_rfl
def t12:fl (E0.upto tree 11) 100000 YN=true:=by simp only[YN,fl,aPZ,aRr,aRo,aii]
def g12:df E0 Tryz.prog tree 12:=g11.qH fq oG alc t12
def ald:lO 13=YO:=by kernel_rfl
def t13:fl (E0.upto tree 12) 100000 YO=true:=by simp only[YO,fl,aPZ,aRr,aRo,aij]
def g13:df E0 Tryz.prog tree 13:=g12.qH fq oG ald t13
def ale:lO 14=YP:=by kernel_rfl
def t14:fl (E0.upto tree 13) 100000 YP=true:=by simp only[YP,fl,aPZ,aRr,aRo,aik,ail]
def g14:df E0 Tryz.prog tree 14:=g13.qH fq oG ale t14
end Go.Proofs.YtmkjgfnicfpjpaaGreatDoor
