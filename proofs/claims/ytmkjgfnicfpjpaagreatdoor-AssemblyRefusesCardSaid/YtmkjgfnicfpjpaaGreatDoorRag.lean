/- Lemmas for AssemblyRefuses; no condition. -/
import Derived.Test.YtmkjgfnicfpjpaaGreatDoorRows
import Derived.KernelRfl
import Derived.Test.YtmkjgfnicfpjpaaGreatDoorRaf
set_option linter.all false
set_option maxHeartbeats 100000000
set_option maxRecDepth 100000
noncomputable section
open Nat renaming lt_or_ge->aPh
open List renaming range'->aPi
namespace Go.Proofs.YtmkjgfnicfpjpaaGreatDoor
open Go Dv
def Zv:Nat->Nat->List (Nat×Nat)
 |1,9=>[(1,7),(3,7),(4,7),(6,7)]
 |1,12=>[(4,8),(4,9)]
 |1,21=>[(3,19),(7,19),(8,19),(12,19),(16,19),(17,19),(18,19)]
 |4,10=>[(1,8),(3,8),(5,8),(7,8)]
 |5,7=>[(3,4)]
 |5,8=>[(1,4)]
 |5,9=>[(0,6),(1,6),(2,6),(1,5)]
 |5,15=>[(0,10),(1,10),(2,10),(3,10),(4,10),(5,10),(0,11),(1,11),(2,11),(3,11),(4,11),(5,11),(10,11)]
 |5,20=>[(1,17),(3,17),(5,17),(7,17),(9,17),(11,17),(12,17),(13,17)]
 |6,4=>[(0,1),(0,2),(1,2)]
 |7,5=>[(1,2)]
 |7,10=>[(0,7),(1,7),(2,7),(3,7)]
 |7,14=>[(1,11),(6,11),(7,11)]
 |7,15=>[(0,10),(1,10),(2,10),(3,10),(4,10),(5,10),(0,11),(1,11),(2,11),(3,11),(4,11),(5,11),(10,11)]
 |7,28=>[(12,13),(11,14),(12,14)]
 |8,4=>[(1,2)]
 |8,8=>[(1,4)]
 |8,11=>[(0,8),(1,8),(2,8),(3,8),(4,8)]
 |8,23=>[(1,19),(3,19),(7,19),(9,19),(11,19),(13,19),(16,19),(18,19),(1,20),(3,20),(7,20),(9,20),(11,20),(13,20),(16,20),(18,20),(19,20),(11,21),(13,21),(16,21),(18,21)]
 |8,106=>[(7,10),(7,12),(7,15),(7,17),(7,20),(7,22),(7,26),(7,28),(7,30),(7,32),(7,35),(7,37),(7,41),(7,43),(7,46),(7,48),(7,52),(7,54),(7,57),(7,59),(7,61),(7,63),(7,66),(7,68),(7,72),(7,74),(7,78),(7,80),(7,83),(7,85),(7,88),(7,90),(7,92),(7,94),(7,97),(7,99),(0,104),(2,104),(4,104),(6,104),(7,104),(8,104),(10,104),(12,104),(13,104),(15,104),(17,104),(18,104),(20,104),(22,104),(23,104),(26,104),(28,104),(29,104),(30,104),(32,104),(33,104),(35,104),(37,104),(38,104),(39,104),(41,104),(43,104),(44,104),(46,104),(48,104),(49,104),(52,104),(54,104),(55,104),(57,104),(59,104),(60,104),(61,104),(63,104),(64,104),(66,104),(68,104),(69,104),(70,104),(72,104),(74,104),(75,104),(78,104),(80,104),(81,104),(83,104),(85,104),(86,104),(88,104),(90,104),(91,104),(92,104),(94,104),(95,104),(97,104),(99,104),(100,104),(101,104)]
 |9,4=>[(1,2)]
 |9,12=>[(0,10),(1,10),(2,10),(3,10),(4,10),(5,10),(6,10),(7,10),(8,10),(9,10)]
 |10,4=>[(1,2)]
 |10,9=>[(0,6),(1,6),(2,6)]
 |10,21=>[(0,19),(3,19),(4,19),(5,19),(7,19),(8,19),(9,19),(12,19),(13,19),(14,19),(16,19),(17,19),(18,19)]
 |11,14=>[(0,11),(2,11),(6,11),(7,11)]
 |11,21=>[(1,17)]
 |12,9=>[(0,6),(1,6),(2,6)]
 |13,11=>[(1,7)]
 |15,5=>[(1,2)]
 |15,13=>[(0,8),(1,8),(2,8),(3,8),(0,9),(1,9),(2,9),(3,9),(8,9)]
 |15,22=>[(3,18),(7,18),(8,18),(12,18),(16,18),(17,18),(3,19),(7,19),(8,19),(12,19),(16,19),(17,19),(18,19)]
 |15,24=>[(1,20)]
 |18,9=>[(0,6),(1,6),(2,6)]
 |20,12=>[(3,7),(4,7),(2,8),(3,8),(4,8)]
 |_,_=>[]
def aud:List Nat:=[32,61,62,66,67,86,115,139,161,168,172,180,181,182,185,189,190,209,211,212,215,230,231,233,242,243,244,245,246,247,248,249,251,252,253,254,255,256,257,258,270,271,272,273,274,275,276,277,282,284,285,286,287,288,289,305,306,307,309,310,311,318]
def af5:List Nat:=[61,62,86,180,181,233]
def ahg:List Nat:=[148]
def cellsD:DataW Unit->List AV
 |.lit (.int k n)=>[.int k n]
 |.agg ds=>go ds
 |_=>[]
where
 go:List (DataW Unit)->List AV
 |[]=>[]
 |.lit (.int k n)::ds=>.int k n::go ds
 |_::ds=>bT::go ds
def Ly:List AV:=cellsD Rows.laid_math_bits_deBruijn64tab
def ahl:List AV:=cellsD Rows.laid_math_bits_deBruijn32tab
def Ag:List AV:=cellsD Rows.laid_internal_strconv_uint64pow10
def Xa:Nat->Option (List AV)
 |0=>some Ly
 |7=>some ahl
 |1=>some Ag
 |_=>none
def Bo:UQ:={JE:=312,auF:=188,trim:=178,trimPrefix:=177,Fo:=225,Ge:=228,itoa:=113,rep:=114,join:=116,contains:=226,pred:=227}
def Ja:List Nat:=[312,188,178,177,225,228,113,114,116,226]
def N2:List Nat:=[5,98]
def MG:List Nat:=N2++Ja
def EV(f:Nat)(l:List AV)(H:Hp):Option (AV×Hp):=if f=215 then Ju l H else none
def BO{f:Nat}{l:List AV}{H:Hp}(h:f≠215:=by decide):EV f l H=none:=by unfold EV;rw[if_neg h]
def Zn{l:List AV}{H:Hp}:EV 215 l H=Ju l H:=by unfold EV;rw[if_pos rfl]
def EN(o:Nat->List AV->Option AV):Env:={ty:=aal Tryz.prog,fn:=acR Tryz.prog aud af5 ahg,glob:=Xa,ov:=fun f l=>if f=5∨f=98 then o f l else iC Bo f l,rH:=EV,pairs:=Zv}
def E0:Env:=EN fun _ _=>none
def Sd:(Tryz.prog.funcs.all (fun fn=>fn.name != "runtime.NumGoroutine"))=true:=by kernel_rfl
def uE:Tryz.prog.follows .mixedOrders=true:=by kernel_rfl
def Wz:Tryz.prog.funcs.size=350:=by kernel_rfl
def ajq:(aPi 0 15).all (nw E0)=true:=by kernel_rfl
def ajr:(aPi 15 15).all (nw E0)=true:=by kernel_rfl
def ajs:(aPi 30 15).all (nw E0)=true:=by kernel_rfl
def ajt:(aPi 45 15).all (nw E0)=true:=by kernel_rfl
def aju:(aPi 60 15).all (nw E0)=true:=by kernel_rfl
def ajv:(aPi 75 15).all (nw E0)=true:=by kernel_rfl
def ajw:(aPi 90 15).all (nw E0)=true:=by kernel_rfl
def ajx:(aPi 105 15).all (nw E0)=true:=by kernel_rfl
def ajy:(aPi 120 15).all (nw E0)=true:=by kernel_rfl
def ajz:(aPi 135 15).all (nw E0)=true:=by kernel_rfl
def ach:(aPi 150 15).all (nw E0)=true:=by kernel_rfl
def aci:(aPi 165 15).all (nw E0)=true:=by kernel_rfl
def acj:(aPi 180 15).all (nw E0)=true:=by kernel_rfl
def ack:(aPi 195 15).all (nw E0)=true:=by kernel_rfl
def acm:(aPi 210 15).all (nw E0)=true:=by kernel_rfl
def acn:(aPi 225 15).all (nw E0)=true:=by kernel_rfl
def aco:(aPi 240 15).all (nw E0)=true:=by kernel_rfl
def acp:(aPi 255 15).all (nw E0)=true:=by kernel_rfl
def acq:(aPi 270 15).all (nw E0)=true:=by kernel_rfl
def acr:(aPi 285 15).all (nw E0)=true:=by kernel_rfl
def acs:(aPi 300 15).all (nw E0)=true:=by kernel_rfl
def acu:(aPi 315 15).all (nw E0)=true:=by kernel_rfl
def acv:(aPi 330 15).all (nw E0)=true:=by kernel_rfl
def acw:(aPi 345 5).all (nw E0)=true:=by kernel_rfl
def fq:Valid E0 Tryz.prog:=by
 refine LB (E:=E0) (P:=Tryz.prog) (imp:=aud) (eD:=af5) (skip:=ahg) (by simp only[E0,EN]) (by simp only[E0,EN]) Sd uE fun f hf=>?_
 rw[Wz]at hf;rcases aPh f 15 with h|h
 ·exact dR ajq
 rcases aPh f 30 with h|h
 ·exact dR ajr
 rcases aPh f 45 with h|h
 ·exact dR ajs
 rcases aPh f 60 with h|h
 ·exact dR ajt
 rcases aPh f 75 with h|h
 ·exact dR aju
 rcases aPh f 90 with h|h
 ·exact dR ajv
 rcases aPh f 105 with h|h
 ·exact dR ajw
 rcases aPh f 120 with h|h
 ·exact dR ajx
 rcases aPh f 135 with h|h
 ·exact dR ajy
 rcases aPh f 150 with h|h
 ·exact dR ajz
 rcases aPh f 165 with h|h
 ·exact dR ach
 rcases aPh f 180 with h|h
 ·exact dR aci
 rcases aPh f 195 with h|h
 ·exact dR acj
 rcases aPh f 210 with h|h
 ·exact dR ack
 rcases aPh f 225 with h|h
 ·exact dR acm
 rcases aPh f 240 with h|h
 ·exact dR acn
 rcases aPh f 255 with h|h
 ·exact dR aco
 rcases aPh f 270 with h|h
 ·exact dR acp
 rcases aPh f 285 with h|h
 ·exact dR acq
 rcases aPh f 300 with h|h
 ·exact dR acr
 rcases aPh f 315 with h|h
 ·exact dR acs
 rcases aPh f 330 with h|h
 ·exact dR acu
 rcases aPh f 345 with h|h
 ·exact dR acv
 rcases aPh f 350 with h|h
 ·exact dR acw
 omega
end Go.Proofs.YtmkjgfnicfpjpaaGreatDoor
