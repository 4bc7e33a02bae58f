/- Lemmas for AssemblyChecks; no condition. -/
import Derived.Test.YtmkjgfnicfpjpaaGreatDoorTaj
import Derived.Test.YtmkjgfnicfpjpaaGreatDoorTie
import Derived.Test.YtmkjgfnicfpjpaaGreatDoorCards
import Derived.ProofKit
import Derived.SevenTiedAt
set_option linter.all false
set_option maxHeartbeats 100000000
set_option maxRecDepth 100000
noncomputable section
namespace Go.Proofs.YtmkjgfnicfpjpaaGreatDoor
open Go
def kK{a b:Bool}(h:a=true)(k:b=true):(a&&b)=true:=by rw[h,k];rfl
def jf0:(Rows.assemblyChecksRow.wf (OpenSpec.ofChange Rows.assemblyChecksSpec))=true:=by kernel_rfl
def jf1:(laidOutB Tryz.prog)=true:=by kernel_rfl
def jf2:(mapsRowed Tryz.prog)=true:=by kernel_rfl
def jf3:(Tryz.f3.params.all (Tryz.prog.readableRec ·))=true:=by kernel_rfl
def jf4:(namedTie Tryz.prog Rows.assemblyChecksRow.named Rows.assemblyChecksSpec.vars)=true:=by kernel_rfl
def jf5:((Rows.assemblyChecksRow.stops==[]))=true:=by kernel_rfl
def jf6:((Tryz.prog.stops==[]))=true:=by kernel_rfl
def jf7:((Rows.assemblyChecksRow.knobs==[]))=true:=by kernel_rfl
def jf8:((Tryz.prog.stopKnobs==[]))=true:=by kernel_rfl
def jf9:((Rows.assemblyChecksRow.inPlace==Tryz.prog.inPlace 3))=true:=by kernel_rfl
def aAl:((Rows.assemblyChecksRow.unfollowed==Tryz.prog.unfollowed 3))=true:=by kernel_rfl
def aAm:((Rows.assemblyChecksRow.recurses==Tryz.prog.recurses 3))=true:=by kernel_rfl
def aAn:((Rows.assemblyChecksRow.named==Tryz.prog.varsNamed 3))=true:=by kernel_rfl
def aAo:((Rows.assemblyChecksRow.maps==(Tryz.f3.params.toList++Rows.assemblyChecksSpec.plain.varTypes Tryz.prog).any (Tryz.prog.mapsRec ·)))=true:=by kernel_rfl
def aAp:((Rows.assemblyChecksRow.ifaces==(Tryz.f3.params.toList++Rows.assemblyChecksSpec.plain.varTypes Tryz.prog).any (Tryz.prog.ifacesRec ·)))=true:=by kernel_rfl
def aAq:((Rows.assemblyChecksRow.mapsOut==Tryz.prog.mapsAmong Tryz.f3.resultTypes.toList))=true:=by kernel_rfl
def aAr:((Rows.assemblyChecksRow.loops==(Tryz.f3.params.toList++Rows.assemblyChecksSpec.plain.varTypes Tryz.prog).any (Tryz.prog.loopsFrom ·)))=true:=by kernel_rfl
def aAs:((Rows.assemblyChecksRow.wideKeys==(Tryz.f3.params.toList++Rows.assemblyChecksSpec.plain.varTypes Tryz.prog++Tryz.f3.resultTypes.toList).any (Tryz.prog.wideKeysFrom ·)))=true:=by kernel_rfl
def aAt:(Rows.assemblyChecksSpec.vars.all (Tryz.prog.varReadable ·))=true:=by kernel_rfl
def aAu:(Tryz.f3.resultTypes.all (fun t=>Tryz.prog.readableRec t&&decide (t<Tryz.prog.types.size)))=true:=by kernel_rfl
def aAv:((Rows.assemblyChecksRow.ifacesOut==Tryz.f3.resultTypes.toList.any (Tryz.prog.ifacesRec ·)))=true:=by kernel_rfl
def aAw:((Rows.assemblyChecksRow.loopsOut==Tryz.f3.resultTypes.toList.any (Tryz.prog.loopsFrom ·)))=true:=by kernel_rfl
def aAx:((Rows.assemblyChecksRow.plainKeys==Tryz.prog.plainKeys))=true:=by kernel_rfl
def aAy:(Rows.assemblyChecksRow.shortTexts.isNone)=true:=by kernel_rfl
def aAz:(Tryz.prog.stopsHeard)=true:=by kernel_rfl
def aAA:(Tryz.prog.mayEnter)=true:=by kernel_rfl
def aAB:((Rows.assemblyChecksRow.lifted==Tryz.prog.liftsFinal))=true:=by kernel_rfl
def aAC:((Tryz.prog.make==some Rows.assemblyChecksRow.make))=true:=by kernel_rfl
def aAD:((Rows.assemblyChecksRow.kinds==(if Rows.assemblyChecksRow.domain.isEmpty then []else Tryz.f3.params.toList.map fun t=>match Tryz.prog.underlying t with|some (.int k)=>some k|_=>none)))=true:=by kernel_rfl
def aAE:((Rows.assemblyChecksRow.pinned==Rows.assemblyChecksRow.pinnedBy))=true:=by kernel_rfl
def aAF:((Rows.assemblyChecksRow.veiled==(Tryz.f3.params.toList++Rows.assemblyChecksSpec.plain.varTypes Tryz.prog++Tryz.f3.resultTypes.toList).any (Tryz.prog.veiledRec ·)))=true:=by kernel_rfl
def aAG:(Rows.assemblyChecksRow.veiledFits Tryz.prog Tryz.f3.params.toList (Tryz.f3.params.toList++Rows.assemblyChecksSpec.plain.varTypes Tryz.prog++Tryz.f3.resultTypes.toList))=true:=by kernel_rfl
def akW:joinedFacts Tryz.prog 3 Tryz.f3 Rows.assemblyChecksSpec Rows.assemblyChecksRow=true:=by unfold joinedFacts;exact kK (kK (kK (kK (kK (kK (kK (kK (kK (kK (kK (kK (kK (kK (kK (kK (kK (kK (kK (kK (kK (kK (kK (kK (kK (kK (kK (kK (kK (kK (kK jf0 jf1) jf2) jf3) jf4) jf5) jf6) jf7) jf8) jf9) aAl) aAm) aAn) aAo) aAp) aAq) aAr) aAs) aAt) aAu) aAv) aAw) aAx) aAy) aAz) aAA) aAB) aAC) aAD) aAE) aAF) aAG
end Go.Proofs.YtmkjgfnicfpjpaaGreatDoor
