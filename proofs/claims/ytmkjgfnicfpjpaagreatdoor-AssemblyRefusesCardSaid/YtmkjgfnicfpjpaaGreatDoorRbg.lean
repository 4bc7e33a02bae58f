/- Lemmas for AssemblyRefuses; no condition. -/
import Derived.Test.YtmkjgfnicfpjpaaGreatDoorRbf
set_option linter.all false
set_option maxHeartbeats 100000000
set_option maxRecDepth 100000
noncomputable section
namespace Go.Proofs.YtmkjgfnicfpjpaaGreatDoor
open Go Dv
variable{E:Env}[C:Ctx E]
def N5:call (E0.upto tree 14) 100000 5 []=some (.bool true):=by kernel_rfl
def N4:Dv.Good E0 Tryz.prog 5 [] (.bool true):=by
 obtain⟨V,O⟩:=Ie fq oG g14;exact Fz fun L w vs hl hg ha=>GJ V O 100000 5 [] _ N5 L w vs hl hg ha
end Go.Proofs.YtmkjgfnicfpjpaaGreatDoor
