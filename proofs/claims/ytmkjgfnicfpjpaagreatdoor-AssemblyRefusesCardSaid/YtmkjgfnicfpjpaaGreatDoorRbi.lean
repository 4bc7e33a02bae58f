/- The proof that AssemblyRefuses returns true for every input; no condition of its own. -/
import Derived.Test.YtmkjgfnicfpjpaaGreatDoorRbh
set_option linter.all false
set_option maxHeartbeats 100000000
set_option maxRecDepth 100000
noncomputable section
namespace Go.Proofs.YtmkjgfnicfpjpaaGreatDoor
open Go Go.ChangeShapes Go.WideShapes Go.ChangeAt Go.RowKit Go.ChangeMaps Dv
variable{E:Env}[C:Ctx E]
def EY:Rows.AssemblyRefusesSaid:=
 OpenClaim.holds_of_wide 4 Tryz.f4 rfl rfl rfl rfl rfl rfl rfl ⟨rfl,rfl,rfl,rfl,rfl⟩ rfl rfl rfl rfl rfl (by kernel_rfl) Tryz.func4 aew
  (of_decide_eq_true (by kernel_rfl)) (by unfold Func.isWrapper;first|(rw[if_pos (by decide+kernel)];kernel_rfl)|(rw[if_neg (by decide+kernel)];exact⟨rfl,rfl⟩))
  (fun os started H enc _=>aex os started H enc)
theorem refuses_card:Rows.AssemblyRefusesCardSaid:=
 Claim7.holds_tied_plain_at .later [] [.data,.data,.data,.data,.sentinel,.sentinel,.pinned] true (true,"d68c0f3f066ac3a2cc6a82bc888280a6a11115b115b98b0f752b17abad798bf7") true
  EY (fun _ h=>by cases h) (by kernel_rfl) (fun _ h=>by cases h) assemblyRefuses_row_tie rfl ⟨rfl,rfl⟩ (by kernel_rfl) rfl
  (fun f fn hf fC=>by
   obtain rfl:f=4:=Option.some.inj ((show Tryz.prog.funcNamed "dowel/dowellaw15.AssemblyRefuses"=some 4 by kernel_rfl).symm.trans hf)|>.symm
   obtain rfl:fn=Tryz.f4:=(Option.some.inj (Tryz.func4.symm.trans fC)).symm;exact⟨by kernel_rfl,fun j t ht=>by
    rw[Tryz.params4]at ht;have hm:t∈[25,25]:=by simpa using Array.mem_of_getElem? ht
    have qd:([25,25].all fun u=>!Tryz.prog.wantsStandIn u)=true:=by kernel_rfl
    exact(show Tryz.prog.wantsStandIn t=false by simpa using List.all_eq_true.1 qd t hm)⟩)
  (by kernel_rfl)
#print axioms refuses_card
end Go.Proofs.YtmkjgfnicfpjpaaGreatDoor
