/-
  DERIVED. GIVEN WITH THE SEED: THE CARDS: each row of YtmkjgfnicfpjpaaGreatDoorRows.lean that lists a variable, with what it lists TIED to the program's text (the seventh form; the later family's looks); each row that meets fmt, with fmt's text TOLD by the authors' own Lean function (tested against real Go, not proved from fmt's source: count such statements apart). THE CARD IS WHAT COUNTS. Prove the row's statement (the work); the ties are given (YtmkjgfnicfpjpaaGreatDoorTie.lean); close each card by the builder's one call (the guide's Derived/Test/ToyasCard.lean, 'card_holds'). Laid BY PROGRAM, IN A SANDBOX (cutbox-door.mjs). By AI agents, Wed Nov 11 2026. No macro, syntax, notation, axiom, sorry.
-/
import Derived.Test.YtmkjgfnicfpjpaaGreatDoorRows
import GoSem.ClaimSeven
namespace Go.Proofs.YtmkjgfnicfpjpaaGreatDoor
namespace Rows

/-- THE TIED CARD OF 'dowellaw15.AssemblyChecks'. -/
def assemblyChecksCard : Claim7 := { stood := { row := assemblyChecksRow, standIns := [], harness := (true, "d68c0f3f066ac3a2cc6a82bc888280a6a11115b115b98b0f752b17abad798bf7"), looks := true }, kinds := [], alts := [], laidByText := true, laidKinds := [.data, .data, .data, .data, .sentinel, .sentinel, .pinned], laidTests := true, laidLooks := .later }
def AssemblyChecksCardSaid : Prop := Claim7.holds Tryz.pinned (.plain (OpenSpec.ofChange assemblyChecksSpec)) assemblyChecksCard

/-- THE TIED CARD OF 'dowellaw15.AssemblyRefuses'. -/
def assemblyRefusesCard : Claim7 := { stood := { row := assemblyRefusesRow, standIns := [], harness := (true, "d68c0f3f066ac3a2cc6a82bc888280a6a11115b115b98b0f752b17abad798bf7"), looks := true }, kinds := [], alts := [], laidByText := true, laidKinds := [.data, .data, .data, .data, .sentinel, .sentinel, .pinned], laidTests := true, laidLooks := .later }
def AssemblyRefusesCardSaid : Prop := Claim7.holds Tryz.pinned (.plain (OpenSpec.ofChange assemblyRefusesSpec)) assemblyRefusesCard

/-- THE SECOND FORM's CARD OF 'dowellaw15.AssemblyChecks'. -/
def assemblyChecksUptoCard : Claim7 := { stood := { row := assemblyChecksUptoRow, standIns := [], harness := (true, "d68c0f3f066ac3a2cc6a82bc888280a6a11115b115b98b0f752b17abad798bf7"), looks := true }, kinds := [], alts := [], laidByText := true, laidKinds := [.data, .data, .data, .data, .sentinel, .sentinel, .pinned], laidTests := true, laidLooks := .later }
def AssemblyChecksUptoCardSaid : Prop := Claim7.holds Tryz.pinned (.plain (OpenSpec.upto assemblyChecksSpec)) assemblyChecksUptoCard

/-- THE SECOND FORM's CARD OF 'dowellaw15.AssemblyRefuses'. -/
def assemblyRefusesUptoCard : Claim7 := { stood := { row := assemblyRefusesUptoRow, standIns := [], harness := (true, "d68c0f3f066ac3a2cc6a82bc888280a6a11115b115b98b0f752b17abad798bf7"), looks := true }, kinds := [], alts := [], laidByText := true, laidKinds := [.data, .data, .data, .data, .sentinel, .sentinel, .pinned], laidTests := true, laidLooks := .later }
def AssemblyRefusesUptoCardSaid : Prop := Claim7.holds Tryz.pinned (.plain (OpenSpec.upto assemblyRefusesSpec)) assemblyRefusesUptoCard
end Rows
end Go.Proofs.YtmkjgfnicfpjpaaGreatDoor
