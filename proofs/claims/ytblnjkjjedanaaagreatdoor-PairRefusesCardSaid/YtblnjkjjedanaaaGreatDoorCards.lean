/-
  DERIVED. GIVEN WITH THE SEED: THE CARDS: each row of YtblnjkjjedanaaaGreatDoorRows.lean that lists a variable, with what it lists TIED to the program's text (the seventh form; the later family's looks); each row that meets fmt, with fmt's text TOLD by the authors' own Lean function (tested against real Go, not proved from fmt's source: count such statements apart). THE CARD IS WHAT COUNTS. Prove the row's statement (the work); the ties are given (YtblnjkjjedanaaaGreatDoorTie.lean); close each card by the builder's one call (the guide's Derived/Test/ToyasCard.lean, 'card_holds'). Laid BY PROGRAM, IN A SANDBOX (cutbox-door.mjs). By AI agents, Wed Nov 11 2026. No macro, syntax, notation, axiom, sorry.
-/
import Derived.Test.YtblnjkjjedanaaaGreatDoorRows
import GoSem.ClaimSeven
namespace Go.Proofs.YtblnjkjjedanaaaGreatDoor
namespace Rows

/-- THE TIED CARD OF 'dowellaw19.PairRefuses'. -/
def pairRefusesCard : Claim7 := { stood := { row := pairRefusesRow, standIns := [], harness := (true, "f4381bf0e44c1ef221111a6e72ae5d7b0e5dfb36c022d8a60789f62feb93b889"), looks := true }, kinds := [], alts := [], laidByText := true, laidKinds := [.data, .data, .data, .data, .sentinel, .sentinel, .pinned], laidTests := true, laidLooks := .later }
def PairRefusesCardSaid : Prop := Claim7.holds Tryz.pinned (.plain (OpenSpec.ofChange pairRefusesSpec)) pairRefusesCard

/-- THE TIED CARD OF 'dowellaw19.PairChecks'. -/
def pairChecksCard : Claim7 := { stood := { row := pairChecksRow, standIns := [], harness := (true, "f4381bf0e44c1ef221111a6e72ae5d7b0e5dfb36c022d8a60789f62feb93b889"), looks := true }, kinds := [], alts := [], laidByText := true, laidKinds := [.data, .data, .data, .data, .sentinel, .sentinel, .pinned], laidTests := true, laidLooks := .later }
def PairChecksCardSaid : Prop := Claim7.holds Tryz.pinned (.plain (OpenSpec.ofChange pairChecksSpec)) pairChecksCard

/-- THE SECOND FORM's CARD OF 'dowellaw19.PairRefuses'. -/
def pairRefusesUptoCard : Claim7 := { stood := { row := pairRefusesUptoRow, standIns := [], harness := (true, "f4381bf0e44c1ef221111a6e72ae5d7b0e5dfb36c022d8a60789f62feb93b889"), looks := true }, kinds := [], alts := [], laidByText := true, laidKinds := [.data, .data, .data, .data, .sentinel, .sentinel, .pinned], laidTests := true, laidLooks := .later }
def PairRefusesUptoCardSaid : Prop := Claim7.holds Tryz.pinned (.plain (OpenSpec.upto pairRefusesSpec)) pairRefusesUptoCard

/-- THE SECOND FORM's CARD OF 'dowellaw19.PairChecks'. -/
def pairChecksUptoCard : Claim7 := { stood := { row := pairChecksUptoRow, standIns := [], harness := (true, "f4381bf0e44c1ef221111a6e72ae5d7b0e5dfb36c022d8a60789f62feb93b889"), looks := true }, kinds := [], alts := [], laidByText := true, laidKinds := [.data, .data, .data, .data, .sentinel, .sentinel, .pinned], laidTests := true, laidLooks := .later }
def PairChecksUptoCardSaid : Prop := Claim7.holds Tryz.pinned (.plain (OpenSpec.upto pairChecksSpec)) pairChecksUptoCard
end Rows
end Go.Proofs.YtblnjkjjedanaaaGreatDoor
