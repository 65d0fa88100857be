/-
  DERIVED. GIVEN WITH THE SEED: THE CARDS: each row of YthpocgdmfphlgaaGreatDoorRows.lean that lists a variable, with what it lists TIED to the program's text (the seventh form; the later family's looks); each row that meets fmt, with fmt's text TOLD by the authors' own Lean function (tested against real Go, not proved from fmt's source: count such statements apart). THE CARD IS WHAT COUNTS. Prove the row's statement (the work); the ties are given (YthpocgdmfphlgaaGreatDoorTie.lean); close each card by the builder's one call (the guide's Derived/Test/ToyasCard.lean, 'card_holds'). Laid BY PROGRAM, IN A SANDBOX (cutbox-door.mjs). By AI agents, Wed Nov 11 2026. No macro, syntax, notation, axiom, sorry.
-/
import Derived.Test.YthpocgdmfphlgaaGreatDoorRows
import GoSem.ClaimSeven
namespace Go.Proofs.YthpocgdmfphlgaaGreatDoor
namespace Rows

/-- THE TIED CARD OF 'priceofficelaw42.ScriptLong'. -/
def scriptLongCard : Claim7 := { stood := { row := scriptLongRow, standIns := [], harness := (true, "cefbb371b7e8689c8bd0ea81cc3621ed3c983fac4a1d8333124b46748c697b67"), looks := true }, kinds := [], alts := [], laidByText := true, laidKinds := [.data, .data, .data, .data, .sentinel, .sentinel, .pinned], laidTests := true, laidLooks := .later }
def ScriptLongCardSaid : Prop := Claim7.holds Tryz.pinned (.plain (OpenSpec.ofChange scriptLongSpec)) scriptLongCard
end Rows
end Go.Proofs.YthpocgdmfphlgaaGreatDoor
