/-
  DERIVED. GIVEN WITH THE SEED: THE CARDS: each row of YtlcddiojeghfgaaGreatDoorRows.lean that lists a variable, with what it lists TIED to the program's text (the seventh form; the later family's looks); each row that meets fmt, with fmt's text TOLD by the authors' own Lean function (tested against real Go, not proved from fmt's source: count such statements apart). THE CARD IS WHAT COUNTS. Prove the row's statement (the work); the ties are given (YtlcddiojeghfgaaGreatDoorTie.lean); close each card by the builder's one call (the guide's Derived/Test/ToyasCard.lean, 'card_holds'). Laid BY PROGRAM, IN A SANDBOX (cutbox-door.mjs). By AI agents, Wed Nov 11 2026. No macro, syntax, notation, axiom, sorry.
-/
import Derived.Test.YtlcddiojeghfgaaGreatDoorRows
import GoSem.ClaimSeven
namespace Go.Proofs.YtlcddiojeghfgaaGreatDoor
namespace Rows

/-- THE TIED CARD OF 'laws.FnFpTexts'. -/
def fnFpTextsCard : Claim7 := { stood := { row := fnFpTextsRow, standIns := [], harness := (true, "92802fcdda4bc5451a01bbd77a9835cdad7e7fd40317b3eb83d1a2c8799fec8e"), looks := true }, kinds := [], alts := [], laidByText := true, laidKinds := [.data, .data, .data, .data, .sentinel, .sentinel, .pinned], laidTests := true, laidLooks := .later }
def FnFpTextsCardSaid : Prop := Claim7.holds Tryz.pinned (.plain (OpenSpec.ofChange fnFpTextsSpec)) fnFpTextsCard

/-- THE SECOND FORM's CARD OF 'laws.FnFpTexts'. -/
def fnFpTextsUptoCard : Claim7 := { stood := { row := fnFpTextsUptoRow, standIns := [], harness := (true, "92802fcdda4bc5451a01bbd77a9835cdad7e7fd40317b3eb83d1a2c8799fec8e"), looks := true }, kinds := [], alts := [], laidByText := true, laidKinds := [.data, .data, .data, .data, .sentinel, .sentinel, .pinned], laidTests := true, laidLooks := .later }
def FnFpTextsUptoCardSaid : Prop := Claim7.holds Tryz.pinned (.plain (OpenSpec.upto fnFpTextsSpec)) fnFpTextsUptoCard
end Rows
end Go.Proofs.YtlcddiojeghfgaaGreatDoor
