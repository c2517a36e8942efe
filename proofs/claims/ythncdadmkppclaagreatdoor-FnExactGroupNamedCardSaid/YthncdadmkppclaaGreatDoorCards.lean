/-
  DERIVED. GIVEN WITH THE SEED: THE CARDS: each row of YthncdadmkppclaaGreatDoorRows.lean that lists a variable, with what it lists TIED to the program's text (the seventh form; the later family's looks); each row that meets fmt, with fmt's text TOLD by the authors' own Lean function (tested against real Go, not proved from fmt's source: count such statements apart). THE CARD IS WHAT COUNTS. Prove the row's statement (the work); the ties are given (YthncdadmkppclaaGreatDoorTie.lean); close each card by the builder's one call (the guide's Derived/Test/ToyasCard.lean, 'card_holds'). Laid BY PROGRAM, IN A SANDBOX (cutbox-door.mjs). By AI agents, Wed Nov 11 2026. No macro, syntax, notation, axiom, sorry.
-/
import Derived.Test.YthncdadmkppclaaGreatDoorRows
import GoSem.ClaimSeven
namespace Go.Proofs.YthncdadmkppclaaGreatDoor
namespace Rows

/-- THE TIED CARD OF 'laws.FnExactListedGroup'. -/
def fnExactListedGroupCard : Claim7 := { stood := { row := fnExactListedGroupRow, standIns := [], harness := (true, "29bcbb80285117db71314188905a371c12e21590047825fe4203b878385f2dfc"), looks := true }, kinds := [], alts := [], laidByText := true, laidKinds := [.data, .data, .data, .data, .sentinel, .sentinel, .pinned], laidTests := true, laidLooks := .later }
def FnExactListedGroupCardSaid : Prop := Claim7.holds Tryz.pinned (.plain (OpenSpec.ofChange fnExactListedGroupSpec)) fnExactListedGroupCard

/-- THE TIED CARD OF 'laws.FnExactGroupNamed'. -/
def fnExactGroupNamedCard : Claim7 := { stood := { row := fnExactGroupNamedRow, standIns := [], harness := (true, "29bcbb80285117db71314188905a371c12e21590047825fe4203b878385f2dfc"), looks := true }, kinds := [], alts := [], laidByText := true, laidKinds := [.data, .data, .data, .data, .sentinel, .sentinel, .pinned], laidTests := true, laidLooks := .later }
def FnExactGroupNamedCardSaid : Prop := Claim7.holds Tryz.pinned (.plain (OpenSpec.ofChange fnExactGroupNamedSpec)) fnExactGroupNamedCard

/-- THE SECOND FORM's CARD OF 'laws.FnExactListedGroup'. -/
def fnExactListedGroupUptoCard : Claim7 := { stood := { row := fnExactListedGroupUptoRow, standIns := [], harness := (true, "29bcbb80285117db71314188905a371c12e21590047825fe4203b878385f2dfc"), looks := true }, kinds := [], alts := [], laidByText := true, laidKinds := [.data, .data, .data, .data, .sentinel, .sentinel, .pinned], laidTests := true, laidLooks := .later }
def FnExactListedGroupUptoCardSaid : Prop := Claim7.holds Tryz.pinned (.plain (OpenSpec.upto fnExactListedGroupSpec)) fnExactListedGroupUptoCard

/-- THE SECOND FORM's CARD OF 'laws.FnExactGroupNamed'. -/
def fnExactGroupNamedUptoCard : Claim7 := { stood := { row := fnExactGroupNamedUptoRow, standIns := [], harness := (true, "29bcbb80285117db71314188905a371c12e21590047825fe4203b878385f2dfc"), looks := true }, kinds := [], alts := [], laidByText := true, laidKinds := [.data, .data, .data, .data, .sentinel, .sentinel, .pinned], laidTests := true, laidLooks := .later }
def FnExactGroupNamedUptoCardSaid : Prop := Claim7.holds Tryz.pinned (.plain (OpenSpec.upto fnExactGroupNamedSpec)) fnExactGroupNamedUptoCard
end Rows
end Go.Proofs.YthncdadmkppclaaGreatDoor
