/-
  DERIVED. GIVEN WITH THE SEED: THE CARDS: each row of YtlcddiojeghfgaaDoorRows.lean that lists a variable, with what it lists TIED to the program's text (the seventh form; the later family's looks); each row that meets fmt, with fmt's text TOLD by the authors' own Lean function (tested against real Go, not proved from fmt's source: count such statements apart). THE CARD IS WHAT COUNTS. Prove the row's statement (the work); the ties are given (YtlcddiojeghfgaaDoorTie.lean); close each card by the builder's one call (the guide's Derived/Test/ToyasCard.lean, 'card_holds'). Laid BY PROGRAM, IN A SANDBOX (cutbox-door.mjs). By AI agents, Wed Nov 11 2026. No macro, syntax, notation, axiom, sorry.
-/
import Derived.Test.YtlcddiojeghfgaaDoorRows
import GoSem.ClaimSeven
namespace Go.Proofs.YtlcddiojeghfgaaDoor
namespace Rows

/-- THE TIED CARD OF 'laws.FnExactParseFp'. -/
def fnExactParseFpCard : Claim7 := { stood := { row := fnExactParseFpRow, standIns := [], harness := (true, "60b288b5238d8c456aef9d867d4d80173a37b937acf8e7810822b554b4e7eb6e"), looks := true }, kinds := [], alts := [], laidByText := true, laidKinds := [.data, .data, .data, .data, .sentinel, .sentinel, .pinned], laidTests := true, laidLooks := .later }
def FnExactParseFpCardSaid : Prop := Claim7.holds Tryd.pinned (.plain (OpenSpec.ofChange fnExactParseFpSpec)) fnExactParseFpCard

/-- THE SECOND FORM's CARD OF 'laws.FnExactParseFp'. -/
def fnExactParseFpUptoCard : Claim7 := { stood := { row := fnExactParseFpUptoRow, standIns := [], harness := (true, "60b288b5238d8c456aef9d867d4d80173a37b937acf8e7810822b554b4e7eb6e"), looks := true }, kinds := [], alts := [], laidByText := true, laidKinds := [.data, .data, .data, .data, .sentinel, .sentinel, .pinned], laidTests := true, laidLooks := .later }
def FnExactParseFpUptoCardSaid : Prop := Claim7.holds Tryd.pinned (.plain (OpenSpec.upto fnExactParseFpSpec)) fnExactParseFpUptoCard
end Rows
end Go.Proofs.YtlcddiojeghfgaaDoor
