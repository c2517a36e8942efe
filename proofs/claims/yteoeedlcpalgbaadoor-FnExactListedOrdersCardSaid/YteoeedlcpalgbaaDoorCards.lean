/-
  DERIVED. GIVEN WITH THE SEED: THE CARDS: each row of YteoeedlcpalgbaaDoorRows.lean that lists a variable, with what it lists TIED to the program's text (the seventh form; the later family's looks); each row that meets fmt, with fmt's text TOLD by the authors' own Lean function (tested against real Go, not proved from fmt's source: count such statements apart). THE CARD IS WHAT COUNTS. Prove the row's statement (the work); the ties are given (YteoeedlcpalgbaaDoorTie.lean); close each card by the builder's one call (the guide's Derived/Test/ToyasCard.lean, 'card_holds'). Laid BY PROGRAM, IN A SANDBOX (cutbox-door.mjs). By AI agents, Wed Nov 11 2026. No macro, syntax, notation, axiom, sorry.
-/
import Derived.Test.YteoeedlcpalgbaaDoorRows
import GoSem.ClaimSeven
namespace Go.Proofs.YteoeedlcpalgbaaDoor
namespace Rows

/-- THE TIED CARD OF 'laws.FnExactFpText'. -/
def fnExactFpTextCard : Claim7 := { stood := { row := fnExactFpTextRow, standIns := [], harness := (true, "db217dca3c511c58c65f155c1f174c82cdebe3bab6bdb7a5868f8c9e6efd82b2"), looks := true }, kinds := [], alts := [], laidByText := true, laidKinds := [.data, .data, .data], laidTests := true, laidLooks := .later }
def FnExactFpTextCardSaid : Prop := Claim7.holds Tryd.pinned (.plain (OpenSpec.ofChange fnExactFpTextSpec)) fnExactFpTextCard

/-- THE TIED CARD OF 'laws.FnExactPlaceOfName'. -/
def fnExactPlaceOfNameCard : Claim7 := { stood := { row := fnExactPlaceOfNameRow, standIns := [], harness := (true, "db217dca3c511c58c65f155c1f174c82cdebe3bab6bdb7a5868f8c9e6efd82b2"), looks := true }, kinds := [], alts := [], laidByText := true, laidKinds := [.data, .data, .data, .data, .sentinel, .sentinel, .pinned], laidTests := true, laidLooks := .later }
def FnExactPlaceOfNameCardSaid : Prop := Claim7.holds Tryd.pinned (.plain (OpenSpec.ofChange fnExactPlaceOfNameSpec)) fnExactPlaceOfNameCard

/-- THE TIED CARD OF 'laws.FnExactCountGroups'. -/
def fnExactCountGroupsCard : Claim7 := { stood := { row := fnExactCountGroupsRow, standIns := [], harness := (true, "db217dca3c511c58c65f155c1f174c82cdebe3bab6bdb7a5868f8c9e6efd82b2"), looks := true }, kinds := [], alts := [], laidByText := true, laidKinds := [.data, .data, .data, .data, .sentinel, .sentinel, .pinned], laidTests := true, laidLooks := .later }
def FnExactCountGroupsCardSaid : Prop := Claim7.holds Tryd.pinned (.plain (OpenSpec.ofChange fnExactCountGroupsSpec)) fnExactCountGroupsCard

/-- THE TIED CARD OF 'laws.FnExactListedOrders'. -/
def fnExactListedOrdersCard : Claim7 := { stood := { row := fnExactListedOrdersRow, standIns := [], harness := (true, "db217dca3c511c58c65f155c1f174c82cdebe3bab6bdb7a5868f8c9e6efd82b2"), looks := true }, kinds := [], alts := [], laidByText := true, laidKinds := [.data, .data, .data, .data, .sentinel, .sentinel, .pinned], laidTests := true, laidLooks := .later }
def FnExactListedOrdersCardSaid : Prop := Claim7.holds Tryd.pinned (.plain (OpenSpec.ofChange fnExactListedOrdersSpec)) fnExactListedOrdersCard

/-- THE TIED CARD OF 'laws.FnExactNameOfGroup'. -/
def fnExactNameOfGroupCard : Claim7 := { stood := { row := fnExactNameOfGroupRow, standIns := [], harness := (true, "db217dca3c511c58c65f155c1f174c82cdebe3bab6bdb7a5868f8c9e6efd82b2"), looks := true }, kinds := [], alts := [], laidByText := true, laidKinds := [.data, .data, .data, .data, .sentinel, .sentinel, .pinned], laidTests := true, laidLooks := .later }
def FnExactNameOfGroupCardSaid : Prop := Claim7.holds Tryd.pinned (.plain (OpenSpec.ofChange fnExactNameOfGroupSpec)) fnExactNameOfGroupCard

/-- THE SECOND FORM's CARD OF 'laws.FnExactFpText'. -/
def fnExactFpTextUptoCard : Claim7 := { stood := { row := fnExactFpTextUptoRow, standIns := [], harness := (true, "db217dca3c511c58c65f155c1f174c82cdebe3bab6bdb7a5868f8c9e6efd82b2"), looks := true }, kinds := [], alts := [], laidByText := true, laidKinds := [.data, .data, .data], laidTests := true, laidLooks := .later }
def FnExactFpTextUptoCardSaid : Prop := Claim7.holds Tryd.pinned (.plain (OpenSpec.upto fnExactFpTextSpec)) fnExactFpTextUptoCard

/-- THE SECOND FORM's CARD OF 'laws.FnExactPlaceOfName'. -/
def fnExactPlaceOfNameUptoCard : Claim7 := { stood := { row := fnExactPlaceOfNameUptoRow, standIns := [], harness := (true, "db217dca3c511c58c65f155c1f174c82cdebe3bab6bdb7a5868f8c9e6efd82b2"), looks := true }, kinds := [], alts := [], laidByText := true, laidKinds := [.data, .data, .data, .data, .sentinel, .sentinel, .pinned], laidTests := true, laidLooks := .later }
def FnExactPlaceOfNameUptoCardSaid : Prop := Claim7.holds Tryd.pinned (.plain (OpenSpec.upto fnExactPlaceOfNameSpec)) fnExactPlaceOfNameUptoCard

/-- THE SECOND FORM's CARD OF 'laws.FnExactCountGroups'. -/
def fnExactCountGroupsUptoCard : Claim7 := { stood := { row := fnExactCountGroupsUptoRow, standIns := [], harness := (true, "db217dca3c511c58c65f155c1f174c82cdebe3bab6bdb7a5868f8c9e6efd82b2"), looks := true }, kinds := [], alts := [], laidByText := true, laidKinds := [.data, .data, .data, .data, .sentinel, .sentinel, .pinned], laidTests := true, laidLooks := .later }
def FnExactCountGroupsUptoCardSaid : Prop := Claim7.holds Tryd.pinned (.plain (OpenSpec.upto fnExactCountGroupsSpec)) fnExactCountGroupsUptoCard

/-- THE SECOND FORM's CARD OF 'laws.FnExactListedOrders'. -/
def fnExactListedOrdersUptoCard : Claim7 := { stood := { row := fnExactListedOrdersUptoRow, standIns := [], harness := (true, "db217dca3c511c58c65f155c1f174c82cdebe3bab6bdb7a5868f8c9e6efd82b2"), looks := true }, kinds := [], alts := [], laidByText := true, laidKinds := [.data, .data, .data, .data, .sentinel, .sentinel, .pinned], laidTests := true, laidLooks := .later }
def FnExactListedOrdersUptoCardSaid : Prop := Claim7.holds Tryd.pinned (.plain (OpenSpec.upto fnExactListedOrdersSpec)) fnExactListedOrdersUptoCard

/-- THE SECOND FORM's CARD OF 'laws.FnExactNameOfGroup'. -/
def fnExactNameOfGroupUptoCard : Claim7 := { stood := { row := fnExactNameOfGroupUptoRow, standIns := [], harness := (true, "db217dca3c511c58c65f155c1f174c82cdebe3bab6bdb7a5868f8c9e6efd82b2"), looks := true }, kinds := [], alts := [], laidByText := true, laidKinds := [.data, .data, .data, .data, .sentinel, .sentinel, .pinned], laidTests := true, laidLooks := .later }
def FnExactNameOfGroupUptoCardSaid : Prop := Claim7.holds Tryd.pinned (.plain (OpenSpec.upto fnExactNameOfGroupSpec)) fnExactNameOfGroupUptoCard
end Rows
end Go.Proofs.YteoeedlcpalgbaaDoor
