/-
  DERIVED. GIVEN WITH THE SEED: THE CARDS: each row of YtmfmfpmkgmkgiaaGreatDoorRows.lean that lists a variable, with what it lists TIED to the program's text (the seventh form; the later family's looks); each row that meets fmt, with fmt's text TOLD by the authors' own Lean function (tested against real Go, not proved from fmt's source: count such statements apart). THE CARD IS WHAT COUNTS. Prove the row's statement (the work); the ties are given (YtmfmfpmkgmkgiaaGreatDoorTie.lean); close each card by the builder's one call (the guide's Derived/Test/ToyasCard.lean, 'card_holds'). Laid BY PROGRAM, IN A SANDBOX (cutbox-door.mjs). By AI agents, Wed Nov 11 2026. No macro, syntax, notation, axiom, sorry.
-/
import Derived.Test.YtmfmfpmkgmkgiaaGreatDoorRows
import GoSem.ClaimSeven
namespace Go.Proofs.YtmfmfpmkgmkgiaaGreatDoor
namespace Rows

/-- THE TIED CARD OF 'shuntlaw12.SystemBuilds'. -/
def systemBuildsCard : Claim7 := { stood := { row := systemBuildsRow, standIns := [], harness := (true, "2c21e30efb9022114c81efc4c703a66e12d922ead3b3909da59a1c000af28ec6"), looks := false }, kinds := [], alts := [], laidByText := true, laidKinds := [.data, .pinned], laidTests := true, laidLooks := .later }
def SystemBuildsCardSaid : Prop := Claim7.holds Tryz.pinned (.plain (OpenSpec.ofChange systemBuildsSpec)) systemBuildsCard

/-- THE TIED CARD OF 'shuntlaw12.SystemSides'. -/
def systemSidesCard : Claim7 := { stood := { row := systemSidesRow, standIns := [], harness := (true, "2c21e30efb9022114c81efc4c703a66e12d922ead3b3909da59a1c000af28ec6"), looks := false }, kinds := [], alts := [], laidByText := true, laidKinds := [.data, .pinned], laidTests := true, laidLooks := .later }
def SystemSidesCardSaid : Prop := Claim7.holds Tryz.pinned (.plain (OpenSpec.ofChange systemSidesSpec)) systemSidesCard

/-- THE TIED CARD OF 'shuntlaw12.SystemSources'. -/
def systemSourcesCard : Claim7 := { stood := { row := systemSourcesRow, standIns := [], harness := (true, "2c21e30efb9022114c81efc4c703a66e12d922ead3b3909da59a1c000af28ec6"), looks := false }, kinds := [], alts := [], laidByText := true, laidKinds := [.data, .pinned], laidTests := true, laidLooks := .later }
def SystemSourcesCardSaid : Prop := Claim7.holds Tryz.pinned (.plain (OpenSpec.ofChange systemSourcesSpec)) systemSourcesCard

/-- THE TIED CARD OF 'shuntlaw12.SystemLeast'. -/
def systemLeastCard : Claim7 := { stood := { row := systemLeastRow, standIns := [], harness := (true, "2c21e30efb9022114c81efc4c703a66e12d922ead3b3909da59a1c000af28ec6"), looks := false }, kinds := [], alts := [], laidByText := true, laidKinds := [.data, .pinned], laidTests := true, laidLooks := .later }
def SystemLeastCardSaid : Prop := Claim7.holds Tryz.pinned (.plain (OpenSpec.ofChange systemLeastSpec)) systemLeastCard

/-- THE TIED CARD OF 'shuntlaw12.SystemOrder'. -/
def systemOrderCard : Claim7 := { stood := { row := systemOrderRow, standIns := [], harness := (true, "2c21e30efb9022114c81efc4c703a66e12d922ead3b3909da59a1c000af28ec6"), looks := false }, kinds := [], alts := [], laidByText := true, laidKinds := [.data, .pinned], laidTests := true, laidLooks := .later }
def SystemOrderCardSaid : Prop := Claim7.holds Tryz.pinned (.plain (OpenSpec.ofChange systemOrderSpec)) systemOrderCard

/-- THE TIED CARD OF 'shuntlaw12.SystemClosed'. -/
def systemClosedCard : Claim7 := { stood := { row := systemClosedRow, standIns := [], harness := (true, "2c21e30efb9022114c81efc4c703a66e12d922ead3b3909da59a1c000af28ec6"), looks := false }, kinds := [], alts := [], laidByText := true, laidKinds := [.data, .pinned], laidTests := true, laidLooks := .later }
def SystemClosedCardSaid : Prop := Claim7.holds Tryz.pinned (.plain (OpenSpec.ofChange systemClosedSpec)) systemClosedCard

/-- THE TIED CARD OF 'shuntlaw12.SystemAdds'. -/
def systemAddsCard : Claim7 := { stood := { row := systemAddsRow, standIns := [], harness := (true, "2c21e30efb9022114c81efc4c703a66e12d922ead3b3909da59a1c000af28ec6"), looks := false }, kinds := [], alts := [], laidByText := true, laidKinds := [.data, .pinned], laidTests := true, laidLooks := .later }
def SystemAddsCardSaid : Prop := Claim7.holds Tryz.pinned (.plain (OpenSpec.ofChange systemAddsSpec)) systemAddsCard

/-- THE SECOND FORM's CARD OF 'shuntlaw12.SystemBuilds'. -/
def systemBuildsUptoCard : Claim7 := { stood := { row := systemBuildsUptoRow, standIns := [], harness := (true, "2c21e30efb9022114c81efc4c703a66e12d922ead3b3909da59a1c000af28ec6"), looks := false }, kinds := [], alts := [], laidByText := true, laidKinds := [.data, .pinned], laidTests := true, laidLooks := .later }
def SystemBuildsUptoCardSaid : Prop := Claim7.holds Tryz.pinned (.plain (OpenSpec.upto systemBuildsSpec)) systemBuildsUptoCard

/-- THE SECOND FORM's CARD OF 'shuntlaw12.SystemSides'. -/
def systemSidesUptoCard : Claim7 := { stood := { row := systemSidesUptoRow, standIns := [], harness := (true, "2c21e30efb9022114c81efc4c703a66e12d922ead3b3909da59a1c000af28ec6"), looks := false }, kinds := [], alts := [], laidByText := true, laidKinds := [.data, .pinned], laidTests := true, laidLooks := .later }
def SystemSidesUptoCardSaid : Prop := Claim7.holds Tryz.pinned (.plain (OpenSpec.upto systemSidesSpec)) systemSidesUptoCard

/-- THE SECOND FORM's CARD OF 'shuntlaw12.SystemSources'. -/
def systemSourcesUptoCard : Claim7 := { stood := { row := systemSourcesUptoRow, standIns := [], harness := (true, "2c21e30efb9022114c81efc4c703a66e12d922ead3b3909da59a1c000af28ec6"), looks := false }, kinds := [], alts := [], laidByText := true, laidKinds := [.data, .pinned], laidTests := true, laidLooks := .later }
def SystemSourcesUptoCardSaid : Prop := Claim7.holds Tryz.pinned (.plain (OpenSpec.upto systemSourcesSpec)) systemSourcesUptoCard

/-- THE SECOND FORM's CARD OF 'shuntlaw12.SystemLeast'. -/
def systemLeastUptoCard : Claim7 := { stood := { row := systemLeastUptoRow, standIns := [], harness := (true, "2c21e30efb9022114c81efc4c703a66e12d922ead3b3909da59a1c000af28ec6"), looks := false }, kinds := [], alts := [], laidByText := true, laidKinds := [.data, .pinned], laidTests := true, laidLooks := .later }
def SystemLeastUptoCardSaid : Prop := Claim7.holds Tryz.pinned (.plain (OpenSpec.upto systemLeastSpec)) systemLeastUptoCard

/-- THE SECOND FORM's CARD OF 'shuntlaw12.SystemOrder'. -/
def systemOrderUptoCard : Claim7 := { stood := { row := systemOrderUptoRow, standIns := [], harness := (true, "2c21e30efb9022114c81efc4c703a66e12d922ead3b3909da59a1c000af28ec6"), looks := false }, kinds := [], alts := [], laidByText := true, laidKinds := [.data, .pinned], laidTests := true, laidLooks := .later }
def SystemOrderUptoCardSaid : Prop := Claim7.holds Tryz.pinned (.plain (OpenSpec.upto systemOrderSpec)) systemOrderUptoCard

/-- THE SECOND FORM's CARD OF 'shuntlaw12.SystemClosed'. -/
def systemClosedUptoCard : Claim7 := { stood := { row := systemClosedUptoRow, standIns := [], harness := (true, "2c21e30efb9022114c81efc4c703a66e12d922ead3b3909da59a1c000af28ec6"), looks := false }, kinds := [], alts := [], laidByText := true, laidKinds := [.data, .pinned], laidTests := true, laidLooks := .later }
def SystemClosedUptoCardSaid : Prop := Claim7.holds Tryz.pinned (.plain (OpenSpec.upto systemClosedSpec)) systemClosedUptoCard

/-- THE SECOND FORM's CARD OF 'shuntlaw12.SystemAdds'. -/
def systemAddsUptoCard : Claim7 := { stood := { row := systemAddsUptoRow, standIns := [], harness := (true, "2c21e30efb9022114c81efc4c703a66e12d922ead3b3909da59a1c000af28ec6"), looks := false }, kinds := [], alts := [], laidByText := true, laidKinds := [.data, .pinned], laidTests := true, laidLooks := .later }
def SystemAddsUptoCardSaid : Prop := Claim7.holds Tryz.pinned (.plain (OpenSpec.upto systemAddsSpec)) systemAddsUptoCard
end Rows
end Go.Proofs.YtmfmfpmkgmkgiaaGreatDoor
