/-
  DERIVED. GIVEN WITH THE SEED: THE CARDS: each row of YtckbiimikeiejaaGreatDoorRows.lean that lists a variable, with what it lists TIED to the program's text (the seventh form; the later family's looks); each row that meets fmt, with fmt's text TOLD by the authors' own Lean function (tested against real Go, not proved from fmt's source: count such statements apart). THE CARD IS WHAT COUNTS. Prove the row's statement (the work); the ties are given (YtckbiimikeiejaaGreatDoorTie.lean); close each card by the builder's one call (the guide's Derived/Test/ToyasCard.lean, 'card_holds'). Laid BY PROGRAM, IN A SANDBOX (cutbox-door.mjs). By AI agents, Wed Nov 11 2026. No macro, syntax, notation, axiom, sorry.
-/
import Derived.Test.YtckbiimikeiejaaGreatDoorRows
import GoSem.ClaimSeven
namespace Go.Proofs.YtckbiimikeiejaaGreatDoor
namespace Rows

/-- THE TIED CARD OF 'shuntlaw12.SystemBuilds'. -/
def systemBuildsCard : Claim7 := { stood := { row := systemBuildsRow, standIns := [], harness := (true, "398308ea192071deea3e4a8fd7b9ace6a5a213316af50785a4bbdde7a624ea8f"), looks := false }, kinds := [], alts := [], laidByText := true, laidKinds := [.data, .pinned], laidTests := true, laidLooks := .later }
def SystemBuildsCardSaid : Prop := Claim7.holds Tryz.pinned (.plain (OpenSpec.ofChange systemBuildsSpec)) systemBuildsCard

/-- THE TIED CARD OF 'shuntlaw12.SystemSides'. -/
def systemSidesCard : Claim7 := { stood := { row := systemSidesRow, standIns := [], harness := (true, "398308ea192071deea3e4a8fd7b9ace6a5a213316af50785a4bbdde7a624ea8f"), looks := false }, kinds := [], alts := [], laidByText := true, laidKinds := [.data, .pinned], laidTests := true, laidLooks := .later }
def SystemSidesCardSaid : Prop := Claim7.holds Tryz.pinned (.plain (OpenSpec.ofChange systemSidesSpec)) systemSidesCard

/-- THE TIED CARD OF 'shuntlaw12.SystemSources'. -/
def systemSourcesCard : Claim7 := { stood := { row := systemSourcesRow, standIns := [], harness := (true, "398308ea192071deea3e4a8fd7b9ace6a5a213316af50785a4bbdde7a624ea8f"), looks := false }, kinds := [], alts := [], laidByText := true, laidKinds := [.data, .pinned], laidTests := true, laidLooks := .later }
def SystemSourcesCardSaid : Prop := Claim7.holds Tryz.pinned (.plain (OpenSpec.ofChange systemSourcesSpec)) systemSourcesCard

/-- THE TIED CARD OF 'shuntlaw12.SystemLeast'. -/
def systemLeastCard : Claim7 := { stood := { row := systemLeastRow, standIns := [], harness := (true, "398308ea192071deea3e4a8fd7b9ace6a5a213316af50785a4bbdde7a624ea8f"), looks := false }, kinds := [], alts := [], laidByText := true, laidKinds := [.data, .pinned], laidTests := true, laidLooks := .later }
def SystemLeastCardSaid : Prop := Claim7.holds Tryz.pinned (.plain (OpenSpec.ofChange systemLeastSpec)) systemLeastCard

/-- THE TIED CARD OF 'shuntlaw12.SystemOrder'. -/
def systemOrderCard : Claim7 := { stood := { row := systemOrderRow, standIns := [], harness := (true, "398308ea192071deea3e4a8fd7b9ace6a5a213316af50785a4bbdde7a624ea8f"), looks := false }, kinds := [], alts := [], laidByText := true, laidKinds := [.data, .pinned], laidTests := true, laidLooks := .later }
def SystemOrderCardSaid : Prop := Claim7.holds Tryz.pinned (.plain (OpenSpec.ofChange systemOrderSpec)) systemOrderCard

/-- THE TIED CARD OF 'shuntlaw12.SystemClosed'. -/
def systemClosedCard : Claim7 := { stood := { row := systemClosedRow, standIns := [], harness := (true, "398308ea192071deea3e4a8fd7b9ace6a5a213316af50785a4bbdde7a624ea8f"), looks := false }, kinds := [], alts := [], laidByText := true, laidKinds := [.data, .pinned], laidTests := true, laidLooks := .later }
def SystemClosedCardSaid : Prop := Claim7.holds Tryz.pinned (.plain (OpenSpec.ofChange systemClosedSpec)) systemClosedCard

/-- THE TIED CARD OF 'shuntlaw12.SystemAdds'. -/
def systemAddsCard : Claim7 := { stood := { row := systemAddsRow, standIns := [], harness := (true, "398308ea192071deea3e4a8fd7b9ace6a5a213316af50785a4bbdde7a624ea8f"), looks := false }, kinds := [], alts := [], laidByText := true, laidKinds := [.data, .pinned], laidTests := true, laidLooks := .later }
def SystemAddsCardSaid : Prop := Claim7.holds Tryz.pinned (.plain (OpenSpec.ofChange systemAddsSpec)) systemAddsCard

/-- THE TIED CARD OF 'shuntlaw21.AuditTells'. -/
def auditTellsCard : Claim7 := { stood := { row := auditTellsRow, standIns := [], harness := (true, "398308ea192071deea3e4a8fd7b9ace6a5a213316af50785a4bbdde7a624ea8f"), looks := false }, kinds := [], alts := [], laidByText := true, laidKinds := [.data, .pinned], laidTests := true, laidLooks := .later }
def AuditTellsCardSaid : Prop := Claim7.holds Tryz.pinned (.plain (OpenSpec.ofChange auditTellsSpec)) auditTellsCard

/-- THE TIED CARD OF 'shuntlaw21.AuditFine'. -/
def auditFineCard : Claim7 := { stood := { row := auditFineRow, standIns := [], harness := (true, "398308ea192071deea3e4a8fd7b9ace6a5a213316af50785a4bbdde7a624ea8f"), looks := false }, kinds := [], alts := [], laidByText := true, laidKinds := [.data, .pinned], laidTests := true, laidLooks := .later }
def AuditFineCardSaid : Prop := Claim7.holds Tryz.pinned (.plain (OpenSpec.ofChange auditFineSpec)) auditFineCard

/-- THE TIED CARD OF 'shuntlaw21.AuditPowers'. -/
def auditPowersCard : Claim7 := { stood := { row := auditPowersRow, standIns := [], harness := (true, "398308ea192071deea3e4a8fd7b9ace6a5a213316af50785a4bbdde7a624ea8f"), looks := false }, kinds := [], alts := [], laidByText := true, laidKinds := [.data, .pinned], laidTests := true, laidLooks := .later }
def AuditPowersCardSaid : Prop := Claim7.holds Tryz.pinned (.plain (OpenSpec.ofChange auditPowersSpec)) auditPowersCard

/-- THE SECOND FORM's CARD OF 'shuntlaw12.SystemBuilds'. -/
def systemBuildsUptoCard : Claim7 := { stood := { row := systemBuildsUptoRow, standIns := [], harness := (true, "398308ea192071deea3e4a8fd7b9ace6a5a213316af50785a4bbdde7a624ea8f"), looks := false }, kinds := [], alts := [], laidByText := true, laidKinds := [.data, .pinned], laidTests := true, laidLooks := .later }
def SystemBuildsUptoCardSaid : Prop := Claim7.holds Tryz.pinned (.plain (OpenSpec.upto systemBuildsSpec)) systemBuildsUptoCard

/-- THE SECOND FORM's CARD OF 'shuntlaw12.SystemSides'. -/
def systemSidesUptoCard : Claim7 := { stood := { row := systemSidesUptoRow, standIns := [], harness := (true, "398308ea192071deea3e4a8fd7b9ace6a5a213316af50785a4bbdde7a624ea8f"), looks := false }, kinds := [], alts := [], laidByText := true, laidKinds := [.data, .pinned], laidTests := true, laidLooks := .later }
def SystemSidesUptoCardSaid : Prop := Claim7.holds Tryz.pinned (.plain (OpenSpec.upto systemSidesSpec)) systemSidesUptoCard

/-- THE SECOND FORM's CARD OF 'shuntlaw12.SystemSources'. -/
def systemSourcesUptoCard : Claim7 := { stood := { row := systemSourcesUptoRow, standIns := [], harness := (true, "398308ea192071deea3e4a8fd7b9ace6a5a213316af50785a4bbdde7a624ea8f"), looks := false }, kinds := [], alts := [], laidByText := true, laidKinds := [.data, .pinned], laidTests := true, laidLooks := .later }
def SystemSourcesUptoCardSaid : Prop := Claim7.holds Tryz.pinned (.plain (OpenSpec.upto systemSourcesSpec)) systemSourcesUptoCard

/-- THE SECOND FORM's CARD OF 'shuntlaw12.SystemLeast'. -/
def systemLeastUptoCard : Claim7 := { stood := { row := systemLeastUptoRow, standIns := [], harness := (true, "398308ea192071deea3e4a8fd7b9ace6a5a213316af50785a4bbdde7a624ea8f"), looks := false }, kinds := [], alts := [], laidByText := true, laidKinds := [.data, .pinned], laidTests := true, laidLooks := .later }
def SystemLeastUptoCardSaid : Prop := Claim7.holds Tryz.pinned (.plain (OpenSpec.upto systemLeastSpec)) systemLeastUptoCard

/-- THE SECOND FORM's CARD OF 'shuntlaw12.SystemOrder'. -/
def systemOrderUptoCard : Claim7 := { stood := { row := systemOrderUptoRow, standIns := [], harness := (true, "398308ea192071deea3e4a8fd7b9ace6a5a213316af50785a4bbdde7a624ea8f"), looks := false }, kinds := [], alts := [], laidByText := true, laidKinds := [.data, .pinned], laidTests := true, laidLooks := .later }
def SystemOrderUptoCardSaid : Prop := Claim7.holds Tryz.pinned (.plain (OpenSpec.upto systemOrderSpec)) systemOrderUptoCard

/-- THE SECOND FORM's CARD OF 'shuntlaw12.SystemClosed'. -/
def systemClosedUptoCard : Claim7 := { stood := { row := systemClosedUptoRow, standIns := [], harness := (true, "398308ea192071deea3e4a8fd7b9ace6a5a213316af50785a4bbdde7a624ea8f"), looks := false }, kinds := [], alts := [], laidByText := true, laidKinds := [.data, .pinned], laidTests := true, laidLooks := .later }
def SystemClosedUptoCardSaid : Prop := Claim7.holds Tryz.pinned (.plain (OpenSpec.upto systemClosedSpec)) systemClosedUptoCard

/-- THE SECOND FORM's CARD OF 'shuntlaw12.SystemAdds'. -/
def systemAddsUptoCard : Claim7 := { stood := { row := systemAddsUptoRow, standIns := [], harness := (true, "398308ea192071deea3e4a8fd7b9ace6a5a213316af50785a4bbdde7a624ea8f"), looks := false }, kinds := [], alts := [], laidByText := true, laidKinds := [.data, .pinned], laidTests := true, laidLooks := .later }
def SystemAddsUptoCardSaid : Prop := Claim7.holds Tryz.pinned (.plain (OpenSpec.upto systemAddsSpec)) systemAddsUptoCard

/-- THE SECOND FORM's CARD OF 'shuntlaw21.AuditTells'. -/
def auditTellsUptoCard : Claim7 := { stood := { row := auditTellsUptoRow, standIns := [], harness := (true, "398308ea192071deea3e4a8fd7b9ace6a5a213316af50785a4bbdde7a624ea8f"), looks := false }, kinds := [], alts := [], laidByText := true, laidKinds := [.data, .pinned], laidTests := true, laidLooks := .later }
def AuditTellsUptoCardSaid : Prop := Claim7.holds Tryz.pinned (.plain (OpenSpec.upto auditTellsSpec)) auditTellsUptoCard

/-- THE SECOND FORM's CARD OF 'shuntlaw21.AuditFine'. -/
def auditFineUptoCard : Claim7 := { stood := { row := auditFineUptoRow, standIns := [], harness := (true, "398308ea192071deea3e4a8fd7b9ace6a5a213316af50785a4bbdde7a624ea8f"), looks := false }, kinds := [], alts := [], laidByText := true, laidKinds := [.data, .pinned], laidTests := true, laidLooks := .later }
def AuditFineUptoCardSaid : Prop := Claim7.holds Tryz.pinned (.plain (OpenSpec.upto auditFineSpec)) auditFineUptoCard

/-- THE SECOND FORM's CARD OF 'shuntlaw21.AuditPowers'. -/
def auditPowersUptoCard : Claim7 := { stood := { row := auditPowersUptoRow, standIns := [], harness := (true, "398308ea192071deea3e4a8fd7b9ace6a5a213316af50785a4bbdde7a624ea8f"), looks := false }, kinds := [], alts := [], laidByText := true, laidKinds := [.data, .pinned], laidTests := true, laidLooks := .later }
def AuditPowersUptoCardSaid : Prop := Claim7.holds Tryz.pinned (.plain (OpenSpec.upto auditPowersSpec)) auditPowersUptoCard
end Rows
end Go.Proofs.YtckbiimikeiejaaGreatDoor
