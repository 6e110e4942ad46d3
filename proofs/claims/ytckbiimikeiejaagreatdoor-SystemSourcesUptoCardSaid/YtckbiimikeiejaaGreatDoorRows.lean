/-
  NARROWER THAN 'FOR EVERY INPUT', by the rows' own cells (each row's printed sentence says how): SystemBuilds: laid · SystemSides: laid · SystemSources: laid · SystemLeast: laid · SystemOrder: laid · SystemClosed: laid · SystemAdds: laid · AuditTells: laid · AuditFine: laid · AuditPowers: laid.
  DERIVED. THE GIVEN ROWS OF THIS SEAT. 10 by the template 'for every input the law returns true; each argument reads behind the call as it read before'; 0 by the template 'total and deterministic' (their statements: YtckbiimikeiejaaGreatDoorTotals.lean).
  GIVEN WITH THE SEED: the statements are not yours to turn. If you find one false, say at which input.
  Laid BY PROGRAM, IN A SANDBOX (cutbox-rows.mjs): the forced cells as the released guide's own fill.sh prints them over the translation b549f97632569a4f… (all of the seat's roots in one cut). By AI agents, Wed Nov 11 2026. No macro, syntax, notation, axiom, sorry.
-/
import Derived.Test.YtckbiimikeiejaaGreatDoorChecked
import GoSem.PinnedTables
import GoSem.Claim
import GoSem.ClaimJoined
import GoSem.ClaimMapViews
import Derived.JoinedTies
import Derived.KernelRfl
namespace Go.Proofs.YtckbiimikeiejaaGreatDoor
/- THE CELL 'sum', in the pinned program and in every row, IS THE sha256 OF THE DUMP (.gsa) THAT YtckbiimikeiejaaGreatDoorProg.lean LOADS. Nothing in Lean hashes anything: it is a label: what it is worth is what the hold of that sum in a sandbox is worth. -/
noncomputable def Tryz.pinned : Pinned := { name := "ytckbiimikeiejaagreatdoor", sum := "b549f97632569a4f8ed91e3785dca8df1b06a918aa06b21bcbccc4ea94fbf80b", checked := Tryz.checked }
namespace Rows
def none {H : Type} : Left H := { results := [], args := [] }

/- WHAT THE LISTED PACKAGE-LEVEL VARIABLES READ AS WHEN THE CALL BEGINS. Each datum BY PROGRAM (the guide's laid-datum.mjs) off the statement by which the dump's own 'gosem.cut.vars' lays the variable. In a bare row this is a premise. The card (YtckbiimikeiejaaGreatDoorCards.lean) ties it to the program's text. -/
def laid_unicode_utf8_acceptRanges {H : Type} : DataW H := .agg [.agg [.lit (.int .u8 128), .lit (.int .u8 191)], .agg [.lit (.int .u8 160), .lit (.int .u8 191)], .agg [.lit (.int .u8 128), .lit (.int .u8 159)], .agg [.lit (.int .u8 144), .lit (.int .u8 191)], .agg [.lit (.int .u8 128), .lit (.int .u8 143)], .agg [.lit (.int .u8 0), .lit (.int .u8 0)], .agg [.lit (.int .u8 0), .lit (.int .u8 0)], .agg [.lit (.int .u8 0), .lit (.int .u8 0)], .agg [.lit (.int .u8 0), .lit (.int .u8 0)], .agg [.lit (.int .u8 0), .lit (.int .u8 0)], .agg [.lit (.int .u8 0), .lit (.int .u8 0)], .agg [.lit (.int .u8 0), .lit (.int .u8 0)], .agg [.lit (.int .u8 0), .lit (.int .u8 0)], .agg [.lit (.int .u8 0), .lit (.int .u8 0)], .agg [.lit (.int .u8 0), .lit (.int .u8 0)], .agg [.lit (.int .u8 0), .lit (.int .u8 0)]]
/-- One of Go's own tables, pinned by name: the form's constant. -/
def laid_unicode_utf8_first : DataW Unit := Go.Pinned.utf8First

/-- 'shuntlaw12.SystemBuilds': WHATEVER THE INPUT: true; the input reads as it did. -/
def systemBuildsSpec : ChangeSpec := { name := "systemBuilds", fn := fun _ => fun
  | [d1, d2] => { results := [.lit (.bool true)], args := [d1, d2] }
  | _ => none }
def systemBuildsRow : OpenClaim := { program := "ytckbiimikeiejaagreatdoor", sum := "b549f97632569a4f8ed91e3785dca8df1b06a918aa06b21bcbccc4ea94fbf80b", func := "shunt/shuntlaw12.SystemBuilds", spec := "systemBuilds", inPlace := ["internal/bytealg.CountString", "internal/bytealg.IndexByteString", "internal/bytealg.IndexString"], unfollowed := true, recurses := true, named := ["unicode/utf8.first", "unicode/utf8.acceptRanges", "internal/bytealg.MaxLen"], apart := false, laid := [("unicode/utf8.acceptRanges", laid_unicode_utf8_acceptRanges), ("unicode/utf8.first", laid_unicode_utf8_first)] }
def SystemBuildsSaid : Prop := systemBuildsRow.holds Tryz.pinned (OpenSpec.ofChange systemBuildsSpec)

/-- ITS FALSE NEIGHBOUR: 'it returns false'. Refute it at one input. -/
def systemBuildsWrong : ChangeSpec := { name := "systemBuilds", fn := fun _ => fun
  | [d1, d2] => { results := [.lit (.bool false)], args := [d1, d2] }
  | _ => none }
def SystemBuildsWrongFalsely : Prop := systemBuildsRow.holds Tryz.pinned (OpenSpec.ofChange systemBuildsWrong)

/-- 'shuntlaw12.SystemSides': WHATEVER THE INPUT: true; the input reads as it did. -/
def systemSidesSpec : ChangeSpec := { name := "systemSides", fn := fun _ => fun
  | [d1, d2, d3] => { results := [.lit (.bool true)], args := [d1, d2, d3] }
  | _ => none }
def systemSidesRow : OpenClaim := { program := "ytckbiimikeiejaagreatdoor", sum := "b549f97632569a4f8ed91e3785dca8df1b06a918aa06b21bcbccc4ea94fbf80b", func := "shunt/shuntlaw12.SystemSides", spec := "systemSides", inPlace := ["internal/bytealg.CountString", "internal/bytealg.IndexByteString", "internal/bytealg.IndexString"], unfollowed := true, recurses := true, named := ["unicode/utf8.first", "unicode/utf8.acceptRanges", "internal/bytealg.MaxLen"], apart := false, laid := [("unicode/utf8.acceptRanges", laid_unicode_utf8_acceptRanges), ("unicode/utf8.first", laid_unicode_utf8_first)] }
def SystemSidesSaid : Prop := systemSidesRow.holds Tryz.pinned (OpenSpec.ofChange systemSidesSpec)

/-- ITS FALSE NEIGHBOUR: 'it returns false'. Refute it at one input. -/
def systemSidesWrong : ChangeSpec := { name := "systemSides", fn := fun _ => fun
  | [d1, d2, d3] => { results := [.lit (.bool false)], args := [d1, d2, d3] }
  | _ => none }
def SystemSidesWrongFalsely : Prop := systemSidesRow.holds Tryz.pinned (OpenSpec.ofChange systemSidesWrong)

/-- 'shuntlaw12.SystemSources': WHATEVER THE INPUT: true; the input reads as it did. -/
def systemSourcesSpec : ChangeSpec := { name := "systemSources", fn := fun _ => fun
  | [d1, d2] => { results := [.lit (.bool true)], args := [d1, d2] }
  | _ => none }
def systemSourcesRow : OpenClaim := { program := "ytckbiimikeiejaagreatdoor", sum := "b549f97632569a4f8ed91e3785dca8df1b06a918aa06b21bcbccc4ea94fbf80b", func := "shunt/shuntlaw12.SystemSources", spec := "systemSources", inPlace := ["internal/bytealg.CountString", "internal/bytealg.IndexByteString", "internal/bytealg.IndexString"], unfollowed := true, recurses := true, named := ["unicode/utf8.first", "unicode/utf8.acceptRanges", "internal/bytealg.MaxLen"], apart := false, laid := [("unicode/utf8.acceptRanges", laid_unicode_utf8_acceptRanges), ("unicode/utf8.first", laid_unicode_utf8_first)] }
def SystemSourcesSaid : Prop := systemSourcesRow.holds Tryz.pinned (OpenSpec.ofChange systemSourcesSpec)

/-- ITS FALSE NEIGHBOUR: 'it returns false'. Refute it at one input. -/
def systemSourcesWrong : ChangeSpec := { name := "systemSources", fn := fun _ => fun
  | [d1, d2] => { results := [.lit (.bool false)], args := [d1, d2] }
  | _ => none }
def SystemSourcesWrongFalsely : Prop := systemSourcesRow.holds Tryz.pinned (OpenSpec.ofChange systemSourcesWrong)

/-- 'shuntlaw12.SystemLeast': WHATEVER THE INPUT: true; the input reads as it did. -/
def systemLeastSpec : ChangeSpec := { name := "systemLeast", fn := fun _ => fun
  | [d1, d2] => { results := [.lit (.bool true)], args := [d1, d2] }
  | _ => none }
def systemLeastRow : OpenClaim := { program := "ytckbiimikeiejaagreatdoor", sum := "b549f97632569a4f8ed91e3785dca8df1b06a918aa06b21bcbccc4ea94fbf80b", func := "shunt/shuntlaw12.SystemLeast", spec := "systemLeast", inPlace := ["internal/bytealg.CountString", "internal/bytealg.IndexByteString", "internal/bytealg.IndexString"], unfollowed := true, recurses := true, named := ["unicode/utf8.first", "unicode/utf8.acceptRanges", "internal/bytealg.MaxLen"], apart := false, laid := [("unicode/utf8.acceptRanges", laid_unicode_utf8_acceptRanges), ("unicode/utf8.first", laid_unicode_utf8_first)] }
def SystemLeastSaid : Prop := systemLeastRow.holds Tryz.pinned (OpenSpec.ofChange systemLeastSpec)

/-- ITS FALSE NEIGHBOUR: 'it returns false'. Refute it at one input. -/
def systemLeastWrong : ChangeSpec := { name := "systemLeast", fn := fun _ => fun
  | [d1, d2] => { results := [.lit (.bool false)], args := [d1, d2] }
  | _ => none }
def SystemLeastWrongFalsely : Prop := systemLeastRow.holds Tryz.pinned (OpenSpec.ofChange systemLeastWrong)

/-- 'shuntlaw12.SystemOrder': WHATEVER THE INPUT: true; the input reads as it did. -/
def systemOrderSpec : ChangeSpec := { name := "systemOrder", fn := fun _ => fun
  | [d1, d2, d3] => { results := [.lit (.bool true)], args := [d1, d2, d3] }
  | _ => none }
def systemOrderRow : OpenClaim := { program := "ytckbiimikeiejaagreatdoor", sum := "b549f97632569a4f8ed91e3785dca8df1b06a918aa06b21bcbccc4ea94fbf80b", func := "shunt/shuntlaw12.SystemOrder", spec := "systemOrder", inPlace := ["internal/bytealg.CountString", "internal/bytealg.IndexByteString", "internal/bytealg.IndexString"], unfollowed := true, recurses := true, named := ["unicode/utf8.first", "unicode/utf8.acceptRanges", "internal/bytealg.MaxLen"], apart := false, laid := [("unicode/utf8.acceptRanges", laid_unicode_utf8_acceptRanges), ("unicode/utf8.first", laid_unicode_utf8_first)] }
def SystemOrderSaid : Prop := systemOrderRow.holds Tryz.pinned (OpenSpec.ofChange systemOrderSpec)

/-- ITS FALSE NEIGHBOUR: 'it returns false'. Refute it at one input. -/
def systemOrderWrong : ChangeSpec := { name := "systemOrder", fn := fun _ => fun
  | [d1, d2, d3] => { results := [.lit (.bool false)], args := [d1, d2, d3] }
  | _ => none }
def SystemOrderWrongFalsely : Prop := systemOrderRow.holds Tryz.pinned (OpenSpec.ofChange systemOrderWrong)

/-- 'shuntlaw12.SystemClosed': WHATEVER THE INPUT: true; the input reads as it did. -/
def systemClosedSpec : ChangeSpec := { name := "systemClosed", fn := fun _ => fun
  | [d1, d2] => { results := [.lit (.bool true)], args := [d1, d2] }
  | _ => none }
def systemClosedRow : OpenClaim := { program := "ytckbiimikeiejaagreatdoor", sum := "b549f97632569a4f8ed91e3785dca8df1b06a918aa06b21bcbccc4ea94fbf80b", func := "shunt/shuntlaw12.SystemClosed", spec := "systemClosed", inPlace := ["internal/bytealg.CountString", "internal/bytealg.IndexByteString", "internal/bytealg.IndexString"], unfollowed := true, recurses := true, named := ["unicode/utf8.first", "unicode/utf8.acceptRanges", "internal/bytealg.MaxLen"], apart := false, laid := [("unicode/utf8.acceptRanges", laid_unicode_utf8_acceptRanges), ("unicode/utf8.first", laid_unicode_utf8_first)] }
def SystemClosedSaid : Prop := systemClosedRow.holds Tryz.pinned (OpenSpec.ofChange systemClosedSpec)

/-- ITS FALSE NEIGHBOUR: 'it returns false'. Refute it at one input. -/
def systemClosedWrong : ChangeSpec := { name := "systemClosed", fn := fun _ => fun
  | [d1, d2] => { results := [.lit (.bool false)], args := [d1, d2] }
  | _ => none }
def SystemClosedWrongFalsely : Prop := systemClosedRow.holds Tryz.pinned (OpenSpec.ofChange systemClosedWrong)

/-- 'shuntlaw12.SystemAdds': WHATEVER THE INPUT: true; the input reads as it did. -/
def systemAddsSpec : ChangeSpec := { name := "systemAdds", fn := fun _ => fun
  | [d1, d2] => { results := [.lit (.bool true)], args := [d1, d2] }
  | _ => none }
def systemAddsRow : OpenClaim := { program := "ytckbiimikeiejaagreatdoor", sum := "b549f97632569a4f8ed91e3785dca8df1b06a918aa06b21bcbccc4ea94fbf80b", func := "shunt/shuntlaw12.SystemAdds", spec := "systemAdds", inPlace := ["internal/bytealg.CountString", "internal/bytealg.IndexByteString", "internal/bytealg.IndexString"], unfollowed := true, recurses := true, named := ["unicode/utf8.first", "unicode/utf8.acceptRanges", "internal/bytealg.MaxLen"], apart := false, laid := [("unicode/utf8.acceptRanges", laid_unicode_utf8_acceptRanges), ("unicode/utf8.first", laid_unicode_utf8_first)] }
def SystemAddsSaid : Prop := systemAddsRow.holds Tryz.pinned (OpenSpec.ofChange systemAddsSpec)

/-- ITS FALSE NEIGHBOUR: 'it returns false'. Refute it at one input. -/
def systemAddsWrong : ChangeSpec := { name := "systemAdds", fn := fun _ => fun
  | [d1, d2] => { results := [.lit (.bool false)], args := [d1, d2] }
  | _ => none }
def SystemAddsWrongFalsely : Prop := systemAddsRow.holds Tryz.pinned (OpenSpec.ofChange systemAddsWrong)

/-- 'shuntlaw21.AuditTells': WHATEVER THE INPUT: true; the input reads as it did. -/
def auditTellsSpec : ChangeSpec := { name := "auditTells", fn := fun _ => fun
  | [d1, d2] => { results := [.lit (.bool true)], args := [d1, d2] }
  | _ => none }
def auditTellsRow : OpenClaim := { program := "ytckbiimikeiejaagreatdoor", sum := "b549f97632569a4f8ed91e3785dca8df1b06a918aa06b21bcbccc4ea94fbf80b", func := "shunt/shuntlaw21.AuditTells", spec := "auditTells", inPlace := ["internal/bytealg.CountString", "internal/bytealg.IndexByteString", "internal/bytealg.IndexString"], unfollowed := true, recurses := true, named := ["unicode/utf8.first", "unicode/utf8.acceptRanges", "internal/bytealg.MaxLen"], apart := false, laid := [("unicode/utf8.acceptRanges", laid_unicode_utf8_acceptRanges), ("unicode/utf8.first", laid_unicode_utf8_first)] }
def AuditTellsSaid : Prop := auditTellsRow.holds Tryz.pinned (OpenSpec.ofChange auditTellsSpec)

/-- ITS FALSE NEIGHBOUR: 'it returns false'. Refute it at one input. -/
def auditTellsWrong : ChangeSpec := { name := "auditTells", fn := fun _ => fun
  | [d1, d2] => { results := [.lit (.bool false)], args := [d1, d2] }
  | _ => none }
def AuditTellsWrongFalsely : Prop := auditTellsRow.holds Tryz.pinned (OpenSpec.ofChange auditTellsWrong)

/-- 'shuntlaw21.AuditFine': WHATEVER THE INPUT: true; the input reads as it did. -/
def auditFineSpec : ChangeSpec := { name := "auditFine", fn := fun _ => fun
  | [d] => { results := [.lit (.bool true)], args := [d] }
  | _ => none }
def auditFineRow : OpenClaim := { program := "ytckbiimikeiejaagreatdoor", sum := "b549f97632569a4f8ed91e3785dca8df1b06a918aa06b21bcbccc4ea94fbf80b", func := "shunt/shuntlaw21.AuditFine", spec := "auditFine", inPlace := ["internal/bytealg.CountString", "internal/bytealg.IndexByteString", "internal/bytealg.IndexString"], unfollowed := true, recurses := true, named := ["unicode/utf8.first", "unicode/utf8.acceptRanges", "internal/bytealg.MaxLen"], apart := false, laid := [("unicode/utf8.acceptRanges", laid_unicode_utf8_acceptRanges), ("unicode/utf8.first", laid_unicode_utf8_first)] }
def AuditFineSaid : Prop := auditFineRow.holds Tryz.pinned (OpenSpec.ofChange auditFineSpec)

/-- ITS FALSE NEIGHBOUR: 'it returns false'. Refute it at one input. -/
def auditFineWrong : ChangeSpec := { name := "auditFine", fn := fun _ => fun
  | [d] => { results := [.lit (.bool false)], args := [d] }
  | _ => none }
def AuditFineWrongFalsely : Prop := auditFineRow.holds Tryz.pinned (OpenSpec.ofChange auditFineWrong)

/-- 'shuntlaw21.AuditPowers': WHATEVER THE INPUT: true; the input reads as it did. -/
def auditPowersSpec : ChangeSpec := { name := "auditPowers", fn := fun _ => fun
  | [d1, d2] => { results := [.lit (.bool true)], args := [d1, d2] }
  | _ => none }
def auditPowersRow : OpenClaim := { program := "ytckbiimikeiejaagreatdoor", sum := "b549f97632569a4f8ed91e3785dca8df1b06a918aa06b21bcbccc4ea94fbf80b", func := "shunt/shuntlaw21.AuditPowers", spec := "auditPowers", inPlace := ["internal/bytealg.CountString", "internal/bytealg.IndexByteString", "internal/bytealg.IndexString"], unfollowed := true, recurses := true, named := ["unicode/utf8.first", "unicode/utf8.acceptRanges", "internal/bytealg.MaxLen"], apart := false, laid := [("unicode/utf8.acceptRanges", laid_unicode_utf8_acceptRanges), ("unicode/utf8.first", laid_unicode_utf8_first)] }
def AuditPowersSaid : Prop := auditPowersRow.holds Tryz.pinned (OpenSpec.ofChange auditPowersSpec)

/-- ITS FALSE NEIGHBOUR: 'it returns false'. Refute it at one input. -/
def auditPowersWrong : ChangeSpec := { name := "auditPowers", fn := fun _ => fun
  | [d1, d2] => { results := [.lit (.bool false)], args := [d1, d2] }
  | _ => none }
def AuditPowersWrongFalsely : Prop := auditPowersRow.holds Tryz.pinned (OpenSpec.ofChange auditPowersWrong)

/- THE SECOND FORM. 'bulk': how many values and letters a reading holds, each counted each time it is reached (what is shared counts as often as it is met; a slice's spare places count too). A statement '..UptoSaid' is the law's where the arguments, and the package variables that the reading takes, are together of bulk at most 1048576: NARROWER than '..Said'. Prove '..Said' where nothing that the law and all that it calls make is longer than what came in: it says more and counts as full. Else prove '..UptoSaid'. A law counts once. -/
mutual
def uptoBulk {H : Type} : DataW H → Nat
  | .lit (.string bytes) => bytes.length + 1
  | .lit _ => 1
  | .nil => 1
  | .ptr d => uptoBulk d + 1
  | .slice elems spare => uptoBulkAll elems + uptoBulkAll spare + 1
  | .agg parts => uptoBulkAll parts + 1
  | .iface _ d => uptoBulk d + 1
  | .map entries => uptoBulkEntries entries + 1
  | .held _ => 1
def uptoBulkAll {H : Type} : List (DataW H) → Nat
  | [] => 0
  | d :: r => uptoBulk d + uptoBulkAll r
def uptoBulkEntries {H : Type} : List (Lit × DataW H) → Nat
  | [] => 0
  | x :: r => uptoBulkEntry x + uptoBulkEntries r
def uptoBulkEntry {H : Type} : Lit × DataW H → Nat
  | (.string bytes, d) => bytes.length + uptoBulk d + 1
  | (_, d) => uptoBulk d + 1
 end
def uptoSmall : (H : Type) → List (DataW H) → Bool := fun _ ds => decide (uptoBulkAll ds ≤ 1048576)
def OpenSpec.upto (s : _root_.Go.ChangeSpec) : _root_.Go.OpenSpec := { _root_.Go.OpenSpec.ofChange s with cond := some uptoSmall }

/-- 'shuntlaw12.SystemBuilds', WHERE WHAT IT READS IS OF BULK AT MOST 1048576: true; the input reads as it did. -/
def systemBuildsUptoRow : OpenClaim := { program := "ytckbiimikeiejaagreatdoor", sum := "b549f97632569a4f8ed91e3785dca8df1b06a918aa06b21bcbccc4ea94fbf80b", func := "shunt/shuntlaw12.SystemBuilds", spec := "systemBuilds", inPlace := ["internal/bytealg.CountString", "internal/bytealg.IndexByteString", "internal/bytealg.IndexString"], unfollowed := true, recurses := true, named := ["unicode/utf8.first", "unicode/utf8.acceptRanges", "internal/bytealg.MaxLen"], apart := false, laid := [("unicode/utf8.acceptRanges", laid_unicode_utf8_acceptRanges), ("unicode/utf8.first", laid_unicode_utf8_first)], narrowed := true }
def SystemBuildsUptoSaid : Prop := systemBuildsUptoRow.holds Tryz.pinned (OpenSpec.upto systemBuildsSpec)

/-- 'shuntlaw12.SystemSides', WHERE WHAT IT READS IS OF BULK AT MOST 1048576: true; the input reads as it did. -/
def systemSidesUptoRow : OpenClaim := { program := "ytckbiimikeiejaagreatdoor", sum := "b549f97632569a4f8ed91e3785dca8df1b06a918aa06b21bcbccc4ea94fbf80b", func := "shunt/shuntlaw12.SystemSides", spec := "systemSides", inPlace := ["internal/bytealg.CountString", "internal/bytealg.IndexByteString", "internal/bytealg.IndexString"], unfollowed := true, recurses := true, named := ["unicode/utf8.first", "unicode/utf8.acceptRanges", "internal/bytealg.MaxLen"], apart := false, laid := [("unicode/utf8.acceptRanges", laid_unicode_utf8_acceptRanges), ("unicode/utf8.first", laid_unicode_utf8_first)], narrowed := true }
def SystemSidesUptoSaid : Prop := systemSidesUptoRow.holds Tryz.pinned (OpenSpec.upto systemSidesSpec)

/-- 'shuntlaw12.SystemSources', WHERE WHAT IT READS IS OF BULK AT MOST 1048576: true; the input reads as it did. -/
def systemSourcesUptoRow : OpenClaim := { program := "ytckbiimikeiejaagreatdoor", sum := "b549f97632569a4f8ed91e3785dca8df1b06a918aa06b21bcbccc4ea94fbf80b", func := "shunt/shuntlaw12.SystemSources", spec := "systemSources", inPlace := ["internal/bytealg.CountString", "internal/bytealg.IndexByteString", "internal/bytealg.IndexString"], unfollowed := true, recurses := true, named := ["unicode/utf8.first", "unicode/utf8.acceptRanges", "internal/bytealg.MaxLen"], apart := false, laid := [("unicode/utf8.acceptRanges", laid_unicode_utf8_acceptRanges), ("unicode/utf8.first", laid_unicode_utf8_first)], narrowed := true }
def SystemSourcesUptoSaid : Prop := systemSourcesUptoRow.holds Tryz.pinned (OpenSpec.upto systemSourcesSpec)

/-- 'shuntlaw12.SystemLeast', WHERE WHAT IT READS IS OF BULK AT MOST 1048576: true; the input reads as it did. -/
def systemLeastUptoRow : OpenClaim := { program := "ytckbiimikeiejaagreatdoor", sum := "b549f97632569a4f8ed91e3785dca8df1b06a918aa06b21bcbccc4ea94fbf80b", func := "shunt/shuntlaw12.SystemLeast", spec := "systemLeast", inPlace := ["internal/bytealg.CountString", "internal/bytealg.IndexByteString", "internal/bytealg.IndexString"], unfollowed := true, recurses := true, named := ["unicode/utf8.first", "unicode/utf8.acceptRanges", "internal/bytealg.MaxLen"], apart := false, laid := [("unicode/utf8.acceptRanges", laid_unicode_utf8_acceptRanges), ("unicode/utf8.first", laid_unicode_utf8_first)], narrowed := true }
def SystemLeastUptoSaid : Prop := systemLeastUptoRow.holds Tryz.pinned (OpenSpec.upto systemLeastSpec)

/-- 'shuntlaw12.SystemOrder', WHERE WHAT IT READS IS OF BULK AT MOST 1048576: true; the input reads as it did. -/
def systemOrderUptoRow : OpenClaim := { program := "ytckbiimikeiejaagreatdoor", sum := "b549f97632569a4f8ed91e3785dca8df1b06a918aa06b21bcbccc4ea94fbf80b", func := "shunt/shuntlaw12.SystemOrder", spec := "systemOrder", inPlace := ["internal/bytealg.CountString", "internal/bytealg.IndexByteString", "internal/bytealg.IndexString"], unfollowed := true, recurses := true, named := ["unicode/utf8.first", "unicode/utf8.acceptRanges", "internal/bytealg.MaxLen"], apart := false, laid := [("unicode/utf8.acceptRanges", laid_unicode_utf8_acceptRanges), ("unicode/utf8.first", laid_unicode_utf8_first)], narrowed := true }
def SystemOrderUptoSaid : Prop := systemOrderUptoRow.holds Tryz.pinned (OpenSpec.upto systemOrderSpec)

/-- 'shuntlaw12.SystemClosed', WHERE WHAT IT READS IS OF BULK AT MOST 1048576: true; the input reads as it did. -/
def systemClosedUptoRow : OpenClaim := { program := "ytckbiimikeiejaagreatdoor", sum := "b549f97632569a4f8ed91e3785dca8df1b06a918aa06b21bcbccc4ea94fbf80b", func := "shunt/shuntlaw12.SystemClosed", spec := "systemClosed", inPlace := ["internal/bytealg.CountString", "internal/bytealg.IndexByteString", "internal/bytealg.IndexString"], unfollowed := true, recurses := true, named := ["unicode/utf8.first", "unicode/utf8.acceptRanges", "internal/bytealg.MaxLen"], apart := false, laid := [("unicode/utf8.acceptRanges", laid_unicode_utf8_acceptRanges), ("unicode/utf8.first", laid_unicode_utf8_first)], narrowed := true }
def SystemClosedUptoSaid : Prop := systemClosedUptoRow.holds Tryz.pinned (OpenSpec.upto systemClosedSpec)

/-- 'shuntlaw12.SystemAdds', WHERE WHAT IT READS IS OF BULK AT MOST 1048576: true; the input reads as it did. -/
def systemAddsUptoRow : OpenClaim := { program := "ytckbiimikeiejaagreatdoor", sum := "b549f97632569a4f8ed91e3785dca8df1b06a918aa06b21bcbccc4ea94fbf80b", func := "shunt/shuntlaw12.SystemAdds", spec := "systemAdds", inPlace := ["internal/bytealg.CountString", "internal/bytealg.IndexByteString", "internal/bytealg.IndexString"], unfollowed := true, recurses := true, named := ["unicode/utf8.first", "unicode/utf8.acceptRanges", "internal/bytealg.MaxLen"], apart := false, laid := [("unicode/utf8.acceptRanges", laid_unicode_utf8_acceptRanges), ("unicode/utf8.first", laid_unicode_utf8_first)], narrowed := true }
def SystemAddsUptoSaid : Prop := systemAddsUptoRow.holds Tryz.pinned (OpenSpec.upto systemAddsSpec)

/-- 'shuntlaw21.AuditTells', WHERE WHAT IT READS IS OF BULK AT MOST 1048576: true; the input reads as it did. -/
def auditTellsUptoRow : OpenClaim := { program := "ytckbiimikeiejaagreatdoor", sum := "b549f97632569a4f8ed91e3785dca8df1b06a918aa06b21bcbccc4ea94fbf80b", func := "shunt/shuntlaw21.AuditTells", spec := "auditTells", inPlace := ["internal/bytealg.CountString", "internal/bytealg.IndexByteString", "internal/bytealg.IndexString"], unfollowed := true, recurses := true, named := ["unicode/utf8.first", "unicode/utf8.acceptRanges", "internal/bytealg.MaxLen"], apart := false, laid := [("unicode/utf8.acceptRanges", laid_unicode_utf8_acceptRanges), ("unicode/utf8.first", laid_unicode_utf8_first)], narrowed := true }
def AuditTellsUptoSaid : Prop := auditTellsUptoRow.holds Tryz.pinned (OpenSpec.upto auditTellsSpec)

/-- 'shuntlaw21.AuditFine', WHERE WHAT IT READS IS OF BULK AT MOST 1048576: true; the input reads as it did. -/
def auditFineUptoRow : OpenClaim := { program := "ytckbiimikeiejaagreatdoor", sum := "b549f97632569a4f8ed91e3785dca8df1b06a918aa06b21bcbccc4ea94fbf80b", func := "shunt/shuntlaw21.AuditFine", spec := "auditFine", inPlace := ["internal/bytealg.CountString", "internal/bytealg.IndexByteString", "internal/bytealg.IndexString"], unfollowed := true, recurses := true, named := ["unicode/utf8.first", "unicode/utf8.acceptRanges", "internal/bytealg.MaxLen"], apart := false, laid := [("unicode/utf8.acceptRanges", laid_unicode_utf8_acceptRanges), ("unicode/utf8.first", laid_unicode_utf8_first)], narrowed := true }
def AuditFineUptoSaid : Prop := auditFineUptoRow.holds Tryz.pinned (OpenSpec.upto auditFineSpec)

/-- 'shuntlaw21.AuditPowers', WHERE WHAT IT READS IS OF BULK AT MOST 1048576: true; the input reads as it did. -/
def auditPowersUptoRow : OpenClaim := { program := "ytckbiimikeiejaagreatdoor", sum := "b549f97632569a4f8ed91e3785dca8df1b06a918aa06b21bcbccc4ea94fbf80b", func := "shunt/shuntlaw21.AuditPowers", spec := "auditPowers", inPlace := ["internal/bytealg.CountString", "internal/bytealg.IndexByteString", "internal/bytealg.IndexString"], unfollowed := true, recurses := true, named := ["unicode/utf8.first", "unicode/utf8.acceptRanges", "internal/bytealg.MaxLen"], apart := false, laid := [("unicode/utf8.acceptRanges", laid_unicode_utf8_acceptRanges), ("unicode/utf8.first", laid_unicode_utf8_first)], narrowed := true }
def AuditPowersUptoSaid : Prop := auditPowersUptoRow.holds Tryz.pinned (OpenSpec.upto auditPowersSpec)

end Rows
end Go.Proofs.YtckbiimikeiejaaGreatDoor
