/-
  DERIVED. GIVEN WITH THE SEED: THE CARDS: each row of YthjfindbamdacaaGreatDoorRows.lean that lists a variable, with what it lists TIED to the program's text (the seventh form; the later family's looks); each row that meets fmt, with fmt's text TOLD by the authors' own Lean function (tested against real Go, not proved from fmt's source: count such statements apart). THE CARD IS WHAT COUNTS. Prove the row's statement (the work); the ties are given (YthjfindbamdacaaGreatDoorTie.lean); close each card by the builder's one call (the guide's Derived/Test/ToyasCard.lean, 'card_holds'). Laid BY PROGRAM, IN A SANDBOX (cutbox-door.mjs). By AI agents, Wed Nov 11 2026. No macro, syntax, notation, axiom, sorry.
-/
import Derived.Test.YthjfindbamdacaaGreatDoorRows
import GoSem.ClaimSeven
namespace Go.Proofs.YthjfindbamdacaaGreatDoor
namespace Rows

/-- THE TIED CARD OF 'vmfleetlaw31.PostPushes'. -/
def postPushesCard : Claim7 := { stood := { row := postPushesRow, standIns := [], harness := (true, "279ca6590a8e515b94136e87bc2f19d672c507a086f40a98c56f52ca7fbfb677"), looks := false }, kinds := [], alts := [], laidByText := true, laidKinds := [.data], laidTests := true, laidLooks := .later }
def PostPushesCardSaid : Prop := Claim7.holds Tryz.pinned (.plain (OpenSpec.ofChange postPushesSpec)) postPushesCard

/-- THE TIED CARD OF 'vmfleetlaw31.PostNeeds'. -/
def postNeedsCard : Claim7 := { stood := { row := postNeedsRow, standIns := [], harness := (true, "279ca6590a8e515b94136e87bc2f19d672c507a086f40a98c56f52ca7fbfb677"), looks := false }, kinds := [], alts := [], laidByText := true, laidKinds := [.data], laidTests := true, laidLooks := .later }
def PostNeedsCardSaid : Prop := Claim7.holds Tryz.pinned (.plain (OpenSpec.ofChange postNeedsSpec)) postNeedsCard

/-- THE TIED CARD OF 'vmfleetlaw31.PostRuns'. -/
def postRunsCard : Claim7 := { stood := { row := postRunsRow, standIns := [], harness := (true, "279ca6590a8e515b94136e87bc2f19d672c507a086f40a98c56f52ca7fbfb677"), looks := false }, kinds := [], alts := [], laidByText := true, laidKinds := [.data], laidTests := true, laidLooks := .later }
def PostRunsCardSaid : Prop := Claim7.holds Tryz.pinned (.plain (OpenSpec.ofChange postRunsSpec)) postRunsCard

/-- THE TIED CARD OF 'vmfleetlaw43.AuditAccepts'. -/
def auditAcceptsCard : Claim7 := { stood := { row := auditAcceptsRow, standIns := [], harness := (true, "279ca6590a8e515b94136e87bc2f19d672c507a086f40a98c56f52ca7fbfb677"), looks := false }, kinds := [], alts := [], laidByText := true, laidKinds := [.data, .data, .data], laidTests := true, laidLooks := .later }
def AuditAcceptsCardSaid : Prop := Claim7.holds Tryz.pinned (.plain (OpenSpec.ofChange auditAcceptsSpec)) auditAcceptsCard

/-- THE TIED CARD OF 'vmfleetlaw43.AuditFinds'. -/
def auditFindsCard : Claim7 := { stood := { row := auditFindsRow, standIns := [], harness := (true, "279ca6590a8e515b94136e87bc2f19d672c507a086f40a98c56f52ca7fbfb677"), looks := false }, kinds := [], alts := [], laidByText := true, laidKinds := [.data, .data, .data], laidTests := true, laidLooks := .later }
def AuditFindsCardSaid : Prop := Claim7.holds Tryz.pinned (.plain (OpenSpec.ofChange auditFindsSpec)) auditFindsCard

/-- THE TIED CARD OF 'vmfleetlaw43.AuditScripts'. -/
def auditScriptsCard : Claim7 := { stood := { row := auditScriptsRow, standIns := [], harness := (true, "279ca6590a8e515b94136e87bc2f19d672c507a086f40a98c56f52ca7fbfb677"), looks := false }, kinds := [], alts := [], laidByText := true, laidKinds := [.data, .data, .data], laidTests := true, laidLooks := .later }
def AuditScriptsCardSaid : Prop := Claim7.holds Tryz.pinned (.plain (OpenSpec.ofChange auditScriptsSpec)) auditScriptsCard

/-- THE TIED CARD OF 'vmfleetlaw43.AuditCompares'. -/
def auditComparesCard : Claim7 := { stood := { row := auditComparesRow, standIns := [], harness := (true, "279ca6590a8e515b94136e87bc2f19d672c507a086f40a98c56f52ca7fbfb677"), looks := false }, kinds := [], alts := [], laidByText := true, laidKinds := [.data, .data, .data], laidTests := true, laidLooks := .later }
def AuditComparesCardSaid : Prop := Claim7.holds Tryz.pinned (.plain (OpenSpec.ofChange auditComparesSpec)) auditComparesCard

/-- THE TIED CARD OF 'vmfleetlaw43.AuditFewer'. -/
def auditFewerCard : Claim7 := { stood := { row := auditFewerRow, standIns := [], harness := (true, "279ca6590a8e515b94136e87bc2f19d672c507a086f40a98c56f52ca7fbfb677"), looks := false }, kinds := [], alts := [], laidByText := true, laidKinds := [.data, .data, .data], laidTests := true, laidLooks := .later }
def AuditFewerCardSaid : Prop := Claim7.holds Tryz.pinned (.plain (OpenSpec.ofChange auditFewerSpec)) auditFewerCard

/-- THE TIED CARD OF 'vmfleetlaw43.AuditTells'. -/
def auditTellsCard : Claim7 := { stood := { row := auditTellsRow, standIns := [], harness := (true, "279ca6590a8e515b94136e87bc2f19d672c507a086f40a98c56f52ca7fbfb677"), looks := false }, kinds := [], alts := [], laidByText := true, laidKinds := [.data, .data, .data], laidTests := true, laidLooks := .later }
def AuditTellsCardSaid : Prop := Claim7.holds Tryz.pinned (.plain (OpenSpec.ofChange auditTellsSpec)) auditTellsCard

/-- THE SECOND FORM's CARD OF 'vmfleetlaw31.PostPushes'. -/
def postPushesUptoCard : Claim7 := { stood := { row := postPushesUptoRow, standIns := [], harness := (true, "279ca6590a8e515b94136e87bc2f19d672c507a086f40a98c56f52ca7fbfb677"), looks := false }, kinds := [], alts := [], laidByText := true, laidKinds := [.data], laidTests := true, laidLooks := .later }
def PostPushesUptoCardSaid : Prop := Claim7.holds Tryz.pinned (.plain (OpenSpec.upto postPushesSpec)) postPushesUptoCard

/-- THE SECOND FORM's CARD OF 'vmfleetlaw31.PostNeeds'. -/
def postNeedsUptoCard : Claim7 := { stood := { row := postNeedsUptoRow, standIns := [], harness := (true, "279ca6590a8e515b94136e87bc2f19d672c507a086f40a98c56f52ca7fbfb677"), looks := false }, kinds := [], alts := [], laidByText := true, laidKinds := [.data], laidTests := true, laidLooks := .later }
def PostNeedsUptoCardSaid : Prop := Claim7.holds Tryz.pinned (.plain (OpenSpec.upto postNeedsSpec)) postNeedsUptoCard

/-- THE SECOND FORM's CARD OF 'vmfleetlaw31.PostRuns'. -/
def postRunsUptoCard : Claim7 := { stood := { row := postRunsUptoRow, standIns := [], harness := (true, "279ca6590a8e515b94136e87bc2f19d672c507a086f40a98c56f52ca7fbfb677"), looks := false }, kinds := [], alts := [], laidByText := true, laidKinds := [.data], laidTests := true, laidLooks := .later }
def PostRunsUptoCardSaid : Prop := Claim7.holds Tryz.pinned (.plain (OpenSpec.upto postRunsSpec)) postRunsUptoCard

/-- THE SECOND FORM's CARD OF 'vmfleetlaw43.AuditAccepts'. -/
def auditAcceptsUptoCard : Claim7 := { stood := { row := auditAcceptsUptoRow, standIns := [], harness := (true, "279ca6590a8e515b94136e87bc2f19d672c507a086f40a98c56f52ca7fbfb677"), looks := false }, kinds := [], alts := [], laidByText := true, laidKinds := [.data, .data, .data], laidTests := true, laidLooks := .later }
def AuditAcceptsUptoCardSaid : Prop := Claim7.holds Tryz.pinned (.plain (OpenSpec.upto auditAcceptsSpec)) auditAcceptsUptoCard

/-- THE SECOND FORM's CARD OF 'vmfleetlaw43.AuditFinds'. -/
def auditFindsUptoCard : Claim7 := { stood := { row := auditFindsUptoRow, standIns := [], harness := (true, "279ca6590a8e515b94136e87bc2f19d672c507a086f40a98c56f52ca7fbfb677"), looks := false }, kinds := [], alts := [], laidByText := true, laidKinds := [.data, .data, .data], laidTests := true, laidLooks := .later }
def AuditFindsUptoCardSaid : Prop := Claim7.holds Tryz.pinned (.plain (OpenSpec.upto auditFindsSpec)) auditFindsUptoCard

/-- THE SECOND FORM's CARD OF 'vmfleetlaw43.AuditScripts'. -/
def auditScriptsUptoCard : Claim7 := { stood := { row := auditScriptsUptoRow, standIns := [], harness := (true, "279ca6590a8e515b94136e87bc2f19d672c507a086f40a98c56f52ca7fbfb677"), looks := false }, kinds := [], alts := [], laidByText := true, laidKinds := [.data, .data, .data], laidTests := true, laidLooks := .later }
def AuditScriptsUptoCardSaid : Prop := Claim7.holds Tryz.pinned (.plain (OpenSpec.upto auditScriptsSpec)) auditScriptsUptoCard

/-- THE SECOND FORM's CARD OF 'vmfleetlaw43.AuditCompares'. -/
def auditComparesUptoCard : Claim7 := { stood := { row := auditComparesUptoRow, standIns := [], harness := (true, "279ca6590a8e515b94136e87bc2f19d672c507a086f40a98c56f52ca7fbfb677"), looks := false }, kinds := [], alts := [], laidByText := true, laidKinds := [.data, .data, .data], laidTests := true, laidLooks := .later }
def AuditComparesUptoCardSaid : Prop := Claim7.holds Tryz.pinned (.plain (OpenSpec.upto auditComparesSpec)) auditComparesUptoCard

/-- THE SECOND FORM's CARD OF 'vmfleetlaw43.AuditFewer'. -/
def auditFewerUptoCard : Claim7 := { stood := { row := auditFewerUptoRow, standIns := [], harness := (true, "279ca6590a8e515b94136e87bc2f19d672c507a086f40a98c56f52ca7fbfb677"), looks := false }, kinds := [], alts := [], laidByText := true, laidKinds := [.data, .data, .data], laidTests := true, laidLooks := .later }
def AuditFewerUptoCardSaid : Prop := Claim7.holds Tryz.pinned (.plain (OpenSpec.upto auditFewerSpec)) auditFewerUptoCard

/-- THE SECOND FORM's CARD OF 'vmfleetlaw43.AuditTells'. -/
def auditTellsUptoCard : Claim7 := { stood := { row := auditTellsUptoRow, standIns := [], harness := (true, "279ca6590a8e515b94136e87bc2f19d672c507a086f40a98c56f52ca7fbfb677"), looks := false }, kinds := [], alts := [], laidByText := true, laidKinds := [.data, .data, .data], laidTests := true, laidLooks := .later }
def AuditTellsUptoCardSaid : Prop := Claim7.holds Tryz.pinned (.plain (OpenSpec.upto auditTellsSpec)) auditTellsUptoCard
end Rows
end Go.Proofs.YthjfindbamdacaaGreatDoor
