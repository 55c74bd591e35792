/-
  DERIVED. GIVEN WITH THE SEED: THE CARDS: each row of YtoagkleecgngdaaGreatDoorRows.lean that lists a variable, with what it lists TIED to the program's text (the seventh form; the later family's looks); each row that meets fmt, with fmt's text TOLD by the authors' own Lean function (tested against real Go, not proved from fmt's source: count such statements apart). THE CARD IS WHAT COUNTS. Prove the row's statement (the work); the ties are given (YtoagkleecgngdaaGreatDoorTie.lean); close each card by the builder's one call (the guide's Derived/Test/ToyasCard.lean, 'card_holds'). Laid BY PROGRAM, IN A SANDBOX (cutbox-door.mjs). By AI agents, Wed Nov 11 2026. No macro, syntax, notation, axiom, sorry.
-/
import Derived.Test.YtoagkleecgngdaaGreatDoorRows
import GoSem.ClaimSeven
namespace Go.Proofs.YtoagkleecgngdaaGreatDoor
namespace Rows

/-- THE TIED CARD OF 'engrosserlaw24.PublicNext'. -/
def publicNextCard : Claim7 := { stood := { row := publicNextRow, standIns := [], harness := (true, "efdbe86a0517a6e7fa67de34ed9c2441c92d7a57ec8ba0e5adf5f72ac1241935"), looks := false }, kinds := [], alts := [], laidByText := true, laidKinds := [.data, .data, .data, .data], laidTests := true, laidLooks := .later }
def PublicNextCardSaid : Prop := Claim7.holds Tryz.pinned (.plain (OpenSpec.ofChange publicNextSpec)) publicNextCard

/-- THE TIED CARD OF 'engrosserlaw24.PublicFolds'. -/
def publicFoldsCard : Claim7 := { stood := { row := publicFoldsRow, standIns := [], harness := (true, "efdbe86a0517a6e7fa67de34ed9c2441c92d7a57ec8ba0e5adf5f72ac1241935"), looks := false }, kinds := [], alts := [], laidByText := true, laidKinds := [.data, .data, .data, .data], laidTests := true, laidLooks := .later }
def PublicFoldsCardSaid : Prop := Claim7.holds Tryz.pinned (.plain (OpenSpec.ofChange publicFoldsSpec)) publicFoldsCard

/-- THE TIED CARD OF 'engrosserlaw24.PublicReads'. -/
def publicReadsCard : Claim7 := { stood := { row := publicReadsRow, standIns := [], harness := (true, "efdbe86a0517a6e7fa67de34ed9c2441c92d7a57ec8ba0e5adf5f72ac1241935"), looks := false }, kinds := [], alts := [], laidByText := true, laidKinds := [.data, .data, .data, .data], laidTests := true, laidLooks := .later }
def PublicReadsCardSaid : Prop := Claim7.holds Tryz.pinned (.plain (OpenSpec.ofChange publicReadsSpec)) publicReadsCard

/-- THE TIED CARD OF 'engrosserlaw24.PublicStates'. -/
def publicStatesCard : Claim7 := { stood := { row := publicStatesRow, standIns := [], harness := (true, "efdbe86a0517a6e7fa67de34ed9c2441c92d7a57ec8ba0e5adf5f72ac1241935"), looks := false }, kinds := [], alts := [], laidByText := true, laidKinds := [.data, .data, .data, .data], laidTests := true, laidLooks := .later }
def PublicStatesCardSaid : Prop := Claim7.holds Tryz.pinned (.plain (OpenSpec.ofChange publicStatesSpec)) publicStatesCard

/-- THE TIED CARD OF 'engrosserlaw30.AuditReplays'. -/
def auditReplaysCard : Claim7 := { stood := { row := auditReplaysRow, standIns := [], harness := (true, "efdbe86a0517a6e7fa67de34ed9c2441c92d7a57ec8ba0e5adf5f72ac1241935"), looks := false }, kinds := [], alts := [], laidByText := true, laidKinds := [.data, .data, .data, .data], laidTests := true, laidLooks := .later }
def AuditReplaysCardSaid : Prop := Claim7.holds Tryz.pinned (.plain (OpenSpec.ofChange auditReplaysSpec)) auditReplaysCard

/-- THE TIED CARD OF 'engrosserlaw30.AuditReleases'. -/
def auditReleasesCard : Claim7 := { stood := { row := auditReleasesRow, standIns := [], harness := (true, "efdbe86a0517a6e7fa67de34ed9c2441c92d7a57ec8ba0e5adf5f72ac1241935"), looks := false }, kinds := [], alts := [], laidByText := true, laidKinds := [.data, .data, .data, .data], laidTests := true, laidLooks := .later }
def AuditReleasesCardSaid : Prop := Claim7.holds Tryz.pinned (.plain (OpenSpec.ofChange auditReleasesSpec)) auditReleasesCard

/-- THE SECOND FORM's CARD OF 'engrosserlaw24.PublicNext'. -/
def publicNextUptoCard : Claim7 := { stood := { row := publicNextUptoRow, standIns := [], harness := (true, "efdbe86a0517a6e7fa67de34ed9c2441c92d7a57ec8ba0e5adf5f72ac1241935"), looks := false }, kinds := [], alts := [], laidByText := true, laidKinds := [.data, .data, .data, .data], laidTests := true, laidLooks := .later }
def PublicNextUptoCardSaid : Prop := Claim7.holds Tryz.pinned (.plain (OpenSpec.upto publicNextSpec)) publicNextUptoCard

/-- THE SECOND FORM's CARD OF 'engrosserlaw24.PublicFolds'. -/
def publicFoldsUptoCard : Claim7 := { stood := { row := publicFoldsUptoRow, standIns := [], harness := (true, "efdbe86a0517a6e7fa67de34ed9c2441c92d7a57ec8ba0e5adf5f72ac1241935"), looks := false }, kinds := [], alts := [], laidByText := true, laidKinds := [.data, .data, .data, .data], laidTests := true, laidLooks := .later }
def PublicFoldsUptoCardSaid : Prop := Claim7.holds Tryz.pinned (.plain (OpenSpec.upto publicFoldsSpec)) publicFoldsUptoCard

/-- THE SECOND FORM's CARD OF 'engrosserlaw24.PublicReads'. -/
def publicReadsUptoCard : Claim7 := { stood := { row := publicReadsUptoRow, standIns := [], harness := (true, "efdbe86a0517a6e7fa67de34ed9c2441c92d7a57ec8ba0e5adf5f72ac1241935"), looks := false }, kinds := [], alts := [], laidByText := true, laidKinds := [.data, .data, .data, .data], laidTests := true, laidLooks := .later }
def PublicReadsUptoCardSaid : Prop := Claim7.holds Tryz.pinned (.plain (OpenSpec.upto publicReadsSpec)) publicReadsUptoCard

/-- THE SECOND FORM's CARD OF 'engrosserlaw24.PublicStates'. -/
def publicStatesUptoCard : Claim7 := { stood := { row := publicStatesUptoRow, standIns := [], harness := (true, "efdbe86a0517a6e7fa67de34ed9c2441c92d7a57ec8ba0e5adf5f72ac1241935"), looks := false }, kinds := [], alts := [], laidByText := true, laidKinds := [.data, .data, .data, .data], laidTests := true, laidLooks := .later }
def PublicStatesUptoCardSaid : Prop := Claim7.holds Tryz.pinned (.plain (OpenSpec.upto publicStatesSpec)) publicStatesUptoCard

/-- THE SECOND FORM's CARD OF 'engrosserlaw30.AuditReplays'. -/
def auditReplaysUptoCard : Claim7 := { stood := { row := auditReplaysUptoRow, standIns := [], harness := (true, "efdbe86a0517a6e7fa67de34ed9c2441c92d7a57ec8ba0e5adf5f72ac1241935"), looks := false }, kinds := [], alts := [], laidByText := true, laidKinds := [.data, .data, .data, .data], laidTests := true, laidLooks := .later }
def AuditReplaysUptoCardSaid : Prop := Claim7.holds Tryz.pinned (.plain (OpenSpec.upto auditReplaysSpec)) auditReplaysUptoCard

/-- THE SECOND FORM's CARD OF 'engrosserlaw30.AuditReleases'. -/
def auditReleasesUptoCard : Claim7 := { stood := { row := auditReleasesUptoRow, standIns := [], harness := (true, "efdbe86a0517a6e7fa67de34ed9c2441c92d7a57ec8ba0e5adf5f72ac1241935"), looks := false }, kinds := [], alts := [], laidByText := true, laidKinds := [.data, .data, .data, .data], laidTests := true, laidLooks := .later }
def AuditReleasesUptoCardSaid : Prop := Claim7.holds Tryz.pinned (.plain (OpenSpec.upto auditReleasesSpec)) auditReleasesUptoCard
end Rows
end Go.Proofs.YtoagkleecgngdaaGreatDoor
