/-
  DERIVED. GIVEN WITH THE SEED: THE CARDS: each row of YtfjlmkifiihgkaaGreatDoorRows.lean that lists a variable, with what it lists TIED to the program's text (the seventh form; the later family's looks); each row that meets fmt, with fmt's text TOLD by the authors' own Lean function (tested against real Go, not proved from fmt's source: count such statements apart). THE CARD IS WHAT COUNTS. Prove the row's statement (the work); the ties are given (YtfjlmkifiihgkaaGreatDoorTie.lean); close each card by the builder's one call (the guide's Derived/Test/ToyasCard.lean, 'card_holds'). Laid BY PROGRAM, IN A SANDBOX (cutbox-door.mjs). By AI agents, Wed Nov 11 2026. No macro, syntax, notation, axiom, sorry.
-/
import Derived.Test.YtfjlmkifiihgkaaGreatDoorRows
import GoSem.ClaimSeven
namespace Go.Proofs.YtfjlmkifiihgkaaGreatDoor
namespace Rows

/-- THE TIED CARD OF 'engrosserlaw20.RatchetActs'. -/
def ratchetActsCard : Claim7 := { stood := { row := ratchetActsRow, standIns := [], harness := (true, "e4b84b2879f7caad34e15753fd006bb31144b445cbe47ebddcd28f05597ed10b"), looks := false }, kinds := [], alts := [], laidByText := true, laidKinds := [.data, .data, .data, .data], laidTests := true, laidLooks := .later }
def RatchetActsCardSaid : Prop := Claim7.holds Tryz.pinned (.plain (OpenSpec.ofChange ratchetActsSpec)) ratchetActsCard

/-- THE TIED CARD OF 'engrosserlaw20.RatchetRows'. -/
def ratchetRowsCard : Claim7 := { stood := { row := ratchetRowsRow, standIns := [], harness := (true, "e4b84b2879f7caad34e15753fd006bb31144b445cbe47ebddcd28f05597ed10b"), looks := false }, kinds := [], alts := [], laidByText := true, laidKinds := [.data, .data, .data, .data], laidTests := true, laidLooks := .later }
def RatchetRowsCardSaid : Prop := Claim7.holds Tryz.pinned (.plain (OpenSpec.ofChange ratchetRowsSpec)) ratchetRowsCard

/-- THE TIED CARD OF 'engrosserlaw24.PublicNext'. -/
def publicNextCard : Claim7 := { stood := { row := publicNextRow, standIns := [], harness := (true, "e4b84b2879f7caad34e15753fd006bb31144b445cbe47ebddcd28f05597ed10b"), looks := false }, kinds := [], alts := [], laidByText := true, laidKinds := [.data, .data, .data, .data], laidTests := true, laidLooks := .later }
def PublicNextCardSaid : Prop := Claim7.holds Tryz.pinned (.plain (OpenSpec.ofChange publicNextSpec)) publicNextCard

/-- THE TIED CARD OF 'engrosserlaw24.PublicFolds'. -/
def publicFoldsCard : Claim7 := { stood := { row := publicFoldsRow, standIns := [], harness := (true, "e4b84b2879f7caad34e15753fd006bb31144b445cbe47ebddcd28f05597ed10b"), looks := false }, kinds := [], alts := [], laidByText := true, laidKinds := [.data, .data, .data, .data], laidTests := true, laidLooks := .later }
def PublicFoldsCardSaid : Prop := Claim7.holds Tryz.pinned (.plain (OpenSpec.ofChange publicFoldsSpec)) publicFoldsCard

/-- THE TIED CARD OF 'engrosserlaw24.PublicReads'. -/
def publicReadsCard : Claim7 := { stood := { row := publicReadsRow, standIns := [], harness := (true, "e4b84b2879f7caad34e15753fd006bb31144b445cbe47ebddcd28f05597ed10b"), looks := false }, kinds := [], alts := [], laidByText := true, laidKinds := [.data, .data, .data, .data], laidTests := true, laidLooks := .later }
def PublicReadsCardSaid : Prop := Claim7.holds Tryz.pinned (.plain (OpenSpec.ofChange publicReadsSpec)) publicReadsCard

/-- THE TIED CARD OF 'engrosserlaw24.PublicStates'. -/
def publicStatesCard : Claim7 := { stood := { row := publicStatesRow, standIns := [], harness := (true, "e4b84b2879f7caad34e15753fd006bb31144b445cbe47ebddcd28f05597ed10b"), looks := false }, kinds := [], alts := [], laidByText := true, laidKinds := [.data, .data, .data, .data], laidTests := true, laidLooks := .later }
def PublicStatesCardSaid : Prop := Claim7.holds Tryz.pinned (.plain (OpenSpec.ofChange publicStatesSpec)) publicStatesCard

/-- THE TIED CARD OF 'engrosserlaw30.AuditReplays'. -/
def auditReplaysCard : Claim7 := { stood := { row := auditReplaysRow, standIns := [], harness := (true, "e4b84b2879f7caad34e15753fd006bb31144b445cbe47ebddcd28f05597ed10b"), looks := false }, kinds := [], alts := [], laidByText := true, laidKinds := [.data, .data, .data, .data], laidTests := true, laidLooks := .later }
def AuditReplaysCardSaid : Prop := Claim7.holds Tryz.pinned (.plain (OpenSpec.ofChange auditReplaysSpec)) auditReplaysCard

/-- THE SECOND FORM's CARD OF 'engrosserlaw20.RatchetActs'. -/
def ratchetActsUptoCard : Claim7 := { stood := { row := ratchetActsUptoRow, standIns := [], harness := (true, "e4b84b2879f7caad34e15753fd006bb31144b445cbe47ebddcd28f05597ed10b"), looks := false }, kinds := [], alts := [], laidByText := true, laidKinds := [.data, .data, .data, .data], laidTests := true, laidLooks := .later }
def RatchetActsUptoCardSaid : Prop := Claim7.holds Tryz.pinned (.plain (OpenSpec.upto ratchetActsSpec)) ratchetActsUptoCard

/-- THE SECOND FORM's CARD OF 'engrosserlaw20.RatchetRows'. -/
def ratchetRowsUptoCard : Claim7 := { stood := { row := ratchetRowsUptoRow, standIns := [], harness := (true, "e4b84b2879f7caad34e15753fd006bb31144b445cbe47ebddcd28f05597ed10b"), looks := false }, kinds := [], alts := [], laidByText := true, laidKinds := [.data, .data, .data, .data], laidTests := true, laidLooks := .later }
def RatchetRowsUptoCardSaid : Prop := Claim7.holds Tryz.pinned (.plain (OpenSpec.upto ratchetRowsSpec)) ratchetRowsUptoCard

/-- THE SECOND FORM's CARD OF 'engrosserlaw24.PublicNext'. -/
def publicNextUptoCard : Claim7 := { stood := { row := publicNextUptoRow, standIns := [], harness := (true, "e4b84b2879f7caad34e15753fd006bb31144b445cbe47ebddcd28f05597ed10b"), looks := false }, kinds := [], alts := [], laidByText := true, laidKinds := [.data, .data, .data, .data], laidTests := true, laidLooks := .later }
def PublicNextUptoCardSaid : Prop := Claim7.holds Tryz.pinned (.plain (OpenSpec.upto publicNextSpec)) publicNextUptoCard

/-- THE SECOND FORM's CARD OF 'engrosserlaw24.PublicFolds'. -/
def publicFoldsUptoCard : Claim7 := { stood := { row := publicFoldsUptoRow, standIns := [], harness := (true, "e4b84b2879f7caad34e15753fd006bb31144b445cbe47ebddcd28f05597ed10b"), looks := false }, kinds := [], alts := [], laidByText := true, laidKinds := [.data, .data, .data, .data], laidTests := true, laidLooks := .later }
def PublicFoldsUptoCardSaid : Prop := Claim7.holds Tryz.pinned (.plain (OpenSpec.upto publicFoldsSpec)) publicFoldsUptoCard

/-- THE SECOND FORM's CARD OF 'engrosserlaw24.PublicReads'. -/
def publicReadsUptoCard : Claim7 := { stood := { row := publicReadsUptoRow, standIns := [], harness := (true, "e4b84b2879f7caad34e15753fd006bb31144b445cbe47ebddcd28f05597ed10b"), looks := false }, kinds := [], alts := [], laidByText := true, laidKinds := [.data, .data, .data, .data], laidTests := true, laidLooks := .later }
def PublicReadsUptoCardSaid : Prop := Claim7.holds Tryz.pinned (.plain (OpenSpec.upto publicReadsSpec)) publicReadsUptoCard

/-- THE SECOND FORM's CARD OF 'engrosserlaw24.PublicStates'. -/
def publicStatesUptoCard : Claim7 := { stood := { row := publicStatesUptoRow, standIns := [], harness := (true, "e4b84b2879f7caad34e15753fd006bb31144b445cbe47ebddcd28f05597ed10b"), looks := false }, kinds := [], alts := [], laidByText := true, laidKinds := [.data, .data, .data, .data], laidTests := true, laidLooks := .later }
def PublicStatesUptoCardSaid : Prop := Claim7.holds Tryz.pinned (.plain (OpenSpec.upto publicStatesSpec)) publicStatesUptoCard

/-- THE SECOND FORM's CARD OF 'engrosserlaw30.AuditReplays'. -/
def auditReplaysUptoCard : Claim7 := { stood := { row := auditReplaysUptoRow, standIns := [], harness := (true, "e4b84b2879f7caad34e15753fd006bb31144b445cbe47ebddcd28f05597ed10b"), looks := false }, kinds := [], alts := [], laidByText := true, laidKinds := [.data, .data, .data, .data], laidTests := true, laidLooks := .later }
def AuditReplaysUptoCardSaid : Prop := Claim7.holds Tryz.pinned (.plain (OpenSpec.upto auditReplaysSpec)) auditReplaysUptoCard
end Rows
end Go.Proofs.YtfjlmkifiihgkaaGreatDoor
