/-
  DERIVED. GIVEN WITH THE SEED: THE CARDS: each row of YtcjifoccjlpapaaGreatDoorRows.lean that lists a variable, with what it lists TIED to the program's text (the seventh form; the later family's looks); each row that meets fmt, with fmt's text TOLD by the authors' own Lean function (tested against real Go, not proved from fmt's source: count such statements apart). THE CARD IS WHAT COUNTS. Prove the row's statement (the work); the ties are given (YtcjifoccjlpapaaGreatDoorTie.lean); close each card by the builder's one call (the guide's Derived/Test/ToyasCard.lean, 'card_holds'). Laid BY PROGRAM, IN A SANDBOX (cutbox-door.mjs). By AI agents, Wed Nov 11 2026. No macro, syntax, notation, axiom, sorry.
-/
import Derived.Test.YtcjifoccjlpapaaGreatDoorRows
import GoSem.ClaimSeven
namespace Go.Proofs.YtcjifoccjlpapaaGreatDoor
namespace Rows

/-- THE TIED CARD OF 'engrosserlaw24.PublicNext'. -/
def publicNextCard : Claim7 := { stood := { row := publicNextRow, standIns := [], harness := (true, "404cfdf0fe98169e25e770952ef5ceeb8a438a14472d173613c2c707cd0a47ad"), looks := false }, kinds := [], alts := [], laidByText := true, laidKinds := [.data, .data, .data, .data], laidTests := true, laidLooks := .later }
def PublicNextCardSaid : Prop := Claim7.holds Tryz.pinned (.plain (OpenSpec.ofChange publicNextSpec)) publicNextCard

/-- THE TIED CARD OF 'engrosserlaw30.AuditReplays'. -/
def auditReplaysCard : Claim7 := { stood := { row := auditReplaysRow, standIns := [], harness := (true, "404cfdf0fe98169e25e770952ef5ceeb8a438a14472d173613c2c707cd0a47ad"), looks := false }, kinds := [], alts := [], laidByText := true, laidKinds := [.data, .data, .data, .data], laidTests := true, laidLooks := .later }
def AuditReplaysCardSaid : Prop := Claim7.holds Tryz.pinned (.plain (OpenSpec.ofChange auditReplaysSpec)) auditReplaysCard

/-- THE SECOND FORM's CARD OF 'engrosserlaw24.PublicNext'. -/
def publicNextUptoCard : Claim7 := { stood := { row := publicNextUptoRow, standIns := [], harness := (true, "404cfdf0fe98169e25e770952ef5ceeb8a438a14472d173613c2c707cd0a47ad"), looks := false }, kinds := [], alts := [], laidByText := true, laidKinds := [.data, .data, .data, .data], laidTests := true, laidLooks := .later }
def PublicNextUptoCardSaid : Prop := Claim7.holds Tryz.pinned (.plain (OpenSpec.upto publicNextSpec)) publicNextUptoCard

/-- THE SECOND FORM's CARD OF 'engrosserlaw30.AuditReplays'. -/
def auditReplaysUptoCard : Claim7 := { stood := { row := auditReplaysUptoRow, standIns := [], harness := (true, "404cfdf0fe98169e25e770952ef5ceeb8a438a14472d173613c2c707cd0a47ad"), looks := false }, kinds := [], alts := [], laidByText := true, laidKinds := [.data, .data, .data, .data], laidTests := true, laidLooks := .later }
def AuditReplaysUptoCardSaid : Prop := Claim7.holds Tryz.pinned (.plain (OpenSpec.upto auditReplaysSpec)) auditReplaysUptoCard
end Rows
end Go.Proofs.YtcjifoccjlpapaaGreatDoor
