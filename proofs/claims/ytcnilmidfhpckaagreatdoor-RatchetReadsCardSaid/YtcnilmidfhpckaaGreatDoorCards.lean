/-
  DERIVED. GIVEN WITH THE SEED: THE CARDS: each row of YtcnilmidfhpckaaGreatDoorRows.lean that lists a variable, with what it lists TIED to the program's text (the seventh form; the later family's looks); each row that meets fmt, with fmt's text TOLD by the authors' own Lean function (tested against real Go, not proved from fmt's source: count such statements apart). THE CARD IS WHAT COUNTS. Prove the row's statement (the work); the ties are given (YtcnilmidfhpckaaGreatDoorTie.lean); close each card by the builder's one call (the guide's Derived/Test/ToyasCard.lean, 'card_holds'). Laid BY PROGRAM, IN A SANDBOX (cutbox-door.mjs). By AI agents, Wed Nov 11 2026. No macro, syntax, notation, axiom, sorry.
-/
import Derived.Test.YtcnilmidfhpckaaGreatDoorRows
import GoSem.ClaimSeven
namespace Go.Proofs.YtcnilmidfhpckaaGreatDoor
namespace Rows

/-- THE TIED CARD OF 'engrosserlaw20.RatchetReads'. -/
def ratchetReadsCard : Claim7 := { stood := { row := ratchetReadsRow, standIns := [], harness := (true, "77f9337c36ae3e1899b120b5794174503fbcab5305227006b7a304e67661c486"), looks := false }, kinds := [], alts := [], laidByText := true, laidKinds := [.data, .data], laidTests := true, laidLooks := .later }
def RatchetReadsCardSaid : Prop := Claim7.holds Tryz.pinned (.plain (OpenSpec.ofChange ratchetReadsSpec)) ratchetReadsCard

/-- THE TIED CARD OF 'engrosserlaw20.RatchetActs'. -/
def ratchetActsCard : Claim7 := { stood := { row := ratchetActsRow, standIns := [], harness := (true, "77f9337c36ae3e1899b120b5794174503fbcab5305227006b7a304e67661c486"), looks := false }, kinds := [], alts := [], laidByText := true, laidKinds := [.data, .data, .data, .data], laidTests := true, laidLooks := .later }
def RatchetActsCardSaid : Prop := Claim7.holds Tryz.pinned (.plain (OpenSpec.ofChange ratchetActsSpec)) ratchetActsCard

/-- THE TIED CARD OF 'engrosserlaw20.RatchetRows'. -/
def ratchetRowsCard : Claim7 := { stood := { row := ratchetRowsRow, standIns := [], harness := (true, "77f9337c36ae3e1899b120b5794174503fbcab5305227006b7a304e67661c486"), looks := false }, kinds := [], alts := [], laidByText := true, laidKinds := [.data, .data, .data, .data], laidTests := true, laidLooks := .later }
def RatchetRowsCardSaid : Prop := Claim7.holds Tryz.pinned (.plain (OpenSpec.ofChange ratchetRowsSpec)) ratchetRowsCard

/-- THE SECOND FORM's CARD OF 'engrosserlaw20.RatchetReads'. -/
def ratchetReadsUptoCard : Claim7 := { stood := { row := ratchetReadsUptoRow, standIns := [], harness := (true, "77f9337c36ae3e1899b120b5794174503fbcab5305227006b7a304e67661c486"), looks := false }, kinds := [], alts := [], laidByText := true, laidKinds := [.data, .data], laidTests := true, laidLooks := .later }
def RatchetReadsUptoCardSaid : Prop := Claim7.holds Tryz.pinned (.plain (OpenSpec.upto ratchetReadsSpec)) ratchetReadsUptoCard

/-- THE SECOND FORM's CARD OF 'engrosserlaw20.RatchetActs'. -/
def ratchetActsUptoCard : Claim7 := { stood := { row := ratchetActsUptoRow, standIns := [], harness := (true, "77f9337c36ae3e1899b120b5794174503fbcab5305227006b7a304e67661c486"), looks := false }, kinds := [], alts := [], laidByText := true, laidKinds := [.data, .data, .data, .data], laidTests := true, laidLooks := .later }
def RatchetActsUptoCardSaid : Prop := Claim7.holds Tryz.pinned (.plain (OpenSpec.upto ratchetActsSpec)) ratchetActsUptoCard

/-- THE SECOND FORM's CARD OF 'engrosserlaw20.RatchetRows'. -/
def ratchetRowsUptoCard : Claim7 := { stood := { row := ratchetRowsUptoRow, standIns := [], harness := (true, "77f9337c36ae3e1899b120b5794174503fbcab5305227006b7a304e67661c486"), looks := false }, kinds := [], alts := [], laidByText := true, laidKinds := [.data, .data, .data, .data], laidTests := true, laidLooks := .later }
def RatchetRowsUptoCardSaid : Prop := Claim7.holds Tryz.pinned (.plain (OpenSpec.upto ratchetRowsSpec)) ratchetRowsUptoCard
end Rows
end Go.Proofs.YtcnilmidfhpckaaGreatDoor
