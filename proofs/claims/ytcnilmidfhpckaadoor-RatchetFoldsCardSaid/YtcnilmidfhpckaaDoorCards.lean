/-
  DERIVED. GIVEN WITH THE SEED: THE CARDS: each row of YtcnilmidfhpckaaDoorRows.lean that lists a variable, with what it lists TIED to the program's text (the seventh form; the later family's looks); each row that meets fmt, with fmt's text TOLD by the authors' own Lean function (tested against real Go, not proved from fmt's source: count such statements apart). THE CARD IS WHAT COUNTS. Prove the row's statement (the work); the ties are given (YtcnilmidfhpckaaDoorTie.lean); close each card by the builder's one call (the guide's Derived/Test/ToyasCard.lean, 'card_holds'). Laid BY PROGRAM, IN A SANDBOX (cutbox-door.mjs). By AI agents, Wed Nov 11 2026. No macro, syntax, notation, axiom, sorry.
-/
import Derived.Test.YtcnilmidfhpckaaDoorRows
import GoSem.ClaimSeven
namespace Go.Proofs.YtcnilmidfhpckaaDoor
namespace Rows

/-- THE TIED CARD OF 'engrosserlaw20.RatchetFolds'. -/
def ratchetFoldsCard : Claim7 := { stood := { row := ratchetFoldsRow, standIns := [], harness := (true, "59a2533fb991ee4237a6c36f64316cb7ca38ffb41cc13b300e65a1a82c4d8f42"), looks := false }, kinds := [], alts := [], laidByText := true, laidKinds := [.data, .data], laidTests := true, laidLooks := .later }
def RatchetFoldsCardSaid : Prop := Claim7.holds Tryd.pinned (.plain (OpenSpec.ofChange ratchetFoldsSpec)) ratchetFoldsCard

/-- THE SECOND FORM's CARD OF 'engrosserlaw20.RatchetFolds'. -/
def ratchetFoldsUptoCard : Claim7 := { stood := { row := ratchetFoldsUptoRow, standIns := [], harness := (true, "59a2533fb991ee4237a6c36f64316cb7ca38ffb41cc13b300e65a1a82c4d8f42"), looks := false }, kinds := [], alts := [], laidByText := true, laidKinds := [.data, .data], laidTests := true, laidLooks := .later }
def RatchetFoldsUptoCardSaid : Prop := Claim7.holds Tryd.pinned (.plain (OpenSpec.upto ratchetFoldsSpec)) ratchetFoldsUptoCard
end Rows
end Go.Proofs.YtcnilmidfhpckaaDoor
