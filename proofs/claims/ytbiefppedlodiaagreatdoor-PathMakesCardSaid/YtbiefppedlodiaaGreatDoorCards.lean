/-
  DERIVED. GIVEN WITH THE SEED: THE CARDS: each row of YtbiefppedlodiaaGreatDoorRows.lean that lists a variable, with what it lists TIED to the program's text (the seventh form; the later family's looks); each row that meets fmt, with fmt's text TOLD by the authors' own Lean function (tested against real Go, not proved from fmt's source: count such statements apart). THE CARD IS WHAT COUNTS. Prove the row's statement (the work); the ties are given (YtbiefppedlodiaaGreatDoorTie.lean); close each card by the builder's one call (the guide's Derived/Test/ToyasCard.lean, 'card_holds'). Laid BY PROGRAM, IN A SANDBOX (cutbox-door.mjs). By AI agents, Wed Nov 11 2026. No macro, syntax, notation, axiom, sorry.
-/
import Derived.Test.YtbiefppedlodiaaGreatDoorRows
import GoSem.ClaimSeven
namespace Go.Proofs.YtbiefppedlodiaaGreatDoor
namespace Rows

/-- THE TIED CARD OF 'engrosserlaw21.PathMakes'. -/
def pathMakesCard : Claim7 := { stood := { row := pathMakesRow, standIns := [], harness := (true, "a9b44f7f579bb06e0e33ebffb0468da60b79a7693d93326aaa290a98137f31e2"), looks := false }, kinds := [], alts := [], laidByText := true, laidKinds := [.data, .data, .data, .data], laidTests := true, laidLooks := .later }
def PathMakesCardSaid : Prop := Claim7.holds Tryz.pinned (.plain (OpenSpec.ofChange pathMakesSpec)) pathMakesCard

/-- THE TIED CARD OF 'engrosserlaw21.PathApplies'. -/
def pathAppliesCard : Claim7 := { stood := { row := pathAppliesRow, standIns := [], harness := (true, "a9b44f7f579bb06e0e33ebffb0468da60b79a7693d93326aaa290a98137f31e2"), looks := false }, kinds := [], alts := [], laidByText := true, laidKinds := [.data, .data, .data, .data], laidTests := true, laidLooks := .later }
def PathAppliesCardSaid : Prop := Claim7.holds Tryz.pinned (.plain (OpenSpec.ofChange pathAppliesSpec)) pathAppliesCard

/-- THE TIED CARD OF 'engrosserlaw21.PathLearns'. -/
def pathLearnsCard : Claim7 := { stood := { row := pathLearnsRow, standIns := [], harness := (true, "a9b44f7f579bb06e0e33ebffb0468da60b79a7693d93326aaa290a98137f31e2"), looks := false }, kinds := [], alts := [], laidByText := true, laidKinds := [.data, .data, .data, .data], laidTests := true, laidLooks := .later }
def PathLearnsCardSaid : Prop := Claim7.holds Tryz.pinned (.plain (OpenSpec.ofChange pathLearnsSpec)) pathLearnsCard

/-- THE TIED CARD OF 'engrosserlaw21.PathEnters'. -/
def pathEntersCard : Claim7 := { stood := { row := pathEntersRow, standIns := [], harness := (true, "a9b44f7f579bb06e0e33ebffb0468da60b79a7693d93326aaa290a98137f31e2"), looks := false }, kinds := [], alts := [], laidByText := true, laidKinds := [.data, .data, .data, .data], laidTests := true, laidLooks := .later }
def PathEntersCardSaid : Prop := Claim7.holds Tryz.pinned (.plain (OpenSpec.ofChange pathEntersSpec)) pathEntersCard

/-- THE TIED CARD OF 'engrosserlaw21.PathReads'. -/
def pathReadsCard : Claim7 := { stood := { row := pathReadsRow, standIns := [], harness := (true, "a9b44f7f579bb06e0e33ebffb0468da60b79a7693d93326aaa290a98137f31e2"), looks := false }, kinds := [], alts := [], laidByText := true, laidKinds := [.data, .data, .data, .data], laidTests := true, laidLooks := .later }
def PathReadsCardSaid : Prop := Claim7.holds Tryz.pinned (.plain (OpenSpec.ofChange pathReadsSpec)) pathReadsCard

/-- THE SECOND FORM's CARD OF 'engrosserlaw21.PathMakes'. -/
def pathMakesUptoCard : Claim7 := { stood := { row := pathMakesUptoRow, standIns := [], harness := (true, "a9b44f7f579bb06e0e33ebffb0468da60b79a7693d93326aaa290a98137f31e2"), looks := false }, kinds := [], alts := [], laidByText := true, laidKinds := [.data, .data, .data, .data], laidTests := true, laidLooks := .later }
def PathMakesUptoCardSaid : Prop := Claim7.holds Tryz.pinned (.plain (OpenSpec.upto pathMakesSpec)) pathMakesUptoCard

/-- THE SECOND FORM's CARD OF 'engrosserlaw21.PathApplies'. -/
def pathAppliesUptoCard : Claim7 := { stood := { row := pathAppliesUptoRow, standIns := [], harness := (true, "a9b44f7f579bb06e0e33ebffb0468da60b79a7693d93326aaa290a98137f31e2"), looks := false }, kinds := [], alts := [], laidByText := true, laidKinds := [.data, .data, .data, .data], laidTests := true, laidLooks := .later }
def PathAppliesUptoCardSaid : Prop := Claim7.holds Tryz.pinned (.plain (OpenSpec.upto pathAppliesSpec)) pathAppliesUptoCard

/-- THE SECOND FORM's CARD OF 'engrosserlaw21.PathLearns'. -/
def pathLearnsUptoCard : Claim7 := { stood := { row := pathLearnsUptoRow, standIns := [], harness := (true, "a9b44f7f579bb06e0e33ebffb0468da60b79a7693d93326aaa290a98137f31e2"), looks := false }, kinds := [], alts := [], laidByText := true, laidKinds := [.data, .data, .data, .data], laidTests := true, laidLooks := .later }
def PathLearnsUptoCardSaid : Prop := Claim7.holds Tryz.pinned (.plain (OpenSpec.upto pathLearnsSpec)) pathLearnsUptoCard

/-- THE SECOND FORM's CARD OF 'engrosserlaw21.PathEnters'. -/
def pathEntersUptoCard : Claim7 := { stood := { row := pathEntersUptoRow, standIns := [], harness := (true, "a9b44f7f579bb06e0e33ebffb0468da60b79a7693d93326aaa290a98137f31e2"), looks := false }, kinds := [], alts := [], laidByText := true, laidKinds := [.data, .data, .data, .data], laidTests := true, laidLooks := .later }
def PathEntersUptoCardSaid : Prop := Claim7.holds Tryz.pinned (.plain (OpenSpec.upto pathEntersSpec)) pathEntersUptoCard

/-- THE SECOND FORM's CARD OF 'engrosserlaw21.PathReads'. -/
def pathReadsUptoCard : Claim7 := { stood := { row := pathReadsUptoRow, standIns := [], harness := (true, "a9b44f7f579bb06e0e33ebffb0468da60b79a7693d93326aaa290a98137f31e2"), looks := false }, kinds := [], alts := [], laidByText := true, laidKinds := [.data, .data, .data, .data], laidTests := true, laidLooks := .later }
def PathReadsUptoCardSaid : Prop := Claim7.holds Tryz.pinned (.plain (OpenSpec.upto pathReadsSpec)) pathReadsUptoCard
end Rows
end Go.Proofs.YtbiefppedlodiaaGreatDoor
