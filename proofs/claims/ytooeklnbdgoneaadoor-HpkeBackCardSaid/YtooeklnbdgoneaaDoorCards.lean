/-
  DERIVED. GIVEN WITH THE SEED: THE CARDS: each row of YtooeklnbdgoneaaDoorRows.lean that lists a variable, with what it lists TIED to the program's text (the seventh form; the later family's looks); each row that meets fmt, with fmt's text TOLD by the authors' own Lean function (tested against real Go, not proved from fmt's source: count such statements apart). THE CARD IS WHAT COUNTS. Prove the row's statement (the work); the ties are given (YtooeklnbdgoneaaDoorTie.lean); close each card by the builder's one call (the guide's Derived/Test/ToyasCard.lean, 'card_holds'). Laid BY PROGRAM, IN A SANDBOX (cutbox-door.mjs). By AI agents, Wed Nov 11 2026. No macro, syntax, notation, axiom, sorry.
-/
import Derived.Test.YtooeklnbdgoneaaDoorRows
import GoSem.ClaimSeven
namespace Go.Proofs.YtooeklnbdgoneaaDoor
namespace Rows

/-- THE TIED CARD OF 'engrosserlaw03.MacNoughts'. -/
def macNoughtsCard : Claim7 := { stood := { row := macNoughtsRow, standIns := [], harness := (true, "4cd6ef0ec7a88d19fd7ad53a31dc0230b83fb27ded2758d110cdf5b926694db9"), looks := false }, kinds := [], alts := [], laidByText := true, laidKinds := [.data, .data], laidTests := true, laidLooks := .later }
def MacNoughtsCardSaid : Prop := Claim7.holds Tryd.pinned (.plain (OpenSpec.ofChange macNoughtsSpec)) macNoughtsCard

/-- THE TIED CARD OF 'engrosserlaw17.VaultWraps'. -/
def vaultWrapsCard : Claim7 := { stood := { row := vaultWrapsRow, standIns := [], harness := (true, "4cd6ef0ec7a88d19fd7ad53a31dc0230b83fb27ded2758d110cdf5b926694db9"), looks := false }, kinds := [], alts := [], laidByText := true, laidKinds := [.data, .data], laidTests := true, laidLooks := .later }
def VaultWrapsCardSaid : Prop := Claim7.holds Tryd.pinned (.plain (OpenSpec.ofChange vaultWrapsSpec)) vaultWrapsCard

/-- THE TIED CARD OF 'engrosserlaw17.VaultUnwraps'. -/
def vaultUnwrapsCard : Claim7 := { stood := { row := vaultUnwrapsRow, standIns := [], harness := (true, "4cd6ef0ec7a88d19fd7ad53a31dc0230b83fb27ded2758d110cdf5b926694db9"), looks := false }, kinds := [], alts := [], laidByText := true, laidKinds := [.data, .data], laidTests := true, laidLooks := .later }
def VaultUnwrapsCardSaid : Prop := Claim7.holds Tryd.pinned (.plain (OpenSpec.ofChange vaultUnwrapsSpec)) vaultUnwrapsCard

/-- THE TIED CARD OF 'engrosserlaw17.VaultContexts'. -/
def vaultContextsCard : Claim7 := { stood := { row := vaultContextsRow, standIns := [], harness := (true, "4cd6ef0ec7a88d19fd7ad53a31dc0230b83fb27ded2758d110cdf5b926694db9"), looks := false }, kinds := [], alts := [], laidByText := true, laidKinds := [.data, .data], laidTests := true, laidLooks := .later }
def VaultContextsCardSaid : Prop := Claim7.holds Tryd.pinned (.plain (OpenSpec.ofChange vaultContextsSpec)) vaultContextsCard

/-- THE TIED CARD OF 'engrosserlaw08.HpkeSeals'. -/
def hpkeSealsCard : Claim7 := { stood := { row := hpkeSealsRow, standIns := [], harness := (true, "4cd6ef0ec7a88d19fd7ad53a31dc0230b83fb27ded2758d110cdf5b926694db9"), looks := false }, kinds := [], alts := [], laidByText := true, laidKinds := [.data, .data], laidTests := true, laidLooks := .later }
def HpkeSealsCardSaid : Prop := Claim7.holds Tryd.pinned (.plain (OpenSpec.ofChange hpkeSealsSpec)) hpkeSealsCard

/-- THE TIED CARD OF 'engrosserlaw08.HpkeOpens'. -/
def hpkeOpensCard : Claim7 := { stood := { row := hpkeOpensRow, standIns := [], harness := (true, "4cd6ef0ec7a88d19fd7ad53a31dc0230b83fb27ded2758d110cdf5b926694db9"), looks := false }, kinds := [], alts := [], laidByText := true, laidKinds := [.data, .data], laidTests := true, laidLooks := .later }
def HpkeOpensCardSaid : Prop := Claim7.holds Tryd.pinned (.plain (OpenSpec.ofChange hpkeOpensSpec)) hpkeOpensCard

/-- THE TIED CARD OF 'engrosserlaw08.HpkeBack'. -/
def hpkeBackCard : Claim7 := { stood := { row := hpkeBackRow, standIns := [], harness := (true, "4cd6ef0ec7a88d19fd7ad53a31dc0230b83fb27ded2758d110cdf5b926694db9"), looks := false }, kinds := [], alts := [], laidByText := true, laidKinds := [.data, .data], laidTests := true, laidLooks := .later }
def HpkeBackCardSaid : Prop := Claim7.holds Tryd.pinned (.plain (OpenSpec.ofChange hpkeBackSpec)) hpkeBackCard

/-- THE TIED CARD OF 'engrosserlaw08.HpkeReads'. -/
def hpkeReadsCard : Claim7 := { stood := { row := hpkeReadsRow, standIns := [], harness := (true, "4cd6ef0ec7a88d19fd7ad53a31dc0230b83fb27ded2758d110cdf5b926694db9"), looks := false }, kinds := [], alts := [], laidByText := true, laidKinds := [.data, .data], laidTests := true, laidLooks := .later }
def HpkeReadsCardSaid : Prop := Claim7.holds Tryd.pinned (.plain (OpenSpec.ofChange hpkeReadsSpec)) hpkeReadsCard

/-- THE SECOND FORM's CARD OF 'engrosserlaw03.MacNoughts'. -/
def macNoughtsUptoCard : Claim7 := { stood := { row := macNoughtsUptoRow, standIns := [], harness := (true, "4cd6ef0ec7a88d19fd7ad53a31dc0230b83fb27ded2758d110cdf5b926694db9"), looks := false }, kinds := [], alts := [], laidByText := true, laidKinds := [.data, .data], laidTests := true, laidLooks := .later }
def MacNoughtsUptoCardSaid : Prop := Claim7.holds Tryd.pinned (.plain (OpenSpec.upto macNoughtsSpec)) macNoughtsUptoCard

/-- THE SECOND FORM's CARD OF 'engrosserlaw17.VaultWraps'. -/
def vaultWrapsUptoCard : Claim7 := { stood := { row := vaultWrapsUptoRow, standIns := [], harness := (true, "4cd6ef0ec7a88d19fd7ad53a31dc0230b83fb27ded2758d110cdf5b926694db9"), looks := false }, kinds := [], alts := [], laidByText := true, laidKinds := [.data, .data], laidTests := true, laidLooks := .later }
def VaultWrapsUptoCardSaid : Prop := Claim7.holds Tryd.pinned (.plain (OpenSpec.upto vaultWrapsSpec)) vaultWrapsUptoCard

/-- THE SECOND FORM's CARD OF 'engrosserlaw17.VaultUnwraps'. -/
def vaultUnwrapsUptoCard : Claim7 := { stood := { row := vaultUnwrapsUptoRow, standIns := [], harness := (true, "4cd6ef0ec7a88d19fd7ad53a31dc0230b83fb27ded2758d110cdf5b926694db9"), looks := false }, kinds := [], alts := [], laidByText := true, laidKinds := [.data, .data], laidTests := true, laidLooks := .later }
def VaultUnwrapsUptoCardSaid : Prop := Claim7.holds Tryd.pinned (.plain (OpenSpec.upto vaultUnwrapsSpec)) vaultUnwrapsUptoCard

/-- THE SECOND FORM's CARD OF 'engrosserlaw17.VaultContexts'. -/
def vaultContextsUptoCard : Claim7 := { stood := { row := vaultContextsUptoRow, standIns := [], harness := (true, "4cd6ef0ec7a88d19fd7ad53a31dc0230b83fb27ded2758d110cdf5b926694db9"), looks := false }, kinds := [], alts := [], laidByText := true, laidKinds := [.data, .data], laidTests := true, laidLooks := .later }
def VaultContextsUptoCardSaid : Prop := Claim7.holds Tryd.pinned (.plain (OpenSpec.upto vaultContextsSpec)) vaultContextsUptoCard

/-- THE SECOND FORM's CARD OF 'engrosserlaw08.HpkeSeals'. -/
def hpkeSealsUptoCard : Claim7 := { stood := { row := hpkeSealsUptoRow, standIns := [], harness := (true, "4cd6ef0ec7a88d19fd7ad53a31dc0230b83fb27ded2758d110cdf5b926694db9"), looks := false }, kinds := [], alts := [], laidByText := true, laidKinds := [.data, .data], laidTests := true, laidLooks := .later }
def HpkeSealsUptoCardSaid : Prop := Claim7.holds Tryd.pinned (.plain (OpenSpec.upto hpkeSealsSpec)) hpkeSealsUptoCard

/-- THE SECOND FORM's CARD OF 'engrosserlaw08.HpkeOpens'. -/
def hpkeOpensUptoCard : Claim7 := { stood := { row := hpkeOpensUptoRow, standIns := [], harness := (true, "4cd6ef0ec7a88d19fd7ad53a31dc0230b83fb27ded2758d110cdf5b926694db9"), looks := false }, kinds := [], alts := [], laidByText := true, laidKinds := [.data, .data], laidTests := true, laidLooks := .later }
def HpkeOpensUptoCardSaid : Prop := Claim7.holds Tryd.pinned (.plain (OpenSpec.upto hpkeOpensSpec)) hpkeOpensUptoCard

/-- THE SECOND FORM's CARD OF 'engrosserlaw08.HpkeBack'. -/
def hpkeBackUptoCard : Claim7 := { stood := { row := hpkeBackUptoRow, standIns := [], harness := (true, "4cd6ef0ec7a88d19fd7ad53a31dc0230b83fb27ded2758d110cdf5b926694db9"), looks := false }, kinds := [], alts := [], laidByText := true, laidKinds := [.data, .data], laidTests := true, laidLooks := .later }
def HpkeBackUptoCardSaid : Prop := Claim7.holds Tryd.pinned (.plain (OpenSpec.upto hpkeBackSpec)) hpkeBackUptoCard

/-- THE SECOND FORM's CARD OF 'engrosserlaw08.HpkeReads'. -/
def hpkeReadsUptoCard : Claim7 := { stood := { row := hpkeReadsUptoRow, standIns := [], harness := (true, "4cd6ef0ec7a88d19fd7ad53a31dc0230b83fb27ded2758d110cdf5b926694db9"), looks := false }, kinds := [], alts := [], laidByText := true, laidKinds := [.data, .data], laidTests := true, laidLooks := .later }
def HpkeReadsUptoCardSaid : Prop := Claim7.holds Tryd.pinned (.plain (OpenSpec.upto hpkeReadsSpec)) hpkeReadsUptoCard
end Rows
end Go.Proofs.YtooeklnbdgoneaaDoor
