/-
  DERIVED. GIVEN WITH THE SEED: THE CARDS: each row of YtpakgjmcaefnmaaDoorRows.lean that lists a variable, with what it lists TIED to the program's text (the seventh form; the later family's looks); each row that meets fmt, with fmt's text TOLD by the authors' own Lean function (tested against real Go, not proved from fmt's source: count such statements apart). THE CARD IS WHAT COUNTS. Prove the row's statement (the work); the ties are given (YtpakgjmcaefnmaaDoorTie.lean); close each card by the builder's one call (the guide's Derived/Test/ToyasCard.lean, 'card_holds'). Laid BY PROGRAM, IN A SANDBOX (cutbox-door.mjs). By AI agents, Wed Nov 11 2026. No macro, syntax, notation, axiom, sorry.
-/
import Derived.Test.YtpakgjmcaefnmaaDoorRows
import GoSem.ClaimSeven
namespace Go.Proofs.YtpakgjmcaefnmaaDoor
namespace Rows

/-- THE TIED CARD OF 'engrosserlaw02.ShaSums'. -/
def shaSumsCard : Claim7 := { stood := { row := shaSumsRow, standIns := [], harness := (true, "573f3079b42056c8b040f26dc05d21bb88f1517e8ad8dabbbd89ff7d85d817d6"), looks := false }, kinds := [], alts := [], laidByText := true, laidKinds := [.data, .data], laidTests := true, laidLooks := .later }
def ShaSumsCardSaid : Prop := Claim7.holds Tryd.pinned (.plain (OpenSpec.ofChange shaSumsSpec)) shaSumsCard

/-- THE TIED CARD OF 'engrosserlaw02.ShaParts'. -/
def shaPartsCard : Claim7 := { stood := { row := shaPartsRow, standIns := [], harness := (true, "573f3079b42056c8b040f26dc05d21bb88f1517e8ad8dabbbd89ff7d85d817d6"), looks := false }, kinds := [], alts := [], laidByText := true, laidKinds := [.data, .data], laidTests := true, laidLooks := .later }
def ShaPartsCardSaid : Prop := Claim7.holds Tryd.pinned (.plain (OpenSpec.ofChange shaPartsSpec)) shaPartsCard

/-- THE TIED CARD OF 'engrosserlaw02.ShaLengths'. -/
def shaLengthsCard : Claim7 := { stood := { row := shaLengthsRow, standIns := [], harness := (true, "573f3079b42056c8b040f26dc05d21bb88f1517e8ad8dabbbd89ff7d85d817d6"), looks := false }, kinds := [], alts := [], laidByText := true, laidKinds := [.data, .data], laidTests := true, laidLooks := .later }
def ShaLengthsCardSaid : Prop := Claim7.holds Tryd.pinned (.plain (OpenSpec.ofChange shaLengthsSpec)) shaLengthsCard

/-- THE TIED CARD OF 'engrosserlaw03.MacTags'. -/
def macTagsCard : Claim7 := { stood := { row := macTagsRow, standIns := [], harness := (true, "573f3079b42056c8b040f26dc05d21bb88f1517e8ad8dabbbd89ff7d85d817d6"), looks := false }, kinds := [], alts := [], laidByText := true, laidKinds := [.data, .data], laidTests := true, laidLooks := .later }
def MacTagsCardSaid : Prop := Claim7.holds Tryd.pinned (.plain (OpenSpec.ofChange macTagsSpec)) macTagsCard

/-- THE TIED CARD OF 'engrosserlaw03.MacNoughts'. -/
def macNoughtsCard : Claim7 := { stood := { row := macNoughtsRow, standIns := [], harness := (true, "573f3079b42056c8b040f26dc05d21bb88f1517e8ad8dabbbd89ff7d85d817d6"), looks := false }, kinds := [], alts := [], laidByText := true, laidKinds := [.data, .data], laidTests := true, laidLooks := .later }
def MacNoughtsCardSaid : Prop := Claim7.holds Tryd.pinned (.plain (OpenSpec.ofChange macNoughtsSpec)) macNoughtsCard

/-- THE TIED CARD OF 'engrosserlaw03.MacSames'. -/
def macSamesCard : Claim7 := { stood := { row := macSamesRow, standIns := [], harness := (true, "573f3079b42056c8b040f26dc05d21bb88f1517e8ad8dabbbd89ff7d85d817d6"), looks := false }, kinds := [], alts := [], laidByText := true, laidKinds := [.data, .data], laidTests := true, laidLooks := .later }
def MacSamesCardSaid : Prop := Claim7.holds Tryd.pinned (.plain (OpenSpec.ofChange macSamesSpec)) macSamesCard

/-- THE TIED CARD OF 'engrosserlaw04.KdfExpands'. -/
def kdfExpandsCard : Claim7 := { stood := { row := kdfExpandsRow, standIns := [], harness := (true, "573f3079b42056c8b040f26dc05d21bb88f1517e8ad8dabbbd89ff7d85d817d6"), looks := false }, kinds := [], alts := [], laidByText := true, laidKinds := [.data, .data], laidTests := true, laidLooks := .later }
def KdfExpandsCardSaid : Prop := Claim7.holds Tryd.pinned (.plain (OpenSpec.ofChange kdfExpandsSpec)) kdfExpandsCard

/-- THE TIED CARD OF 'engrosserlaw04.KdfPrefixes'. -/
def kdfPrefixesCard : Claim7 := { stood := { row := kdfPrefixesRow, standIns := [], harness := (true, "573f3079b42056c8b040f26dc05d21bb88f1517e8ad8dabbbd89ff7d85d817d6"), looks := false }, kinds := [], alts := [], laidByText := true, laidKinds := [.data, .data], laidTests := true, laidLooks := .later }
def KdfPrefixesCardSaid : Prop := Claim7.holds Tryd.pinned (.plain (OpenSpec.ofChange kdfPrefixesSpec)) kdfPrefixesCard

/-- THE TIED CARD OF 'engrosserlaw04.KdfLabels'. -/
def kdfLabelsCard : Claim7 := { stood := { row := kdfLabelsRow, standIns := [], harness := (true, "573f3079b42056c8b040f26dc05d21bb88f1517e8ad8dabbbd89ff7d85d817d6"), looks := false }, kinds := [], alts := [], laidByText := true, laidKinds := [.data, .data], laidTests := true, laidLooks := .later }
def KdfLabelsCardSaid : Prop := Claim7.holds Tryd.pinned (.plain (OpenSpec.ofChange kdfLabelsSpec)) kdfLabelsCard

/-- THE TIED CARD OF 'engrosserlaw22.ScheduleSecrets'. -/
def scheduleSecretsCard : Claim7 := { stood := { row := scheduleSecretsRow, standIns := [], harness := (true, "573f3079b42056c8b040f26dc05d21bb88f1517e8ad8dabbbd89ff7d85d817d6"), looks := false }, kinds := [], alts := [], laidByText := true, laidKinds := [.data, .data], laidTests := true, laidLooks := .later }
def ScheduleSecretsCardSaid : Prop := Claim7.holds Tryd.pinned (.plain (OpenSpec.ofChange scheduleSecretsSpec)) scheduleSecretsCard

/-- THE TIED CARD OF 'engrosserlaw22.ScheduleSames'. -/
def scheduleSamesCard : Claim7 := { stood := { row := scheduleSamesRow, standIns := [], harness := (true, "573f3079b42056c8b040f26dc05d21bb88f1517e8ad8dabbbd89ff7d85d817d6"), looks := false }, kinds := [], alts := [], laidByText := true, laidKinds := [.data, .data], laidTests := true, laidLooks := .later }
def ScheduleSamesCardSaid : Prop := Claim7.holds Tryd.pinned (.plain (OpenSpec.ofChange scheduleSamesSpec)) scheduleSamesCard

/-- THE TIED CARD OF 'engrosserlaw22.ScheduleExports'. -/
def scheduleExportsCard : Claim7 := { stood := { row := scheduleExportsRow, standIns := [], harness := (true, "573f3079b42056c8b040f26dc05d21bb88f1517e8ad8dabbbd89ff7d85d817d6"), looks := false }, kinds := [], alts := [], laidByText := true, laidKinds := [.data, .data], laidTests := true, laidLooks := .later }
def ScheduleExportsCardSaid : Prop := Claim7.holds Tryd.pinned (.plain (OpenSpec.ofChange scheduleExportsSpec)) scheduleExportsCard

/-- THE TIED CARD OF 'engrosserlaw19.NodeHashes'. -/
def nodeHashesCard : Claim7 := { stood := { row := nodeHashesRow, standIns := [], harness := (true, "573f3079b42056c8b040f26dc05d21bb88f1517e8ad8dabbbd89ff7d85d817d6"), looks := false }, kinds := [], alts := [], laidByText := true, laidKinds := [.data, .data], laidTests := true, laidLooks := .later }
def NodeHashesCardSaid : Prop := Claim7.holds Tryd.pinned (.plain (OpenSpec.ofChange nodeHashesSpec)) nodeHashesCard

/-- THE TIED CARD OF 'engrosserlaw12.RecordSames'. -/
def recordSamesCard : Claim7 := { stood := { row := recordSamesRow, standIns := [], harness := (true, "573f3079b42056c8b040f26dc05d21bb88f1517e8ad8dabbbd89ff7d85d817d6"), looks := false }, kinds := [], alts := [], laidByText := true, laidKinds := [.data, .data], laidTests := true, laidLooks := .later }
def RecordSamesCardSaid : Prop := Claim7.holds Tryd.pinned (.plain (OpenSpec.ofChange recordSamesSpec)) recordSamesCard

/-- THE TIED CARD OF 'engrosserlaw07.PowerKeys'. -/
def powerKeysCard : Claim7 := { stood := { row := powerKeysRow, standIns := [], harness := (true, "573f3079b42056c8b040f26dc05d21bb88f1517e8ad8dabbbd89ff7d85d817d6"), looks := false }, kinds := [], alts := [], laidByText := true, laidKinds := [.data, .data], laidTests := true, laidLooks := .later }
def PowerKeysCardSaid : Prop := Claim7.holds Tryd.pinned (.plain (OpenSpec.ofChange powerKeysSpec)) powerKeysCard

/-- THE TIED CARD OF 'engrosserlaw07.PowerShares'. -/
def powerSharesCard : Claim7 := { stood := { row := powerSharesRow, standIns := [], harness := (true, "573f3079b42056c8b040f26dc05d21bb88f1517e8ad8dabbbd89ff7d85d817d6"), looks := false }, kinds := [], alts := [], laidByText := true, laidKinds := [.data, .data], laidTests := true, laidLooks := .later }
def PowerSharesCardSaid : Prop := Claim7.holds Tryd.pinned (.plain (OpenSpec.ofChange powerSharesSpec)) powerSharesCard

/-- THE TIED CARD OF 'engrosserlaw06.SealMakes'. -/
def sealMakesCard : Claim7 := { stood := { row := sealMakesRow, standIns := [], harness := (true, "573f3079b42056c8b040f26dc05d21bb88f1517e8ad8dabbbd89ff7d85d817d6"), looks := false }, kinds := [], alts := [], laidByText := true, laidKinds := [.data, .data], laidTests := true, laidLooks := .later }
def SealMakesCardSaid : Prop := Claim7.holds Tryd.pinned (.plain (OpenSpec.ofChange sealMakesSpec)) sealMakesCard

/-- THE TIED CARD OF 'engrosserlaw06.SealOpens'. -/
def sealOpensCard : Claim7 := { stood := { row := sealOpensRow, standIns := [], harness := (true, "573f3079b42056c8b040f26dc05d21bb88f1517e8ad8dabbbd89ff7d85d817d6"), looks := false }, kinds := [], alts := [], laidByText := true, laidKinds := [.data, .data], laidTests := true, laidLooks := .later }
def SealOpensCardSaid : Prop := Claim7.holds Tryd.pinned (.plain (OpenSpec.ofChange sealOpensSpec)) sealOpensCard

/-- THE TIED CARD OF 'engrosserlaw06.SealTurned'. -/
def sealTurnedCard : Claim7 := { stood := { row := sealTurnedRow, standIns := [], harness := (true, "573f3079b42056c8b040f26dc05d21bb88f1517e8ad8dabbbd89ff7d85d817d6"), looks := false }, kinds := [], alts := [], laidByText := true, laidKinds := [.data, .data], laidTests := true, laidLooks := .later }
def SealTurnedCardSaid : Prop := Claim7.holds Tryd.pinned (.plain (OpenSpec.ofChange sealTurnedSpec)) sealTurnedCard

/-- THE SECOND FORM's CARD OF 'engrosserlaw02.ShaSums'. -/
def shaSumsUptoCard : Claim7 := { stood := { row := shaSumsUptoRow, standIns := [], harness := (true, "573f3079b42056c8b040f26dc05d21bb88f1517e8ad8dabbbd89ff7d85d817d6"), looks := false }, kinds := [], alts := [], laidByText := true, laidKinds := [.data, .data], laidTests := true, laidLooks := .later }
def ShaSumsUptoCardSaid : Prop := Claim7.holds Tryd.pinned (.plain (OpenSpec.upto shaSumsSpec)) shaSumsUptoCard

/-- THE SECOND FORM's CARD OF 'engrosserlaw02.ShaParts'. -/
def shaPartsUptoCard : Claim7 := { stood := { row := shaPartsUptoRow, standIns := [], harness := (true, "573f3079b42056c8b040f26dc05d21bb88f1517e8ad8dabbbd89ff7d85d817d6"), looks := false }, kinds := [], alts := [], laidByText := true, laidKinds := [.data, .data], laidTests := true, laidLooks := .later }
def ShaPartsUptoCardSaid : Prop := Claim7.holds Tryd.pinned (.plain (OpenSpec.upto shaPartsSpec)) shaPartsUptoCard

/-- THE SECOND FORM's CARD OF 'engrosserlaw02.ShaLengths'. -/
def shaLengthsUptoCard : Claim7 := { stood := { row := shaLengthsUptoRow, standIns := [], harness := (true, "573f3079b42056c8b040f26dc05d21bb88f1517e8ad8dabbbd89ff7d85d817d6"), looks := false }, kinds := [], alts := [], laidByText := true, laidKinds := [.data, .data], laidTests := true, laidLooks := .later }
def ShaLengthsUptoCardSaid : Prop := Claim7.holds Tryd.pinned (.plain (OpenSpec.upto shaLengthsSpec)) shaLengthsUptoCard

/-- THE SECOND FORM's CARD OF 'engrosserlaw03.MacTags'. -/
def macTagsUptoCard : Claim7 := { stood := { row := macTagsUptoRow, standIns := [], harness := (true, "573f3079b42056c8b040f26dc05d21bb88f1517e8ad8dabbbd89ff7d85d817d6"), looks := false }, kinds := [], alts := [], laidByText := true, laidKinds := [.data, .data], laidTests := true, laidLooks := .later }
def MacTagsUptoCardSaid : Prop := Claim7.holds Tryd.pinned (.plain (OpenSpec.upto macTagsSpec)) macTagsUptoCard

/-- THE SECOND FORM's CARD OF 'engrosserlaw03.MacNoughts'. -/
def macNoughtsUptoCard : Claim7 := { stood := { row := macNoughtsUptoRow, standIns := [], harness := (true, "573f3079b42056c8b040f26dc05d21bb88f1517e8ad8dabbbd89ff7d85d817d6"), looks := false }, kinds := [], alts := [], laidByText := true, laidKinds := [.data, .data], laidTests := true, laidLooks := .later }
def MacNoughtsUptoCardSaid : Prop := Claim7.holds Tryd.pinned (.plain (OpenSpec.upto macNoughtsSpec)) macNoughtsUptoCard

/-- THE SECOND FORM's CARD OF 'engrosserlaw03.MacSames'. -/
def macSamesUptoCard : Claim7 := { stood := { row := macSamesUptoRow, standIns := [], harness := (true, "573f3079b42056c8b040f26dc05d21bb88f1517e8ad8dabbbd89ff7d85d817d6"), looks := false }, kinds := [], alts := [], laidByText := true, laidKinds := [.data, .data], laidTests := true, laidLooks := .later }
def MacSamesUptoCardSaid : Prop := Claim7.holds Tryd.pinned (.plain (OpenSpec.upto macSamesSpec)) macSamesUptoCard

/-- THE SECOND FORM's CARD OF 'engrosserlaw04.KdfExpands'. -/
def kdfExpandsUptoCard : Claim7 := { stood := { row := kdfExpandsUptoRow, standIns := [], harness := (true, "573f3079b42056c8b040f26dc05d21bb88f1517e8ad8dabbbd89ff7d85d817d6"), looks := false }, kinds := [], alts := [], laidByText := true, laidKinds := [.data, .data], laidTests := true, laidLooks := .later }
def KdfExpandsUptoCardSaid : Prop := Claim7.holds Tryd.pinned (.plain (OpenSpec.upto kdfExpandsSpec)) kdfExpandsUptoCard

/-- THE SECOND FORM's CARD OF 'engrosserlaw04.KdfPrefixes'. -/
def kdfPrefixesUptoCard : Claim7 := { stood := { row := kdfPrefixesUptoRow, standIns := [], harness := (true, "573f3079b42056c8b040f26dc05d21bb88f1517e8ad8dabbbd89ff7d85d817d6"), looks := false }, kinds := [], alts := [], laidByText := true, laidKinds := [.data, .data], laidTests := true, laidLooks := .later }
def KdfPrefixesUptoCardSaid : Prop := Claim7.holds Tryd.pinned (.plain (OpenSpec.upto kdfPrefixesSpec)) kdfPrefixesUptoCard

/-- THE SECOND FORM's CARD OF 'engrosserlaw04.KdfLabels'. -/
def kdfLabelsUptoCard : Claim7 := { stood := { row := kdfLabelsUptoRow, standIns := [], harness := (true, "573f3079b42056c8b040f26dc05d21bb88f1517e8ad8dabbbd89ff7d85d817d6"), looks := false }, kinds := [], alts := [], laidByText := true, laidKinds := [.data, .data], laidTests := true, laidLooks := .later }
def KdfLabelsUptoCardSaid : Prop := Claim7.holds Tryd.pinned (.plain (OpenSpec.upto kdfLabelsSpec)) kdfLabelsUptoCard

/-- THE SECOND FORM's CARD OF 'engrosserlaw22.ScheduleSecrets'. -/
def scheduleSecretsUptoCard : Claim7 := { stood := { row := scheduleSecretsUptoRow, standIns := [], harness := (true, "573f3079b42056c8b040f26dc05d21bb88f1517e8ad8dabbbd89ff7d85d817d6"), looks := false }, kinds := [], alts := [], laidByText := true, laidKinds := [.data, .data], laidTests := true, laidLooks := .later }
def ScheduleSecretsUptoCardSaid : Prop := Claim7.holds Tryd.pinned (.plain (OpenSpec.upto scheduleSecretsSpec)) scheduleSecretsUptoCard

/-- THE SECOND FORM's CARD OF 'engrosserlaw22.ScheduleSames'. -/
def scheduleSamesUptoCard : Claim7 := { stood := { row := scheduleSamesUptoRow, standIns := [], harness := (true, "573f3079b42056c8b040f26dc05d21bb88f1517e8ad8dabbbd89ff7d85d817d6"), looks := false }, kinds := [], alts := [], laidByText := true, laidKinds := [.data, .data], laidTests := true, laidLooks := .later }
def ScheduleSamesUptoCardSaid : Prop := Claim7.holds Tryd.pinned (.plain (OpenSpec.upto scheduleSamesSpec)) scheduleSamesUptoCard

/-- THE SECOND FORM's CARD OF 'engrosserlaw22.ScheduleExports'. -/
def scheduleExportsUptoCard : Claim7 := { stood := { row := scheduleExportsUptoRow, standIns := [], harness := (true, "573f3079b42056c8b040f26dc05d21bb88f1517e8ad8dabbbd89ff7d85d817d6"), looks := false }, kinds := [], alts := [], laidByText := true, laidKinds := [.data, .data], laidTests := true, laidLooks := .later }
def ScheduleExportsUptoCardSaid : Prop := Claim7.holds Tryd.pinned (.plain (OpenSpec.upto scheduleExportsSpec)) scheduleExportsUptoCard

/-- THE SECOND FORM's CARD OF 'engrosserlaw19.NodeHashes'. -/
def nodeHashesUptoCard : Claim7 := { stood := { row := nodeHashesUptoRow, standIns := [], harness := (true, "573f3079b42056c8b040f26dc05d21bb88f1517e8ad8dabbbd89ff7d85d817d6"), looks := false }, kinds := [], alts := [], laidByText := true, laidKinds := [.data, .data], laidTests := true, laidLooks := .later }
def NodeHashesUptoCardSaid : Prop := Claim7.holds Tryd.pinned (.plain (OpenSpec.upto nodeHashesSpec)) nodeHashesUptoCard

/-- THE SECOND FORM's CARD OF 'engrosserlaw12.RecordSames'. -/
def recordSamesUptoCard : Claim7 := { stood := { row := recordSamesUptoRow, standIns := [], harness := (true, "573f3079b42056c8b040f26dc05d21bb88f1517e8ad8dabbbd89ff7d85d817d6"), looks := false }, kinds := [], alts := [], laidByText := true, laidKinds := [.data, .data], laidTests := true, laidLooks := .later }
def RecordSamesUptoCardSaid : Prop := Claim7.holds Tryd.pinned (.plain (OpenSpec.upto recordSamesSpec)) recordSamesUptoCard

/-- THE SECOND FORM's CARD OF 'engrosserlaw07.PowerKeys'. -/
def powerKeysUptoCard : Claim7 := { stood := { row := powerKeysUptoRow, standIns := [], harness := (true, "573f3079b42056c8b040f26dc05d21bb88f1517e8ad8dabbbd89ff7d85d817d6"), looks := false }, kinds := [], alts := [], laidByText := true, laidKinds := [.data, .data], laidTests := true, laidLooks := .later }
def PowerKeysUptoCardSaid : Prop := Claim7.holds Tryd.pinned (.plain (OpenSpec.upto powerKeysSpec)) powerKeysUptoCard

/-- THE SECOND FORM's CARD OF 'engrosserlaw07.PowerShares'. -/
def powerSharesUptoCard : Claim7 := { stood := { row := powerSharesUptoRow, standIns := [], harness := (true, "573f3079b42056c8b040f26dc05d21bb88f1517e8ad8dabbbd89ff7d85d817d6"), looks := false }, kinds := [], alts := [], laidByText := true, laidKinds := [.data, .data], laidTests := true, laidLooks := .later }
def PowerSharesUptoCardSaid : Prop := Claim7.holds Tryd.pinned (.plain (OpenSpec.upto powerSharesSpec)) powerSharesUptoCard

/-- THE SECOND FORM's CARD OF 'engrosserlaw06.SealMakes'. -/
def sealMakesUptoCard : Claim7 := { stood := { row := sealMakesUptoRow, standIns := [], harness := (true, "573f3079b42056c8b040f26dc05d21bb88f1517e8ad8dabbbd89ff7d85d817d6"), looks := false }, kinds := [], alts := [], laidByText := true, laidKinds := [.data, .data], laidTests := true, laidLooks := .later }
def SealMakesUptoCardSaid : Prop := Claim7.holds Tryd.pinned (.plain (OpenSpec.upto sealMakesSpec)) sealMakesUptoCard

/-- THE SECOND FORM's CARD OF 'engrosserlaw06.SealOpens'. -/
def sealOpensUptoCard : Claim7 := { stood := { row := sealOpensUptoRow, standIns := [], harness := (true, "573f3079b42056c8b040f26dc05d21bb88f1517e8ad8dabbbd89ff7d85d817d6"), looks := false }, kinds := [], alts := [], laidByText := true, laidKinds := [.data, .data], laidTests := true, laidLooks := .later }
def SealOpensUptoCardSaid : Prop := Claim7.holds Tryd.pinned (.plain (OpenSpec.upto sealOpensSpec)) sealOpensUptoCard

/-- THE SECOND FORM's CARD OF 'engrosserlaw06.SealTurned'. -/
def sealTurnedUptoCard : Claim7 := { stood := { row := sealTurnedUptoRow, standIns := [], harness := (true, "573f3079b42056c8b040f26dc05d21bb88f1517e8ad8dabbbd89ff7d85d817d6"), looks := false }, kinds := [], alts := [], laidByText := true, laidKinds := [.data, .data], laidTests := true, laidLooks := .later }
def SealTurnedUptoCardSaid : Prop := Claim7.holds Tryd.pinned (.plain (OpenSpec.upto sealTurnedSpec)) sealTurnedUptoCard
end Rows
end Go.Proofs.YtpakgjmcaefnmaaDoor
