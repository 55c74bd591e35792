/-
  NARROWER THAN 'FOR EVERY INPUT', by the rows' own cells (each row's printed sentence says how): ShaSums: laid · ShaParts: laid · ShaLengths: laid · MacTags: laid · MacNoughts: laid · MacSames: laid · KdfExpands: laid · KdfPrefixes: laid · KdfLabels: laid · ScheduleSecrets: laid · ScheduleSames: laid · ScheduleExports: laid · NodeHashes: laid · RecordSames: laid · PowerKeys: laid · PowerShares: laid · SealMakes: laid · SealOpens: laid · SealTurned: laid.
  DERIVED. THE GIVEN ROWS OF THIS SEAT. 19 by the template 'for every input the law returns true; each argument reads behind the call as it read before'; 0 by the template 'total and deterministic' (their statements: YtpakgjmcaefnmaaDoorTotals.lean).
  GIVEN WITH THE SEED: the statements are not yours to turn. If you find one false, say at which input.
  Laid BY PROGRAM, IN A SANDBOX (cutbox-rows.mjs): the forced cells as the released guide's own fill.sh prints them over the translation 56b64c7fad6fc452… (all of the seat's roots in one cut). By AI agents, Wed Nov 11 2026. No macro, syntax, notation, axiom, sorry.
-/
import Derived.Test.YtpakgjmcaefnmaaDoorChecked
import GoSem.Claim
import GoSem.ClaimJoined
import GoSem.ClaimMapViews
import Derived.JoinedTies
import Derived.KernelRfl
namespace Go.Proofs.YtpakgjmcaefnmaaDoor
/- THE CELL 'sum', in the pinned program and in every row, IS THE sha256 OF THE DUMP (.gsa) THAT YtpakgjmcaefnmaaDoorProg.lean LOADS. Nothing in Lean hashes anything: it is a label: what it is worth is what the hold of that sum in a sandbox is worth. -/
noncomputable def Tryd.pinned : Pinned := { name := "ytpakgjmcaefnmaadoor", sum := "56b64c7fad6fc4529f285ce969ac35295e161faa57c7637c60e526ed2a462dd3", checked := Tryd.checked }
namespace Rows
def none {H : Type} : Left H := { results := [], args := [] }

/- WHAT THE LISTED PACKAGE-LEVEL VARIABLES READ AS WHEN THE CALL BEGINS. Each datum BY PROGRAM (the guide's laid-datum.mjs) off the statement by which the dump's own 'gosem.cut.vars' lays the variable. In a bare row this is a premise. The card (YtpakgjmcaefnmaaDoorCards.lean) ties it to the program's text. -/
def laid_engrosser_sha_rounds {H : Type} : DataW H := .agg [.lit (.int .u32 1116352408), .lit (.int .u32 1899447441), .lit (.int .u32 3049323471), .lit (.int .u32 3921009573), .lit (.int .u32 961987163), .lit (.int .u32 1508970993), .lit (.int .u32 2453635748), .lit (.int .u32 2870763221), .lit (.int .u32 3624381080), .lit (.int .u32 310598401), .lit (.int .u32 607225278), .lit (.int .u32 1426881987), .lit (.int .u32 1925078388), .lit (.int .u32 2162078206), .lit (.int .u32 2614888103), .lit (.int .u32 3248222580), .lit (.int .u32 3835390401), .lit (.int .u32 4022224774), .lit (.int .u32 264347078), .lit (.int .u32 604807628), .lit (.int .u32 770255983), .lit (.int .u32 1249150122), .lit (.int .u32 1555081692), .lit (.int .u32 1996064986), .lit (.int .u32 2554220882), .lit (.int .u32 2821834349), .lit (.int .u32 2952996808), .lit (.int .u32 3210313671), .lit (.int .u32 3336571891), .lit (.int .u32 3584528711), .lit (.int .u32 113926993), .lit (.int .u32 338241895), .lit (.int .u32 666307205), .lit (.int .u32 773529912), .lit (.int .u32 1294757372), .lit (.int .u32 1396182291), .lit (.int .u32 1695183700), .lit (.int .u32 1986661051), .lit (.int .u32 2177026350), .lit (.int .u32 2456956037), .lit (.int .u32 2730485921), .lit (.int .u32 2820302411), .lit (.int .u32 3259730800), .lit (.int .u32 3345764771), .lit (.int .u32 3516065817), .lit (.int .u32 3600352804), .lit (.int .u32 4094571909), .lit (.int .u32 275423344), .lit (.int .u32 430227734), .lit (.int .u32 506948616), .lit (.int .u32 659060556), .lit (.int .u32 883997877), .lit (.int .u32 958139571), .lit (.int .u32 1322822218), .lit (.int .u32 1537002063), .lit (.int .u32 1747873779), .lit (.int .u32 1955562222), .lit (.int .u32 2024104815), .lit (.int .u32 2227730452), .lit (.int .u32 2361852424), .lit (.int .u32 2428436474), .lit (.int .u32 2756734187), .lit (.int .u32 3204031479), .lit (.int .u32 3329325298)]
def laid_engrosser_sha_start {H : Type} : DataW H := .agg [.lit (.int .u32 1779033703), .lit (.int .u32 3144134277), .lit (.int .u32 1013904242), .lit (.int .u32 2773480762), .lit (.int .u32 1359893119), .lit (.int .u32 2600822924), .lit (.int .u32 528734635), .lit (.int .u32 1541459225)]

/-- 'engrosserlaw02.ShaSums': WHATEVER THE INPUT: true; the input reads as it did. -/
def shaSumsSpec : ChangeSpec := { name := "shaSums", fn := fun _ => fun
  | [d] => { results := [.lit (.bool true)], args := [d] }
  | _ => none }
def shaSumsRow : OpenClaim := { program := "ytpakgjmcaefnmaadoor", sum := "56b64c7fad6fc4529f285ce969ac35295e161faa57c7637c60e526ed2a462dd3", func := "engrosser/engrosserlaw02.ShaSums", spec := "shaSums", unfollowed := true, recurses := true, named := ["engrosser/sha.start", "engrosser/sha.rounds"], apart := false, laid := [("engrosser/sha.rounds", laid_engrosser_sha_rounds), ("engrosser/sha.start", laid_engrosser_sha_start)] }
def ShaSumsSaid : Prop := shaSumsRow.holds Tryd.pinned (OpenSpec.ofChange shaSumsSpec)

/-- ITS FALSE NEIGHBOUR: 'it returns false'. Refute it at one input. -/
def shaSumsWrong : ChangeSpec := { name := "shaSums", fn := fun _ => fun
  | [d] => { results := [.lit (.bool false)], args := [d] }
  | _ => none }
def ShaSumsWrongFalsely : Prop := shaSumsRow.holds Tryd.pinned (OpenSpec.ofChange shaSumsWrong)

/-- 'engrosserlaw02.ShaParts': WHATEVER THE INPUT: true; the input reads as it did. -/
def shaPartsSpec : ChangeSpec := { name := "shaParts", fn := fun _ => fun
  | [d1, d2, d3] => { results := [.lit (.bool true)], args := [d1, d2, d3] }
  | _ => none }
def shaPartsRow : OpenClaim := { program := "ytpakgjmcaefnmaadoor", sum := "56b64c7fad6fc4529f285ce969ac35295e161faa57c7637c60e526ed2a462dd3", func := "engrosser/engrosserlaw02.ShaParts", spec := "shaParts", unfollowed := true, recurses := true, named := ["engrosser/sha.start", "engrosser/sha.rounds"], apart := false, laid := [("engrosser/sha.rounds", laid_engrosser_sha_rounds), ("engrosser/sha.start", laid_engrosser_sha_start)] }
def ShaPartsSaid : Prop := shaPartsRow.holds Tryd.pinned (OpenSpec.ofChange shaPartsSpec)

/-- ITS FALSE NEIGHBOUR: 'it returns false'. Refute it at one input. -/
def shaPartsWrong : ChangeSpec := { name := "shaParts", fn := fun _ => fun
  | [d1, d2, d3] => { results := [.lit (.bool false)], args := [d1, d2, d3] }
  | _ => none }
def ShaPartsWrongFalsely : Prop := shaPartsRow.holds Tryd.pinned (OpenSpec.ofChange shaPartsWrong)

/-- 'engrosserlaw02.ShaLengths': WHATEVER THE INPUT: true; the input reads as it did. -/
def shaLengthsSpec : ChangeSpec := { name := "shaLengths", fn := fun _ => fun
  | [d1, d2] => { results := [.lit (.bool true)], args := [d1, d2] }
  | _ => none }
def shaLengthsRow : OpenClaim := { program := "ytpakgjmcaefnmaadoor", sum := "56b64c7fad6fc4529f285ce969ac35295e161faa57c7637c60e526ed2a462dd3", func := "engrosser/engrosserlaw02.ShaLengths", spec := "shaLengths", unfollowed := true, recurses := true, named := ["engrosser/sha.start", "engrosser/sha.rounds"], apart := false, laid := [("engrosser/sha.rounds", laid_engrosser_sha_rounds), ("engrosser/sha.start", laid_engrosser_sha_start)] }
def ShaLengthsSaid : Prop := shaLengthsRow.holds Tryd.pinned (OpenSpec.ofChange shaLengthsSpec)

/-- ITS FALSE NEIGHBOUR: 'it returns false'. Refute it at one input. -/
def shaLengthsWrong : ChangeSpec := { name := "shaLengths", fn := fun _ => fun
  | [d1, d2] => { results := [.lit (.bool false)], args := [d1, d2] }
  | _ => none }
def ShaLengthsWrongFalsely : Prop := shaLengthsRow.holds Tryd.pinned (OpenSpec.ofChange shaLengthsWrong)

/-- 'engrosserlaw03.MacTags': WHATEVER THE INPUT: true; the input reads as it did. -/
def macTagsSpec : ChangeSpec := { name := "macTags", fn := fun _ => fun
  | [d1, d2, d3] => { results := [.lit (.bool true)], args := [d1, d2, d3] }
  | _ => none }
def macTagsRow : OpenClaim := { program := "ytpakgjmcaefnmaadoor", sum := "56b64c7fad6fc4529f285ce969ac35295e161faa57c7637c60e526ed2a462dd3", func := "engrosser/engrosserlaw03.MacTags", spec := "macTags", unfollowed := true, recurses := true, named := ["engrosser/sha.start", "engrosser/sha.rounds"], apart := false, laid := [("engrosser/sha.rounds", laid_engrosser_sha_rounds), ("engrosser/sha.start", laid_engrosser_sha_start)] }
def MacTagsSaid : Prop := macTagsRow.holds Tryd.pinned (OpenSpec.ofChange macTagsSpec)

/-- ITS FALSE NEIGHBOUR: 'it returns false'. Refute it at one input. -/
def macTagsWrong : ChangeSpec := { name := "macTags", fn := fun _ => fun
  | [d1, d2, d3] => { results := [.lit (.bool false)], args := [d1, d2, d3] }
  | _ => none }
def MacTagsWrongFalsely : Prop := macTagsRow.holds Tryd.pinned (OpenSpec.ofChange macTagsWrong)

/-- 'engrosserlaw03.MacNoughts': WHATEVER THE INPUT: true; the input reads as it did. -/
def macNoughtsSpec : ChangeSpec := { name := "macNoughts", fn := fun _ => fun
  | [d1, d2, d3] => { results := [.lit (.bool true)], args := [d1, d2, d3] }
  | _ => none }
def macNoughtsRow : OpenClaim := { program := "ytpakgjmcaefnmaadoor", sum := "56b64c7fad6fc4529f285ce969ac35295e161faa57c7637c60e526ed2a462dd3", func := "engrosser/engrosserlaw03.MacNoughts", spec := "macNoughts", unfollowed := true, recurses := true, named := ["engrosser/sha.start", "engrosser/sha.rounds"], apart := false, laid := [("engrosser/sha.rounds", laid_engrosser_sha_rounds), ("engrosser/sha.start", laid_engrosser_sha_start)] }
def MacNoughtsSaid : Prop := macNoughtsRow.holds Tryd.pinned (OpenSpec.ofChange macNoughtsSpec)

/-- ITS FALSE NEIGHBOUR: 'it returns false'. Refute it at one input. -/
def macNoughtsWrong : ChangeSpec := { name := "macNoughts", fn := fun _ => fun
  | [d1, d2, d3] => { results := [.lit (.bool false)], args := [d1, d2, d3] }
  | _ => none }
def MacNoughtsWrongFalsely : Prop := macNoughtsRow.holds Tryd.pinned (OpenSpec.ofChange macNoughtsWrong)

/-- 'engrosserlaw03.MacSames': WHATEVER THE INPUT: true; the input reads as it did. -/
def macSamesSpec : ChangeSpec := { name := "macSames", fn := fun _ => fun
  | [d1, d2] => { results := [.lit (.bool true)], args := [d1, d2] }
  | _ => none }
def macSamesRow : OpenClaim := { program := "ytpakgjmcaefnmaadoor", sum := "56b64c7fad6fc4529f285ce969ac35295e161faa57c7637c60e526ed2a462dd3", func := "engrosser/engrosserlaw03.MacSames", spec := "macSames", unfollowed := true, recurses := true, named := ["engrosser/sha.start", "engrosser/sha.rounds"], apart := false, laid := [("engrosser/sha.rounds", laid_engrosser_sha_rounds), ("engrosser/sha.start", laid_engrosser_sha_start)] }
def MacSamesSaid : Prop := macSamesRow.holds Tryd.pinned (OpenSpec.ofChange macSamesSpec)

/-- ITS FALSE NEIGHBOUR: 'it returns false'. Refute it at one input. -/
def macSamesWrong : ChangeSpec := { name := "macSames", fn := fun _ => fun
  | [d1, d2] => { results := [.lit (.bool false)], args := [d1, d2] }
  | _ => none }
def MacSamesWrongFalsely : Prop := macSamesRow.holds Tryd.pinned (OpenSpec.ofChange macSamesWrong)

/-- 'engrosserlaw04.KdfExpands': WHATEVER THE INPUT: true; the input reads as it did. -/
def kdfExpandsSpec : ChangeSpec := { name := "kdfExpands", fn := fun _ => fun
  | [d1, d2, d3] => { results := [.lit (.bool true)], args := [d1, d2, d3] }
  | _ => none }
def kdfExpandsRow : OpenClaim := { program := "ytpakgjmcaefnmaadoor", sum := "56b64c7fad6fc4529f285ce969ac35295e161faa57c7637c60e526ed2a462dd3", func := "engrosser/engrosserlaw04.KdfExpands", spec := "kdfExpands", unfollowed := true, recurses := true, named := ["engrosser/sha.start", "engrosser/sha.rounds"], apart := false, laid := [("engrosser/sha.rounds", laid_engrosser_sha_rounds), ("engrosser/sha.start", laid_engrosser_sha_start)] }
def KdfExpandsSaid : Prop := kdfExpandsRow.holds Tryd.pinned (OpenSpec.ofChange kdfExpandsSpec)

/-- ITS FALSE NEIGHBOUR: 'it returns false'. Refute it at one input. -/
def kdfExpandsWrong : ChangeSpec := { name := "kdfExpands", fn := fun _ => fun
  | [d1, d2, d3] => { results := [.lit (.bool false)], args := [d1, d2, d3] }
  | _ => none }
def KdfExpandsWrongFalsely : Prop := kdfExpandsRow.holds Tryd.pinned (OpenSpec.ofChange kdfExpandsWrong)

/-- 'engrosserlaw04.KdfPrefixes': WHATEVER THE INPUT: true; the input reads as it did. -/
def kdfPrefixesSpec : ChangeSpec := { name := "kdfPrefixes", fn := fun _ => fun
  | [d1, d2, d3] => { results := [.lit (.bool true)], args := [d1, d2, d3] }
  | _ => none }
def kdfPrefixesRow : OpenClaim := { program := "ytpakgjmcaefnmaadoor", sum := "56b64c7fad6fc4529f285ce969ac35295e161faa57c7637c60e526ed2a462dd3", func := "engrosser/engrosserlaw04.KdfPrefixes", spec := "kdfPrefixes", unfollowed := true, recurses := true, named := ["engrosser/sha.start", "engrosser/sha.rounds"], apart := false, laid := [("engrosser/sha.rounds", laid_engrosser_sha_rounds), ("engrosser/sha.start", laid_engrosser_sha_start)] }
def KdfPrefixesSaid : Prop := kdfPrefixesRow.holds Tryd.pinned (OpenSpec.ofChange kdfPrefixesSpec)

/-- ITS FALSE NEIGHBOUR: 'it returns false'. Refute it at one input. -/
def kdfPrefixesWrong : ChangeSpec := { name := "kdfPrefixes", fn := fun _ => fun
  | [d1, d2, d3] => { results := [.lit (.bool false)], args := [d1, d2, d3] }
  | _ => none }
def KdfPrefixesWrongFalsely : Prop := kdfPrefixesRow.holds Tryd.pinned (OpenSpec.ofChange kdfPrefixesWrong)

/-- 'engrosserlaw04.KdfLabels': WHATEVER THE INPUT: true; the input reads as it did. -/
def kdfLabelsSpec : ChangeSpec := { name := "kdfLabels", fn := fun _ => fun
  | [d1, d2, d3] => { results := [.lit (.bool true)], args := [d1, d2, d3] }
  | _ => none }
def kdfLabelsRow : OpenClaim := { program := "ytpakgjmcaefnmaadoor", sum := "56b64c7fad6fc4529f285ce969ac35295e161faa57c7637c60e526ed2a462dd3", func := "engrosser/engrosserlaw04.KdfLabels", spec := "kdfLabels", unfollowed := true, recurses := true, named := ["engrosser/sha.start", "engrosser/sha.rounds"], apart := false, laid := [("engrosser/sha.rounds", laid_engrosser_sha_rounds), ("engrosser/sha.start", laid_engrosser_sha_start)] }
def KdfLabelsSaid : Prop := kdfLabelsRow.holds Tryd.pinned (OpenSpec.ofChange kdfLabelsSpec)

/-- ITS FALSE NEIGHBOUR: 'it returns false'. Refute it at one input. -/
def kdfLabelsWrong : ChangeSpec := { name := "kdfLabels", fn := fun _ => fun
  | [d1, d2, d3] => { results := [.lit (.bool false)], args := [d1, d2, d3] }
  | _ => none }
def KdfLabelsWrongFalsely : Prop := kdfLabelsRow.holds Tryd.pinned (OpenSpec.ofChange kdfLabelsWrong)

/-- 'engrosserlaw22.ScheduleSecrets': WHATEVER THE INPUT: true; the input reads as it did. -/
def scheduleSecretsSpec : ChangeSpec := { name := "scheduleSecrets", fn := fun _ => fun
  | [d1, d2, d3] => { results := [.lit (.bool true)], args := [d1, d2, d3] }
  | _ => none }
def scheduleSecretsRow : OpenClaim := { program := "ytpakgjmcaefnmaadoor", sum := "56b64c7fad6fc4529f285ce969ac35295e161faa57c7637c60e526ed2a462dd3", func := "engrosser/engrosserlaw22.ScheduleSecrets", spec := "scheduleSecrets", unfollowed := true, recurses := true, named := ["engrosser/sha.start", "engrosser/sha.rounds"], apart := false, laid := [("engrosser/sha.rounds", laid_engrosser_sha_rounds), ("engrosser/sha.start", laid_engrosser_sha_start)] }
def ScheduleSecretsSaid : Prop := scheduleSecretsRow.holds Tryd.pinned (OpenSpec.ofChange scheduleSecretsSpec)

/-- ITS FALSE NEIGHBOUR: 'it returns false'. Refute it at one input. -/
def scheduleSecretsWrong : ChangeSpec := { name := "scheduleSecrets", fn := fun _ => fun
  | [d1, d2, d3] => { results := [.lit (.bool false)], args := [d1, d2, d3] }
  | _ => none }
def ScheduleSecretsWrongFalsely : Prop := scheduleSecretsRow.holds Tryd.pinned (OpenSpec.ofChange scheduleSecretsWrong)

/-- 'engrosserlaw22.ScheduleSames': WHATEVER THE INPUT: true; the input reads as it did. -/
def scheduleSamesSpec : ChangeSpec := { name := "scheduleSames", fn := fun _ => fun
  | [d1, d2] => { results := [.lit (.bool true)], args := [d1, d2] }
  | _ => none }
def scheduleSamesRow : OpenClaim := { program := "ytpakgjmcaefnmaadoor", sum := "56b64c7fad6fc4529f285ce969ac35295e161faa57c7637c60e526ed2a462dd3", func := "engrosser/engrosserlaw22.ScheduleSames", spec := "scheduleSames", unfollowed := true, recurses := true, named := ["engrosser/sha.start", "engrosser/sha.rounds"], apart := false, laid := [("engrosser/sha.rounds", laid_engrosser_sha_rounds), ("engrosser/sha.start", laid_engrosser_sha_start)] }
def ScheduleSamesSaid : Prop := scheduleSamesRow.holds Tryd.pinned (OpenSpec.ofChange scheduleSamesSpec)

/-- ITS FALSE NEIGHBOUR: 'it returns false'. Refute it at one input. -/
def scheduleSamesWrong : ChangeSpec := { name := "scheduleSames", fn := fun _ => fun
  | [d1, d2] => { results := [.lit (.bool false)], args := [d1, d2] }
  | _ => none }
def ScheduleSamesWrongFalsely : Prop := scheduleSamesRow.holds Tryd.pinned (OpenSpec.ofChange scheduleSamesWrong)

/-- 'engrosserlaw22.ScheduleExports': WHATEVER THE INPUT: true; the input reads as it did. -/
def scheduleExportsSpec : ChangeSpec := { name := "scheduleExports", fn := fun _ => fun
  | [d1, d2, d3] => { results := [.lit (.bool true)], args := [d1, d2, d3] }
  | _ => none }
def scheduleExportsRow : OpenClaim := { program := "ytpakgjmcaefnmaadoor", sum := "56b64c7fad6fc4529f285ce969ac35295e161faa57c7637c60e526ed2a462dd3", func := "engrosser/engrosserlaw22.ScheduleExports", spec := "scheduleExports", unfollowed := true, recurses := true, named := ["engrosser/sha.start", "engrosser/sha.rounds"], apart := false, laid := [("engrosser/sha.rounds", laid_engrosser_sha_rounds), ("engrosser/sha.start", laid_engrosser_sha_start)] }
def ScheduleExportsSaid : Prop := scheduleExportsRow.holds Tryd.pinned (OpenSpec.ofChange scheduleExportsSpec)

/-- ITS FALSE NEIGHBOUR: 'it returns false'. Refute it at one input. -/
def scheduleExportsWrong : ChangeSpec := { name := "scheduleExports", fn := fun _ => fun
  | [d1, d2, d3] => { results := [.lit (.bool false)], args := [d1, d2, d3] }
  | _ => none }
def ScheduleExportsWrongFalsely : Prop := scheduleExportsRow.holds Tryd.pinned (OpenSpec.ofChange scheduleExportsWrong)

/-- 'engrosserlaw19.NodeHashes': WHATEVER THE INPUT: true; the input reads as it did. -/
def nodeHashesSpec : ChangeSpec := { name := "nodeHashes", fn := fun _ => fun
  | [d1, d2, d3] => { results := [.lit (.bool true)], args := [d1, d2, d3] }
  | _ => none }
def nodeHashesRow : OpenClaim := { program := "ytpakgjmcaefnmaadoor", sum := "56b64c7fad6fc4529f285ce969ac35295e161faa57c7637c60e526ed2a462dd3", func := "engrosser/engrosserlaw19.NodeHashes", spec := "nodeHashes", unfollowed := true, recurses := true, named := ["engrosser/sha.start", "engrosser/sha.rounds"], apart := false, laid := [("engrosser/sha.rounds", laid_engrosser_sha_rounds), ("engrosser/sha.start", laid_engrosser_sha_start)] }
def NodeHashesSaid : Prop := nodeHashesRow.holds Tryd.pinned (OpenSpec.ofChange nodeHashesSpec)

/-- ITS FALSE NEIGHBOUR: 'it returns false'. Refute it at one input. -/
def nodeHashesWrong : ChangeSpec := { name := "nodeHashes", fn := fun _ => fun
  | [d1, d2, d3] => { results := [.lit (.bool false)], args := [d1, d2, d3] }
  | _ => none }
def NodeHashesWrongFalsely : Prop := nodeHashesRow.holds Tryd.pinned (OpenSpec.ofChange nodeHashesWrong)

/-- 'engrosserlaw12.RecordSames': WHATEVER THE INPUT: true; the input reads as it did. -/
def recordSamesSpec : ChangeSpec := { name := "recordSames", fn := fun _ => fun
  | [d1, d2] => { results := [.lit (.bool true)], args := [d1, d2] }
  | _ => none }
def recordSamesRow : OpenClaim := { program := "ytpakgjmcaefnmaadoor", sum := "56b64c7fad6fc4529f285ce969ac35295e161faa57c7637c60e526ed2a462dd3", func := "engrosser/engrosserlaw12.RecordSames", spec := "recordSames", unfollowed := true, recurses := true, named := ["engrosser/sha.start", "engrosser/sha.rounds"], apart := false, laid := [("engrosser/sha.rounds", laid_engrosser_sha_rounds), ("engrosser/sha.start", laid_engrosser_sha_start)] }
def RecordSamesSaid : Prop := recordSamesRow.holds Tryd.pinned (OpenSpec.ofChange recordSamesSpec)

/-- ITS FALSE NEIGHBOUR: 'it returns false'. Refute it at one input. -/
def recordSamesWrong : ChangeSpec := { name := "recordSames", fn := fun _ => fun
  | [d1, d2] => { results := [.lit (.bool false)], args := [d1, d2] }
  | _ => none }
def RecordSamesWrongFalsely : Prop := recordSamesRow.holds Tryd.pinned (OpenSpec.ofChange recordSamesWrong)

/-- 'engrosserlaw07.PowerKeys': WHATEVER THE INPUT: true; the input reads as it did. -/
def powerKeysSpec : ChangeSpec := { name := "powerKeys", fn := fun _ => fun
  | [d1, d2] => { results := [.lit (.bool true)], args := [d1, d2] }
  | _ => none }
def powerKeysRow : OpenClaim := { program := "ytpakgjmcaefnmaadoor", sum := "56b64c7fad6fc4529f285ce969ac35295e161faa57c7637c60e526ed2a462dd3", func := "engrosser/engrosserlaw07.PowerKeys", spec := "powerKeys", unfollowed := true, recurses := true, named := ["engrosser/sha.start", "engrosser/sha.rounds"], apart := false, laid := [("engrosser/sha.rounds", laid_engrosser_sha_rounds), ("engrosser/sha.start", laid_engrosser_sha_start)] }
def PowerKeysSaid : Prop := powerKeysRow.holds Tryd.pinned (OpenSpec.ofChange powerKeysSpec)

/-- ITS FALSE NEIGHBOUR: 'it returns false'. Refute it at one input. -/
def powerKeysWrong : ChangeSpec := { name := "powerKeys", fn := fun _ => fun
  | [d1, d2] => { results := [.lit (.bool false)], args := [d1, d2] }
  | _ => none }
def PowerKeysWrongFalsely : Prop := powerKeysRow.holds Tryd.pinned (OpenSpec.ofChange powerKeysWrong)

/-- 'engrosserlaw07.PowerShares': WHATEVER THE INPUT: true; the input reads as it did. -/
def powerSharesSpec : ChangeSpec := { name := "powerShares", fn := fun _ => fun
  | [d1, d2] => { results := [.lit (.bool true)], args := [d1, d2] }
  | _ => none }
def powerSharesRow : OpenClaim := { program := "ytpakgjmcaefnmaadoor", sum := "56b64c7fad6fc4529f285ce969ac35295e161faa57c7637c60e526ed2a462dd3", func := "engrosser/engrosserlaw07.PowerShares", spec := "powerShares", unfollowed := true, recurses := true, named := ["engrosser/sha.start", "engrosser/sha.rounds"], apart := false, laid := [("engrosser/sha.rounds", laid_engrosser_sha_rounds), ("engrosser/sha.start", laid_engrosser_sha_start)] }
def PowerSharesSaid : Prop := powerSharesRow.holds Tryd.pinned (OpenSpec.ofChange powerSharesSpec)

/-- ITS FALSE NEIGHBOUR: 'it returns false'. Refute it at one input. -/
def powerSharesWrong : ChangeSpec := { name := "powerShares", fn := fun _ => fun
  | [d1, d2] => { results := [.lit (.bool false)], args := [d1, d2] }
  | _ => none }
def PowerSharesWrongFalsely : Prop := powerSharesRow.holds Tryd.pinned (OpenSpec.ofChange powerSharesWrong)

/-- 'engrosserlaw06.SealMakes': WHATEVER THE INPUT: true; the input reads as it did. -/
def sealMakesSpec : ChangeSpec := { name := "sealMakes", fn := fun _ => fun
  | [d] => { results := [.lit (.bool true)], args := [d] }
  | _ => none }
def sealMakesRow : OpenClaim := { program := "ytpakgjmcaefnmaadoor", sum := "56b64c7fad6fc4529f285ce969ac35295e161faa57c7637c60e526ed2a462dd3", func := "engrosser/engrosserlaw06.SealMakes", spec := "sealMakes", unfollowed := true, recurses := true, named := ["engrosser/sha.start", "engrosser/sha.rounds"], apart := false, laid := [("engrosser/sha.rounds", laid_engrosser_sha_rounds), ("engrosser/sha.start", laid_engrosser_sha_start)] }
def SealMakesSaid : Prop := sealMakesRow.holds Tryd.pinned (OpenSpec.ofChange sealMakesSpec)

/-- ITS FALSE NEIGHBOUR: 'it returns false'. Refute it at one input. -/
def sealMakesWrong : ChangeSpec := { name := "sealMakes", fn := fun _ => fun
  | [d] => { results := [.lit (.bool false)], args := [d] }
  | _ => none }
def SealMakesWrongFalsely : Prop := sealMakesRow.holds Tryd.pinned (OpenSpec.ofChange sealMakesWrong)

/-- 'engrosserlaw06.SealOpens': WHATEVER THE INPUT: true; the input reads as it did. -/
def sealOpensSpec : ChangeSpec := { name := "sealOpens", fn := fun _ => fun
  | [d] => { results := [.lit (.bool true)], args := [d] }
  | _ => none }
def sealOpensRow : OpenClaim := { program := "ytpakgjmcaefnmaadoor", sum := "56b64c7fad6fc4529f285ce969ac35295e161faa57c7637c60e526ed2a462dd3", func := "engrosser/engrosserlaw06.SealOpens", spec := "sealOpens", unfollowed := true, recurses := true, named := ["engrosser/sha.start", "engrosser/sha.rounds"], apart := false, laid := [("engrosser/sha.rounds", laid_engrosser_sha_rounds), ("engrosser/sha.start", laid_engrosser_sha_start)] }
def SealOpensSaid : Prop := sealOpensRow.holds Tryd.pinned (OpenSpec.ofChange sealOpensSpec)

/-- ITS FALSE NEIGHBOUR: 'it returns false'. Refute it at one input. -/
def sealOpensWrong : ChangeSpec := { name := "sealOpens", fn := fun _ => fun
  | [d] => { results := [.lit (.bool false)], args := [d] }
  | _ => none }
def SealOpensWrongFalsely : Prop := sealOpensRow.holds Tryd.pinned (OpenSpec.ofChange sealOpensWrong)

/-- 'engrosserlaw06.SealTurned': WHATEVER THE INPUT: true; the input reads as it did. -/
def sealTurnedSpec : ChangeSpec := { name := "sealTurned", fn := fun _ => fun
  | [d1, d2, d3] => { results := [.lit (.bool true)], args := [d1, d2, d3] }
  | _ => none }
def sealTurnedRow : OpenClaim := { program := "ytpakgjmcaefnmaadoor", sum := "56b64c7fad6fc4529f285ce969ac35295e161faa57c7637c60e526ed2a462dd3", func := "engrosser/engrosserlaw06.SealTurned", spec := "sealTurned", unfollowed := true, recurses := true, named := ["engrosser/sha.start", "engrosser/sha.rounds"], apart := false, laid := [("engrosser/sha.rounds", laid_engrosser_sha_rounds), ("engrosser/sha.start", laid_engrosser_sha_start)] }
def SealTurnedSaid : Prop := sealTurnedRow.holds Tryd.pinned (OpenSpec.ofChange sealTurnedSpec)

/-- ITS FALSE NEIGHBOUR: 'it returns false'. Refute it at one input. -/
def sealTurnedWrong : ChangeSpec := { name := "sealTurned", fn := fun _ => fun
  | [d1, d2, d3] => { results := [.lit (.bool false)], args := [d1, d2, d3] }
  | _ => none }
def SealTurnedWrongFalsely : Prop := sealTurnedRow.holds Tryd.pinned (OpenSpec.ofChange sealTurnedWrong)

/- THE SECOND FORM. 'bulk': how many values and letters a reading holds, each counted each time it is reached (what is shared counts as often as it is met; a slice's spare places count too). A statement '..UptoSaid' is the law's where the arguments, and the package variables that the reading takes, are together of bulk at most 1048576: NARROWER than '..Said'. Prove '..Said' where nothing that the law and all that it calls make is longer than what came in: it says more and counts as full. Else prove '..UptoSaid'. A law counts once. -/
mutual
def uptoBulk {H : Type} : DataW H → Nat
  | .lit (.string bytes) => bytes.length + 1
  | .lit _ => 1
  | .nil => 1
  | .ptr d => uptoBulk d + 1
  | .slice elems spare => uptoBulkAll elems + uptoBulkAll spare + 1
  | .agg parts => uptoBulkAll parts + 1
  | .iface _ d => uptoBulk d + 1
  | .map entries => uptoBulkEntries entries + 1
  | .held _ => 1
def uptoBulkAll {H : Type} : List (DataW H) → Nat
  | [] => 0
  | d :: r => uptoBulk d + uptoBulkAll r
def uptoBulkEntries {H : Type} : List (Lit × DataW H) → Nat
  | [] => 0
  | x :: r => uptoBulkEntry x + uptoBulkEntries r
def uptoBulkEntry {H : Type} : Lit × DataW H → Nat
  | (.string bytes, d) => bytes.length + uptoBulk d + 1
  | (_, d) => uptoBulk d + 1
 end
def uptoSmall : (H : Type) → List (DataW H) → Bool := fun _ ds => decide (uptoBulkAll ds ≤ 1048576)
def OpenSpec.upto (s : _root_.Go.ChangeSpec) : _root_.Go.OpenSpec := { _root_.Go.OpenSpec.ofChange s with cond := some uptoSmall }

/-- 'engrosserlaw02.ShaSums', WHERE WHAT IT READS IS OF BULK AT MOST 1048576: true; the input reads as it did. -/
def shaSumsUptoRow : OpenClaim := { program := "ytpakgjmcaefnmaadoor", sum := "56b64c7fad6fc4529f285ce969ac35295e161faa57c7637c60e526ed2a462dd3", func := "engrosser/engrosserlaw02.ShaSums", spec := "shaSums", unfollowed := true, recurses := true, named := ["engrosser/sha.start", "engrosser/sha.rounds"], apart := false, laid := [("engrosser/sha.rounds", laid_engrosser_sha_rounds), ("engrosser/sha.start", laid_engrosser_sha_start)], narrowed := true }
def ShaSumsUptoSaid : Prop := shaSumsUptoRow.holds Tryd.pinned (OpenSpec.upto shaSumsSpec)

/-- 'engrosserlaw02.ShaParts', WHERE WHAT IT READS IS OF BULK AT MOST 1048576: true; the input reads as it did. -/
def shaPartsUptoRow : OpenClaim := { program := "ytpakgjmcaefnmaadoor", sum := "56b64c7fad6fc4529f285ce969ac35295e161faa57c7637c60e526ed2a462dd3", func := "engrosser/engrosserlaw02.ShaParts", spec := "shaParts", unfollowed := true, recurses := true, named := ["engrosser/sha.start", "engrosser/sha.rounds"], apart := false, laid := [("engrosser/sha.rounds", laid_engrosser_sha_rounds), ("engrosser/sha.start", laid_engrosser_sha_start)], narrowed := true }
def ShaPartsUptoSaid : Prop := shaPartsUptoRow.holds Tryd.pinned (OpenSpec.upto shaPartsSpec)

/-- 'engrosserlaw02.ShaLengths', WHERE WHAT IT READS IS OF BULK AT MOST 1048576: true; the input reads as it did. -/
def shaLengthsUptoRow : OpenClaim := { program := "ytpakgjmcaefnmaadoor", sum := "56b64c7fad6fc4529f285ce969ac35295e161faa57c7637c60e526ed2a462dd3", func := "engrosser/engrosserlaw02.ShaLengths", spec := "shaLengths", unfollowed := true, recurses := true, named := ["engrosser/sha.start", "engrosser/sha.rounds"], apart := false, laid := [("engrosser/sha.rounds", laid_engrosser_sha_rounds), ("engrosser/sha.start", laid_engrosser_sha_start)], narrowed := true }
def ShaLengthsUptoSaid : Prop := shaLengthsUptoRow.holds Tryd.pinned (OpenSpec.upto shaLengthsSpec)

/-- 'engrosserlaw03.MacTags', WHERE WHAT IT READS IS OF BULK AT MOST 1048576: true; the input reads as it did. -/
def macTagsUptoRow : OpenClaim := { program := "ytpakgjmcaefnmaadoor", sum := "56b64c7fad6fc4529f285ce969ac35295e161faa57c7637c60e526ed2a462dd3", func := "engrosser/engrosserlaw03.MacTags", spec := "macTags", unfollowed := true, recurses := true, named := ["engrosser/sha.start", "engrosser/sha.rounds"], apart := false, laid := [("engrosser/sha.rounds", laid_engrosser_sha_rounds), ("engrosser/sha.start", laid_engrosser_sha_start)], narrowed := true }
def MacTagsUptoSaid : Prop := macTagsUptoRow.holds Tryd.pinned (OpenSpec.upto macTagsSpec)

/-- 'engrosserlaw03.MacNoughts', WHERE WHAT IT READS IS OF BULK AT MOST 1048576: true; the input reads as it did. -/
def macNoughtsUptoRow : OpenClaim := { program := "ytpakgjmcaefnmaadoor", sum := "56b64c7fad6fc4529f285ce969ac35295e161faa57c7637c60e526ed2a462dd3", func := "engrosser/engrosserlaw03.MacNoughts", spec := "macNoughts", unfollowed := true, recurses := true, named := ["engrosser/sha.start", "engrosser/sha.rounds"], apart := false, laid := [("engrosser/sha.rounds", laid_engrosser_sha_rounds), ("engrosser/sha.start", laid_engrosser_sha_start)], narrowed := true }
def MacNoughtsUptoSaid : Prop := macNoughtsUptoRow.holds Tryd.pinned (OpenSpec.upto macNoughtsSpec)

/-- 'engrosserlaw03.MacSames', WHERE WHAT IT READS IS OF BULK AT MOST 1048576: true; the input reads as it did. -/
def macSamesUptoRow : OpenClaim := { program := "ytpakgjmcaefnmaadoor", sum := "56b64c7fad6fc4529f285ce969ac35295e161faa57c7637c60e526ed2a462dd3", func := "engrosser/engrosserlaw03.MacSames", spec := "macSames", unfollowed := true, recurses := true, named := ["engrosser/sha.start", "engrosser/sha.rounds"], apart := false, laid := [("engrosser/sha.rounds", laid_engrosser_sha_rounds), ("engrosser/sha.start", laid_engrosser_sha_start)], narrowed := true }
def MacSamesUptoSaid : Prop := macSamesUptoRow.holds Tryd.pinned (OpenSpec.upto macSamesSpec)

/-- 'engrosserlaw04.KdfExpands', WHERE WHAT IT READS IS OF BULK AT MOST 1048576: true; the input reads as it did. -/
def kdfExpandsUptoRow : OpenClaim := { program := "ytpakgjmcaefnmaadoor", sum := "56b64c7fad6fc4529f285ce969ac35295e161faa57c7637c60e526ed2a462dd3", func := "engrosser/engrosserlaw04.KdfExpands", spec := "kdfExpands", unfollowed := true, recurses := true, named := ["engrosser/sha.start", "engrosser/sha.rounds"], apart := false, laid := [("engrosser/sha.rounds", laid_engrosser_sha_rounds), ("engrosser/sha.start", laid_engrosser_sha_start)], narrowed := true }
def KdfExpandsUptoSaid : Prop := kdfExpandsUptoRow.holds Tryd.pinned (OpenSpec.upto kdfExpandsSpec)

/-- 'engrosserlaw04.KdfPrefixes', WHERE WHAT IT READS IS OF BULK AT MOST 1048576: true; the input reads as it did. -/
def kdfPrefixesUptoRow : OpenClaim := { program := "ytpakgjmcaefnmaadoor", sum := "56b64c7fad6fc4529f285ce969ac35295e161faa57c7637c60e526ed2a462dd3", func := "engrosser/engrosserlaw04.KdfPrefixes", spec := "kdfPrefixes", unfollowed := true, recurses := true, named := ["engrosser/sha.start", "engrosser/sha.rounds"], apart := false, laid := [("engrosser/sha.rounds", laid_engrosser_sha_rounds), ("engrosser/sha.start", laid_engrosser_sha_start)], narrowed := true }
def KdfPrefixesUptoSaid : Prop := kdfPrefixesUptoRow.holds Tryd.pinned (OpenSpec.upto kdfPrefixesSpec)

/-- 'engrosserlaw04.KdfLabels', WHERE WHAT IT READS IS OF BULK AT MOST 1048576: true; the input reads as it did. -/
def kdfLabelsUptoRow : OpenClaim := { program := "ytpakgjmcaefnmaadoor", sum := "56b64c7fad6fc4529f285ce969ac35295e161faa57c7637c60e526ed2a462dd3", func := "engrosser/engrosserlaw04.KdfLabels", spec := "kdfLabels", unfollowed := true, recurses := true, named := ["engrosser/sha.start", "engrosser/sha.rounds"], apart := false, laid := [("engrosser/sha.rounds", laid_engrosser_sha_rounds), ("engrosser/sha.start", laid_engrosser_sha_start)], narrowed := true }
def KdfLabelsUptoSaid : Prop := kdfLabelsUptoRow.holds Tryd.pinned (OpenSpec.upto kdfLabelsSpec)

/-- 'engrosserlaw22.ScheduleSecrets', WHERE WHAT IT READS IS OF BULK AT MOST 1048576: true; the input reads as it did. -/
def scheduleSecretsUptoRow : OpenClaim := { program := "ytpakgjmcaefnmaadoor", sum := "56b64c7fad6fc4529f285ce969ac35295e161faa57c7637c60e526ed2a462dd3", func := "engrosser/engrosserlaw22.ScheduleSecrets", spec := "scheduleSecrets", unfollowed := true, recurses := true, named := ["engrosser/sha.start", "engrosser/sha.rounds"], apart := false, laid := [("engrosser/sha.rounds", laid_engrosser_sha_rounds), ("engrosser/sha.start", laid_engrosser_sha_start)], narrowed := true }
def ScheduleSecretsUptoSaid : Prop := scheduleSecretsUptoRow.holds Tryd.pinned (OpenSpec.upto scheduleSecretsSpec)

/-- 'engrosserlaw22.ScheduleSames', WHERE WHAT IT READS IS OF BULK AT MOST 1048576: true; the input reads as it did. -/
def scheduleSamesUptoRow : OpenClaim := { program := "ytpakgjmcaefnmaadoor", sum := "56b64c7fad6fc4529f285ce969ac35295e161faa57c7637c60e526ed2a462dd3", func := "engrosser/engrosserlaw22.ScheduleSames", spec := "scheduleSames", unfollowed := true, recurses := true, named := ["engrosser/sha.start", "engrosser/sha.rounds"], apart := false, laid := [("engrosser/sha.rounds", laid_engrosser_sha_rounds), ("engrosser/sha.start", laid_engrosser_sha_start)], narrowed := true }
def ScheduleSamesUptoSaid : Prop := scheduleSamesUptoRow.holds Tryd.pinned (OpenSpec.upto scheduleSamesSpec)

/-- 'engrosserlaw22.ScheduleExports', WHERE WHAT IT READS IS OF BULK AT MOST 1048576: true; the input reads as it did. -/
def scheduleExportsUptoRow : OpenClaim := { program := "ytpakgjmcaefnmaadoor", sum := "56b64c7fad6fc4529f285ce969ac35295e161faa57c7637c60e526ed2a462dd3", func := "engrosser/engrosserlaw22.ScheduleExports", spec := "scheduleExports", unfollowed := true, recurses := true, named := ["engrosser/sha.start", "engrosser/sha.rounds"], apart := false, laid := [("engrosser/sha.rounds", laid_engrosser_sha_rounds), ("engrosser/sha.start", laid_engrosser_sha_start)], narrowed := true }
def ScheduleExportsUptoSaid : Prop := scheduleExportsUptoRow.holds Tryd.pinned (OpenSpec.upto scheduleExportsSpec)

/-- 'engrosserlaw19.NodeHashes', WHERE WHAT IT READS IS OF BULK AT MOST 1048576: true; the input reads as it did. -/
def nodeHashesUptoRow : OpenClaim := { program := "ytpakgjmcaefnmaadoor", sum := "56b64c7fad6fc4529f285ce969ac35295e161faa57c7637c60e526ed2a462dd3", func := "engrosser/engrosserlaw19.NodeHashes", spec := "nodeHashes", unfollowed := true, recurses := true, named := ["engrosser/sha.start", "engrosser/sha.rounds"], apart := false, laid := [("engrosser/sha.rounds", laid_engrosser_sha_rounds), ("engrosser/sha.start", laid_engrosser_sha_start)], narrowed := true }
def NodeHashesUptoSaid : Prop := nodeHashesUptoRow.holds Tryd.pinned (OpenSpec.upto nodeHashesSpec)

/-- 'engrosserlaw12.RecordSames', WHERE WHAT IT READS IS OF BULK AT MOST 1048576: true; the input reads as it did. -/
def recordSamesUptoRow : OpenClaim := { program := "ytpakgjmcaefnmaadoor", sum := "56b64c7fad6fc4529f285ce969ac35295e161faa57c7637c60e526ed2a462dd3", func := "engrosser/engrosserlaw12.RecordSames", spec := "recordSames", unfollowed := true, recurses := true, named := ["engrosser/sha.start", "engrosser/sha.rounds"], apart := false, laid := [("engrosser/sha.rounds", laid_engrosser_sha_rounds), ("engrosser/sha.start", laid_engrosser_sha_start)], narrowed := true }
def RecordSamesUptoSaid : Prop := recordSamesUptoRow.holds Tryd.pinned (OpenSpec.upto recordSamesSpec)

/-- 'engrosserlaw07.PowerKeys', WHERE WHAT IT READS IS OF BULK AT MOST 1048576: true; the input reads as it did. -/
def powerKeysUptoRow : OpenClaim := { program := "ytpakgjmcaefnmaadoor", sum := "56b64c7fad6fc4529f285ce969ac35295e161faa57c7637c60e526ed2a462dd3", func := "engrosser/engrosserlaw07.PowerKeys", spec := "powerKeys", unfollowed := true, recurses := true, named := ["engrosser/sha.start", "engrosser/sha.rounds"], apart := false, laid := [("engrosser/sha.rounds", laid_engrosser_sha_rounds), ("engrosser/sha.start", laid_engrosser_sha_start)], narrowed := true }
def PowerKeysUptoSaid : Prop := powerKeysUptoRow.holds Tryd.pinned (OpenSpec.upto powerKeysSpec)

/-- 'engrosserlaw07.PowerShares', WHERE WHAT IT READS IS OF BULK AT MOST 1048576: true; the input reads as it did. -/
def powerSharesUptoRow : OpenClaim := { program := "ytpakgjmcaefnmaadoor", sum := "56b64c7fad6fc4529f285ce969ac35295e161faa57c7637c60e526ed2a462dd3", func := "engrosser/engrosserlaw07.PowerShares", spec := "powerShares", unfollowed := true, recurses := true, named := ["engrosser/sha.start", "engrosser/sha.rounds"], apart := false, laid := [("engrosser/sha.rounds", laid_engrosser_sha_rounds), ("engrosser/sha.start", laid_engrosser_sha_start)], narrowed := true }
def PowerSharesUptoSaid : Prop := powerSharesUptoRow.holds Tryd.pinned (OpenSpec.upto powerSharesSpec)

/-- 'engrosserlaw06.SealMakes', WHERE WHAT IT READS IS OF BULK AT MOST 1048576: true; the input reads as it did. -/
def sealMakesUptoRow : OpenClaim := { program := "ytpakgjmcaefnmaadoor", sum := "56b64c7fad6fc4529f285ce969ac35295e161faa57c7637c60e526ed2a462dd3", func := "engrosser/engrosserlaw06.SealMakes", spec := "sealMakes", unfollowed := true, recurses := true, named := ["engrosser/sha.start", "engrosser/sha.rounds"], apart := false, laid := [("engrosser/sha.rounds", laid_engrosser_sha_rounds), ("engrosser/sha.start", laid_engrosser_sha_start)], narrowed := true }
def SealMakesUptoSaid : Prop := sealMakesUptoRow.holds Tryd.pinned (OpenSpec.upto sealMakesSpec)

/-- 'engrosserlaw06.SealOpens', WHERE WHAT IT READS IS OF BULK AT MOST 1048576: true; the input reads as it did. -/
def sealOpensUptoRow : OpenClaim := { program := "ytpakgjmcaefnmaadoor", sum := "56b64c7fad6fc4529f285ce969ac35295e161faa57c7637c60e526ed2a462dd3", func := "engrosser/engrosserlaw06.SealOpens", spec := "sealOpens", unfollowed := true, recurses := true, named := ["engrosser/sha.start", "engrosser/sha.rounds"], apart := false, laid := [("engrosser/sha.rounds", laid_engrosser_sha_rounds), ("engrosser/sha.start", laid_engrosser_sha_start)], narrowed := true }
def SealOpensUptoSaid : Prop := sealOpensUptoRow.holds Tryd.pinned (OpenSpec.upto sealOpensSpec)

/-- 'engrosserlaw06.SealTurned', WHERE WHAT IT READS IS OF BULK AT MOST 1048576: true; the input reads as it did. -/
def sealTurnedUptoRow : OpenClaim := { program := "ytpakgjmcaefnmaadoor", sum := "56b64c7fad6fc4529f285ce969ac35295e161faa57c7637c60e526ed2a462dd3", func := "engrosser/engrosserlaw06.SealTurned", spec := "sealTurned", unfollowed := true, recurses := true, named := ["engrosser/sha.start", "engrosser/sha.rounds"], apart := false, laid := [("engrosser/sha.rounds", laid_engrosser_sha_rounds), ("engrosser/sha.start", laid_engrosser_sha_start)], narrowed := true }
def SealTurnedUptoSaid : Prop := sealTurnedUptoRow.holds Tryd.pinned (OpenSpec.upto sealTurnedSpec)

end Rows
end Go.Proofs.YtpakgjmcaefnmaaDoor
