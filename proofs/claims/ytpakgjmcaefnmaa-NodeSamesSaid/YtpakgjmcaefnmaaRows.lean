/-
  No cell of these rows narrows 'for every input' (looked for: loops, veiled, ifaces, maps, wideKeys, modest, calm, conditions, laid).
  DERIVED. THE GIVEN ROWS OF THIS SEAT. 17 by the template 'for every input the law returns true; each argument reads behind the call as it read before'; 0 by the template 'total and deterministic' (their statements: YtpakgjmcaefnmaaTotals.lean).
  GIVEN WITH THE SEED: the statements are not yours to turn. If you find one false, say at which input.
  Laid BY PROGRAM, IN A SANDBOX (cutbox-rows.mjs): the forced cells as the released guide's own fill.sh prints them over the translation 566db53fd1ef6b60… (all of the seat's roots in one cut). By AI agents, Wed Nov 11 2026. No macro, syntax, notation, axiom, sorry.
-/
import Derived.Test.YtpakgjmcaefnmaaChecked
import GoSem.Claim
import GoSem.ClaimJoined
import GoSem.ClaimMapViews
import Derived.JoinedTies
import Derived.KernelRfl
namespace Go.Proofs.Ytpakgjmcaefnmaa
/- THE CELL 'sum', in the pinned program and in every row, IS THE sha256 OF THE DUMP (.gsa) THAT YtpakgjmcaefnmaaProg.lean LOADS. Nothing in Lean hashes anything: it is a label: what it is worth is what the hold of that sum in a sandbox is worth. -/
noncomputable def Try.pinned : Pinned := { name := "ytpakgjmcaefnmaa", sum := "566db53fd1ef6b60801e3a281e6ba0d40f2fcb17b859c0b827312957f899aa9d", checked := Try.checked }
namespace Rows
def none {H : Type} : Left H := { results := [], args := [] }

/-- 'engrosserlaw11.CrcSums': WHATEVER THE INPUT: true; the input reads as it did. -/
def crcSumsSpec : ChangeSpec := { name := "crcSums", fn := fun _ => fun
  | [d1, d2] => { results := [.lit (.bool true)], args := [d1, d2] }
  | _ => none }
def crcSumsRow : OpenClaim := { program := "ytpakgjmcaefnmaa", sum := "566db53fd1ef6b60801e3a281e6ba0d40f2fcb17b859c0b827312957f899aa9d", func := "engrosser/engrosserlaw11.CrcSums", spec := "crcSums", apart := false }
def CrcSumsSaid : Prop := crcSumsRow.holds Try.pinned (OpenSpec.ofChange crcSumsSpec)

/-- ITS FALSE NEIGHBOUR: 'it returns false'. Refute it at one input. -/
def crcSumsWrong : ChangeSpec := { name := "crcSums", fn := fun _ => fun
  | [d1, d2] => { results := [.lit (.bool false)], args := [d1, d2] }
  | _ => none }
def CrcSumsWrongFalsely : Prop := crcSumsRow.holds Try.pinned (OpenSpec.ofChange crcSumsWrong)

/-- 'engrosserlaw01.WirePens': WHATEVER THE INPUT: true; the input reads as it did. -/
def wirePensSpec : ChangeSpec := { name := "wirePens", fn := fun _ => fun
  | [d] => { results := [.lit (.bool true)], args := [d] }
  | _ => none }
def wirePensRow : OpenClaim := { program := "ytpakgjmcaefnmaa", sum := "566db53fd1ef6b60801e3a281e6ba0d40f2fcb17b859c0b827312957f899aa9d", func := "engrosser/engrosserlaw01.WirePens", spec := "wirePens", apart := false }
def WirePensSaid : Prop := wirePensRow.holds Try.pinned (OpenSpec.ofChange wirePensSpec)

/-- ITS FALSE NEIGHBOUR: 'it returns false'. Refute it at one input. -/
def wirePensWrong : ChangeSpec := { name := "wirePens", fn := fun _ => fun
  | [d] => { results := [.lit (.bool false)], args := [d] }
  | _ => none }
def WirePensWrongFalsely : Prop := wirePensRow.holds Try.pinned (OpenSpec.ofChange wirePensWrong)

/-- 'engrosserlaw07.PowerMuls': WHATEVER THE INPUT: true; the input reads as it did. -/
def powerMulsSpec : ChangeSpec := { name := "powerMuls", fn := fun _ => fun
  | [d1, d2] => { results := [.lit (.bool true)], args := [d1, d2] }
  | _ => none }
def powerMulsRow : OpenClaim := { program := "ytpakgjmcaefnmaa", sum := "566db53fd1ef6b60801e3a281e6ba0d40f2fcb17b859c0b827312957f899aa9d", func := "engrosser/engrosserlaw07.PowerMuls", spec := "powerMuls", apart := false }
def PowerMulsSaid : Prop := powerMulsRow.holds Try.pinned (OpenSpec.ofChange powerMulsSpec)

/-- ITS FALSE NEIGHBOUR: 'it returns false'. Refute it at one input. -/
def powerMulsWrong : ChangeSpec := { name := "powerMuls", fn := fun _ => fun
  | [d1, d2] => { results := [.lit (.bool false)], args := [d1, d2] }
  | _ => none }
def PowerMulsWrongFalsely : Prop := powerMulsRow.holds Try.pinned (OpenSpec.ofChange powerMulsWrong)

/-- 'engrosserlaw07.PowerPows': WHATEVER THE INPUT: true; the input reads as it did. -/
def powerPowsSpec : ChangeSpec := { name := "powerPows", fn := fun _ => fun
  | [d1, d2, d3] => { results := [.lit (.bool true)], args := [d1, d2, d3] }
  | _ => none }
def powerPowsRow : OpenClaim := { program := "ytpakgjmcaefnmaa", sum := "566db53fd1ef6b60801e3a281e6ba0d40f2fcb17b859c0b827312957f899aa9d", func := "engrosser/engrosserlaw07.PowerPows", spec := "powerPows", apart := false }
def PowerPowsSaid : Prop := powerPowsRow.holds Try.pinned (OpenSpec.ofChange powerPowsSpec)

/-- ITS FALSE NEIGHBOUR: 'it returns false'. Refute it at one input. -/
def powerPowsWrong : ChangeSpec := { name := "powerPows", fn := fun _ => fun
  | [d1, d2, d3] => { results := [.lit (.bool false)], args := [d1, d2, d3] }
  | _ => none }
def PowerPowsWrongFalsely : Prop := powerPowsRow.holds Try.pinned (OpenSpec.ofChange powerPowsWrong)

/-- 'engrosserlaw28.LedgerRises': WHATEVER THE INPUT: true; the input reads as it did. -/
def ledgerRisesSpec : ChangeSpec := { name := "ledgerRises", fn := fun _ => fun
  | [d] => { results := [.lit (.bool true)], args := [d] }
  | _ => none }
def ledgerRisesRow : OpenClaim := { program := "ytpakgjmcaefnmaa", sum := "566db53fd1ef6b60801e3a281e6ba0d40f2fcb17b859c0b827312957f899aa9d", func := "engrosser/engrosserlaw28.LedgerRises", spec := "ledgerRises", apart := false }
def LedgerRisesSaid : Prop := ledgerRisesRow.holds Try.pinned (OpenSpec.ofChange ledgerRisesSpec)

/-- ITS FALSE NEIGHBOUR: 'it returns false'. Refute it at one input. -/
def ledgerRisesWrong : ChangeSpec := { name := "ledgerRises", fn := fun _ => fun
  | [d] => { results := [.lit (.bool false)], args := [d] }
  | _ => none }
def LedgerRisesWrongFalsely : Prop := ledgerRisesRow.holds Try.pinned (OpenSpec.ofChange ledgerRisesWrong)

/-- 'engrosserlaw11.CrcTakes': WHATEVER THE INPUT: true; the input reads as it did. -/
def crcTakesSpec : ChangeSpec := { name := "crcTakes", fn := fun _ => fun
  | [d] => { results := [.lit (.bool true)], args := [d] }
  | _ => none }
def crcTakesRow : OpenClaim := { program := "ytpakgjmcaefnmaa", sum := "566db53fd1ef6b60801e3a281e6ba0d40f2fcb17b859c0b827312957f899aa9d", func := "engrosser/engrosserlaw11.CrcTakes", spec := "crcTakes", apart := false }
def CrcTakesSaid : Prop := crcTakesRow.holds Try.pinned (OpenSpec.ofChange crcTakesSpec)

/-- ITS FALSE NEIGHBOUR: 'it returns false'. Refute it at one input. -/
def crcTakesWrong : ChangeSpec := { name := "crcTakes", fn := fun _ => fun
  | [d] => { results := [.lit (.bool false)], args := [d] }
  | _ => none }
def CrcTakesWrongFalsely : Prop := crcTakesRow.holds Try.pinned (OpenSpec.ofChange crcTakesWrong)

/-- 'engrosserlaw01.WireBack': WHATEVER THE INPUT: true; the input reads as it did. -/
def wireBackSpec : ChangeSpec := { name := "wireBack", fn := fun _ => fun
  | [d] => { results := [.lit (.bool true)], args := [d] }
  | _ => none }
def wireBackRow : OpenClaim := { program := "ytpakgjmcaefnmaa", sum := "566db53fd1ef6b60801e3a281e6ba0d40f2fcb17b859c0b827312957f899aa9d", func := "engrosser/engrosserlaw01.WireBack", spec := "wireBack", apart := false }
def WireBackSaid : Prop := wireBackRow.holds Try.pinned (OpenSpec.ofChange wireBackSpec)

/-- ITS FALSE NEIGHBOUR: 'it returns false'. Refute it at one input. -/
def wireBackWrong : ChangeSpec := { name := "wireBack", fn := fun _ => fun
  | [d] => { results := [.lit (.bool false)], args := [d] }
  | _ => none }
def WireBackWrongFalsely : Prop := wireBackRow.holds Try.pinned (OpenSpec.ofChange wireBackWrong)

/-- 'engrosserlaw01.WireCuts': WHATEVER THE INPUT: true; the input reads as it did. -/
def wireCutsSpec : ChangeSpec := { name := "wireCuts", fn := fun _ => fun
  | [d1, d2, d3] => { results := [.lit (.bool true)], args := [d1, d2, d3] }
  | _ => none }
def wireCutsRow : OpenClaim := { program := "ytpakgjmcaefnmaa", sum := "566db53fd1ef6b60801e3a281e6ba0d40f2fcb17b859c0b827312957f899aa9d", func := "engrosser/engrosserlaw01.WireCuts", spec := "wireCuts", apart := false }
def WireCutsSaid : Prop := wireCutsRow.holds Try.pinned (OpenSpec.ofChange wireCutsSpec)

/-- ITS FALSE NEIGHBOUR: 'it returns false'. Refute it at one input. -/
def wireCutsWrong : ChangeSpec := { name := "wireCuts", fn := fun _ => fun
  | [d1, d2, d3] => { results := [.lit (.bool false)], args := [d1, d2, d3] }
  | _ => none }
def WireCutsWrongFalsely : Prop := wireCutsRow.holds Try.pinned (OpenSpec.ofChange wireCutsWrong)

/-- 'engrosserlaw01.WireEyes': WHATEVER THE INPUT: true; the input reads as it did. -/
def wireEyesSpec : ChangeSpec := { name := "wireEyes", fn := fun _ => fun
  | [d1, d2, d3] => { results := [.lit (.bool true)], args := [d1, d2, d3] }
  | _ => none }
def wireEyesRow : OpenClaim := { program := "ytpakgjmcaefnmaa", sum := "566db53fd1ef6b60801e3a281e6ba0d40f2fcb17b859c0b827312957f899aa9d", func := "engrosser/engrosserlaw01.WireEyes", spec := "wireEyes", apart := false }
def WireEyesSaid : Prop := wireEyesRow.holds Try.pinned (OpenSpec.ofChange wireEyesSpec)

/-- ITS FALSE NEIGHBOUR: 'it returns false'. Refute it at one input. -/
def wireEyesWrong : ChangeSpec := { name := "wireEyes", fn := fun _ => fun
  | [d1, d2, d3] => { results := [.lit (.bool false)], args := [d1, d2, d3] }
  | _ => none }
def WireEyesWrongFalsely : Prop := wireEyesRow.holds Try.pinned (OpenSpec.ofChange wireEyesWrong)

/-- 'engrosserlaw19.NodeSames': WHATEVER THE INPUT: true; the input reads as it did. -/
def nodeSamesSpec : ChangeSpec := { name := "nodeSames", fn := fun _ => fun
  | [d1, d2] => { results := [.lit (.bool true)], args := [d1, d2] }
  | _ => none }
def nodeSamesRow : OpenClaim := { program := "ytpakgjmcaefnmaa", sum := "566db53fd1ef6b60801e3a281e6ba0d40f2fcb17b859c0b827312957f899aa9d", func := "engrosser/engrosserlaw19.NodeSames", spec := "nodeSames", apart := false }
def NodeSamesSaid : Prop := nodeSamesRow.holds Try.pinned (OpenSpec.ofChange nodeSamesSpec)

/-- ITS FALSE NEIGHBOUR: 'it returns false'. Refute it at one input. -/
def nodeSamesWrong : ChangeSpec := { name := "nodeSames", fn := fun _ => fun
  | [d1, d2] => { results := [.lit (.bool false)], args := [d1, d2] }
  | _ => none }
def NodeSamesWrongFalsely : Prop := nodeSamesRow.holds Try.pinned (OpenSpec.ofChange nodeSamesWrong)

/-- 'engrosserlaw12.RecordWrites': WHATEVER THE INPUT: true; the input reads as it did. -/
def recordWritesSpec : ChangeSpec := { name := "recordWrites", fn := fun _ => fun
  | [d] => { results := [.lit (.bool true)], args := [d] }
  | _ => none }
def recordWritesRow : OpenClaim := { program := "ytpakgjmcaefnmaa", sum := "566db53fd1ef6b60801e3a281e6ba0d40f2fcb17b859c0b827312957f899aa9d", func := "engrosser/engrosserlaw12.RecordWrites", spec := "recordWrites", apart := false }
def RecordWritesSaid : Prop := recordWritesRow.holds Try.pinned (OpenSpec.ofChange recordWritesSpec)

/-- ITS FALSE NEIGHBOUR: 'it returns false'. Refute it at one input. -/
def recordWritesWrong : ChangeSpec := { name := "recordWrites", fn := fun _ => fun
  | [d] => { results := [.lit (.bool false)], args := [d] }
  | _ => none }
def RecordWritesWrongFalsely : Prop := recordWritesRow.holds Try.pinned (OpenSpec.ofChange recordWritesWrong)

/-- 'engrosserlaw12.RecordReads': WHATEVER THE INPUT: true; the input reads as it did. -/
def recordReadsSpec : ChangeSpec := { name := "recordReads", fn := fun _ => fun
  | [d] => { results := [.lit (.bool true)], args := [d] }
  | _ => none }
def recordReadsRow : OpenClaim := { program := "ytpakgjmcaefnmaa", sum := "566db53fd1ef6b60801e3a281e6ba0d40f2fcb17b859c0b827312957f899aa9d", func := "engrosser/engrosserlaw12.RecordReads", spec := "recordReads", apart := false }
def RecordReadsSaid : Prop := recordReadsRow.holds Try.pinned (OpenSpec.ofChange recordReadsSpec)

/-- ITS FALSE NEIGHBOUR: 'it returns false'. Refute it at one input. -/
def recordReadsWrong : ChangeSpec := { name := "recordReads", fn := fun _ => fun
  | [d] => { results := [.lit (.bool false)], args := [d] }
  | _ => none }
def RecordReadsWrongFalsely : Prop := recordReadsRow.holds Try.pinned (OpenSpec.ofChange recordReadsWrong)

/-- 'engrosserlaw19.NodeReads': WHATEVER THE INPUT: true; the input reads as it did. -/
def nodeReadsSpec : ChangeSpec := { name := "nodeReads", fn := fun _ => fun
  | [d] => { results := [.lit (.bool true)], args := [d] }
  | _ => none }
def nodeReadsRow : OpenClaim := { program := "ytpakgjmcaefnmaa", sum := "566db53fd1ef6b60801e3a281e6ba0d40f2fcb17b859c0b827312957f899aa9d", func := "engrosser/engrosserlaw19.NodeReads", spec := "nodeReads", apart := false }
def NodeReadsSaid : Prop := nodeReadsRow.holds Try.pinned (OpenSpec.ofChange nodeReadsSpec)

/-- ITS FALSE NEIGHBOUR: 'it returns false'. Refute it at one input. -/
def nodeReadsWrong : ChangeSpec := { name := "nodeReads", fn := fun _ => fun
  | [d] => { results := [.lit (.bool false)], args := [d] }
  | _ => none }
def NodeReadsWrongFalsely : Prop := nodeReadsRow.holds Try.pinned (OpenSpec.ofChange nodeReadsWrong)

/-- 'engrosserlaw23.MessageProps': WHATEVER THE INPUT: true; the input reads as it did. -/
def messagePropsSpec : ChangeSpec := { name := "messageProps", fn := fun _ => fun
  | [d] => { results := [.lit (.bool true)], args := [d] }
  | _ => none }
def messagePropsRow : OpenClaim := { program := "ytpakgjmcaefnmaa", sum := "566db53fd1ef6b60801e3a281e6ba0d40f2fcb17b859c0b827312957f899aa9d", func := "engrosser/engrosserlaw23.MessageProps", spec := "messageProps", apart := false }
def MessagePropsSaid : Prop := messagePropsRow.holds Try.pinned (OpenSpec.ofChange messagePropsSpec)

/-- ITS FALSE NEIGHBOUR: 'it returns false'. Refute it at one input. -/
def messagePropsWrong : ChangeSpec := { name := "messageProps", fn := fun _ => fun
  | [d] => { results := [.lit (.bool false)], args := [d] }
  | _ => none }
def MessagePropsWrongFalsely : Prop := messagePropsRow.holds Try.pinned (OpenSpec.ofChange messagePropsWrong)

/-- 'engrosserlaw19.NodeWrites': WHATEVER THE INPUT: true; the input reads as it did. -/
def nodeWritesSpec : ChangeSpec := { name := "nodeWrites", fn := fun _ => fun
  | [d] => { results := [.lit (.bool true)], args := [d] }
  | _ => none }
def nodeWritesRow : OpenClaim := { program := "ytpakgjmcaefnmaa", sum := "566db53fd1ef6b60801e3a281e6ba0d40f2fcb17b859c0b827312957f899aa9d", func := "engrosser/engrosserlaw19.NodeWrites", spec := "nodeWrites", apart := false }
def NodeWritesSaid : Prop := nodeWritesRow.holds Try.pinned (OpenSpec.ofChange nodeWritesSpec)

/-- ITS FALSE NEIGHBOUR: 'it returns false'. Refute it at one input. -/
def nodeWritesWrong : ChangeSpec := { name := "nodeWrites", fn := fun _ => fun
  | [d] => { results := [.lit (.bool false)], args := [d] }
  | _ => none }
def NodeWritesWrongFalsely : Prop := nodeWritesRow.holds Try.pinned (OpenSpec.ofChange nodeWritesWrong)

/-- 'engrosserlaw23.MessageWrites': WHATEVER THE INPUT: true; the input reads as it did. -/
def messageWritesSpec : ChangeSpec := { name := "messageWrites", fn := fun _ => fun
  | [d] => { results := [.lit (.bool true)], args := [d] }
  | _ => none }
def messageWritesRow : OpenClaim := { program := "ytpakgjmcaefnmaa", sum := "566db53fd1ef6b60801e3a281e6ba0d40f2fcb17b859c0b827312957f899aa9d", func := "engrosser/engrosserlaw23.MessageWrites", spec := "messageWrites", apart := false }
def MessageWritesSaid : Prop := messageWritesRow.holds Try.pinned (OpenSpec.ofChange messageWritesSpec)

/-- ITS FALSE NEIGHBOUR: 'it returns false'. Refute it at one input. -/
def messageWritesWrong : ChangeSpec := { name := "messageWrites", fn := fun _ => fun
  | [d] => { results := [.lit (.bool false)], args := [d] }
  | _ => none }
def MessageWritesWrongFalsely : Prop := messageWritesRow.holds Try.pinned (OpenSpec.ofChange messageWritesWrong)

/-- 'engrosserlaw23.MessageReads': WHATEVER THE INPUT: true; the input reads as it did. -/
def messageReadsSpec : ChangeSpec := { name := "messageReads", fn := fun _ => fun
  | [d] => { results := [.lit (.bool true)], args := [d] }
  | _ => none }
def messageReadsRow : OpenClaim := { program := "ytpakgjmcaefnmaa", sum := "566db53fd1ef6b60801e3a281e6ba0d40f2fcb17b859c0b827312957f899aa9d", func := "engrosser/engrosserlaw23.MessageReads", spec := "messageReads", apart := false }
def MessageReadsSaid : Prop := messageReadsRow.holds Try.pinned (OpenSpec.ofChange messageReadsSpec)

/-- ITS FALSE NEIGHBOUR: 'it returns false'. Refute it at one input. -/
def messageReadsWrong : ChangeSpec := { name := "messageReads", fn := fun _ => fun
  | [d] => { results := [.lit (.bool false)], args := [d] }
  | _ => none }
def MessageReadsWrongFalsely : Prop := messageReadsRow.holds Try.pinned (OpenSpec.ofChange messageReadsWrong)

/- THE SECOND FORM. 'bulk': how many values and letters a reading holds, each counted each time it is reached (what is shared counts as often as it is met; a slice's spare places count too). A statement '..UptoSaid' is the law's where the arguments, and the package variables that the reading takes, are together of bulk at most 1048576: NARROWER than '..Said'. Prove '..Said' where nothing that the law and all that it calls make is longer than what came in: it says more and counts as full. Else prove '..UptoSaid'. A law counts once. -/
mutual
def uptoBulk {H : Type} : DataW H → Nat
  | .lit (.string bytes) => bytes.length + 1
  | .lit _ => 1
  | .nil => 1
  | .ptr d => uptoBulk d + 1
  | .slice elems spare => uptoBulkAll elems + uptoBulkAll spare + 1
  | .agg parts => uptoBulkAll parts + 1
  | .iface _ d => uptoBulk d + 1
  | .map entries => uptoBulkEntries entries + 1
  | .held _ => 1
def uptoBulkAll {H : Type} : List (DataW H) → Nat
  | [] => 0
  | d :: r => uptoBulk d + uptoBulkAll r
def uptoBulkEntries {H : Type} : List (Lit × DataW H) → Nat
  | [] => 0
  | x :: r => uptoBulkEntry x + uptoBulkEntries r
def uptoBulkEntry {H : Type} : Lit × DataW H → Nat
  | (.string bytes, d) => bytes.length + uptoBulk d + 1
  | (_, d) => uptoBulk d + 1
 end
def uptoSmall : (H : Type) → List (DataW H) → Bool := fun _ ds => decide (uptoBulkAll ds ≤ 1048576)
def OpenSpec.upto (s : _root_.Go.ChangeSpec) : _root_.Go.OpenSpec := { _root_.Go.OpenSpec.ofChange s with cond := some uptoSmall }

/-- 'engrosserlaw11.CrcSums', WHERE WHAT IT READS IS OF BULK AT MOST 1048576: true; the input reads as it did. -/
def crcSumsUptoRow : OpenClaim := { program := "ytpakgjmcaefnmaa", sum := "566db53fd1ef6b60801e3a281e6ba0d40f2fcb17b859c0b827312957f899aa9d", func := "engrosser/engrosserlaw11.CrcSums", spec := "crcSums", apart := false, narrowed := true }
def CrcSumsUptoSaid : Prop := crcSumsUptoRow.holds Try.pinned (OpenSpec.upto crcSumsSpec)

/-- 'engrosserlaw01.WirePens', WHERE WHAT IT READS IS OF BULK AT MOST 1048576: true; the input reads as it did. -/
def wirePensUptoRow : OpenClaim := { program := "ytpakgjmcaefnmaa", sum := "566db53fd1ef6b60801e3a281e6ba0d40f2fcb17b859c0b827312957f899aa9d", func := "engrosser/engrosserlaw01.WirePens", spec := "wirePens", apart := false, narrowed := true }
def WirePensUptoSaid : Prop := wirePensUptoRow.holds Try.pinned (OpenSpec.upto wirePensSpec)

/-- 'engrosserlaw07.PowerMuls', WHERE WHAT IT READS IS OF BULK AT MOST 1048576: true; the input reads as it did. -/
def powerMulsUptoRow : OpenClaim := { program := "ytpakgjmcaefnmaa", sum := "566db53fd1ef6b60801e3a281e6ba0d40f2fcb17b859c0b827312957f899aa9d", func := "engrosser/engrosserlaw07.PowerMuls", spec := "powerMuls", apart := false, narrowed := true }
def PowerMulsUptoSaid : Prop := powerMulsUptoRow.holds Try.pinned (OpenSpec.upto powerMulsSpec)

/-- 'engrosserlaw07.PowerPows', WHERE WHAT IT READS IS OF BULK AT MOST 1048576: true; the input reads as it did. -/
def powerPowsUptoRow : OpenClaim := { program := "ytpakgjmcaefnmaa", sum := "566db53fd1ef6b60801e3a281e6ba0d40f2fcb17b859c0b827312957f899aa9d", func := "engrosser/engrosserlaw07.PowerPows", spec := "powerPows", apart := false, narrowed := true }
def PowerPowsUptoSaid : Prop := powerPowsUptoRow.holds Try.pinned (OpenSpec.upto powerPowsSpec)

/-- 'engrosserlaw28.LedgerRises', WHERE WHAT IT READS IS OF BULK AT MOST 1048576: true; the input reads as it did. -/
def ledgerRisesUptoRow : OpenClaim := { program := "ytpakgjmcaefnmaa", sum := "566db53fd1ef6b60801e3a281e6ba0d40f2fcb17b859c0b827312957f899aa9d", func := "engrosser/engrosserlaw28.LedgerRises", spec := "ledgerRises", apart := false, narrowed := true }
def LedgerRisesUptoSaid : Prop := ledgerRisesUptoRow.holds Try.pinned (OpenSpec.upto ledgerRisesSpec)

/-- 'engrosserlaw11.CrcTakes', WHERE WHAT IT READS IS OF BULK AT MOST 1048576: true; the input reads as it did. -/
def crcTakesUptoRow : OpenClaim := { program := "ytpakgjmcaefnmaa", sum := "566db53fd1ef6b60801e3a281e6ba0d40f2fcb17b859c0b827312957f899aa9d", func := "engrosser/engrosserlaw11.CrcTakes", spec := "crcTakes", apart := false, narrowed := true }
def CrcTakesUptoSaid : Prop := crcTakesUptoRow.holds Try.pinned (OpenSpec.upto crcTakesSpec)

/-- 'engrosserlaw01.WireBack', WHERE WHAT IT READS IS OF BULK AT MOST 1048576: true; the input reads as it did. -/
def wireBackUptoRow : OpenClaim := { program := "ytpakgjmcaefnmaa", sum := "566db53fd1ef6b60801e3a281e6ba0d40f2fcb17b859c0b827312957f899aa9d", func := "engrosser/engrosserlaw01.WireBack", spec := "wireBack", apart := false, narrowed := true }
def WireBackUptoSaid : Prop := wireBackUptoRow.holds Try.pinned (OpenSpec.upto wireBackSpec)

/-- 'engrosserlaw01.WireCuts', WHERE WHAT IT READS IS OF BULK AT MOST 1048576: true; the input reads as it did. -/
def wireCutsUptoRow : OpenClaim := { program := "ytpakgjmcaefnmaa", sum := "566db53fd1ef6b60801e3a281e6ba0d40f2fcb17b859c0b827312957f899aa9d", func := "engrosser/engrosserlaw01.WireCuts", spec := "wireCuts", apart := false, narrowed := true }
def WireCutsUptoSaid : Prop := wireCutsUptoRow.holds Try.pinned (OpenSpec.upto wireCutsSpec)

/-- 'engrosserlaw01.WireEyes', WHERE WHAT IT READS IS OF BULK AT MOST 1048576: true; the input reads as it did. -/
def wireEyesUptoRow : OpenClaim := { program := "ytpakgjmcaefnmaa", sum := "566db53fd1ef6b60801e3a281e6ba0d40f2fcb17b859c0b827312957f899aa9d", func := "engrosser/engrosserlaw01.WireEyes", spec := "wireEyes", apart := false, narrowed := true }
def WireEyesUptoSaid : Prop := wireEyesUptoRow.holds Try.pinned (OpenSpec.upto wireEyesSpec)

/-- 'engrosserlaw19.NodeSames', WHERE WHAT IT READS IS OF BULK AT MOST 1048576: true; the input reads as it did. -/
def nodeSamesUptoRow : OpenClaim := { program := "ytpakgjmcaefnmaa", sum := "566db53fd1ef6b60801e3a281e6ba0d40f2fcb17b859c0b827312957f899aa9d", func := "engrosser/engrosserlaw19.NodeSames", spec := "nodeSames", apart := false, narrowed := true }
def NodeSamesUptoSaid : Prop := nodeSamesUptoRow.holds Try.pinned (OpenSpec.upto nodeSamesSpec)

/-- 'engrosserlaw12.RecordWrites', WHERE WHAT IT READS IS OF BULK AT MOST 1048576: true; the input reads as it did. -/
def recordWritesUptoRow : OpenClaim := { program := "ytpakgjmcaefnmaa", sum := "566db53fd1ef6b60801e3a281e6ba0d40f2fcb17b859c0b827312957f899aa9d", func := "engrosser/engrosserlaw12.RecordWrites", spec := "recordWrites", apart := false, narrowed := true }
def RecordWritesUptoSaid : Prop := recordWritesUptoRow.holds Try.pinned (OpenSpec.upto recordWritesSpec)

/-- 'engrosserlaw12.RecordReads', WHERE WHAT IT READS IS OF BULK AT MOST 1048576: true; the input reads as it did. -/
def recordReadsUptoRow : OpenClaim := { program := "ytpakgjmcaefnmaa", sum := "566db53fd1ef6b60801e3a281e6ba0d40f2fcb17b859c0b827312957f899aa9d", func := "engrosser/engrosserlaw12.RecordReads", spec := "recordReads", apart := false, narrowed := true }
def RecordReadsUptoSaid : Prop := recordReadsUptoRow.holds Try.pinned (OpenSpec.upto recordReadsSpec)

/-- 'engrosserlaw19.NodeReads', WHERE WHAT IT READS IS OF BULK AT MOST 1048576: true; the input reads as it did. -/
def nodeReadsUptoRow : OpenClaim := { program := "ytpakgjmcaefnmaa", sum := "566db53fd1ef6b60801e3a281e6ba0d40f2fcb17b859c0b827312957f899aa9d", func := "engrosser/engrosserlaw19.NodeReads", spec := "nodeReads", apart := false, narrowed := true }
def NodeReadsUptoSaid : Prop := nodeReadsUptoRow.holds Try.pinned (OpenSpec.upto nodeReadsSpec)

/-- 'engrosserlaw23.MessageProps', WHERE WHAT IT READS IS OF BULK AT MOST 1048576: true; the input reads as it did. -/
def messagePropsUptoRow : OpenClaim := { program := "ytpakgjmcaefnmaa", sum := "566db53fd1ef6b60801e3a281e6ba0d40f2fcb17b859c0b827312957f899aa9d", func := "engrosser/engrosserlaw23.MessageProps", spec := "messageProps", apart := false, narrowed := true }
def MessagePropsUptoSaid : Prop := messagePropsUptoRow.holds Try.pinned (OpenSpec.upto messagePropsSpec)

/-- 'engrosserlaw19.NodeWrites', WHERE WHAT IT READS IS OF BULK AT MOST 1048576: true; the input reads as it did. -/
def nodeWritesUptoRow : OpenClaim := { program := "ytpakgjmcaefnmaa", sum := "566db53fd1ef6b60801e3a281e6ba0d40f2fcb17b859c0b827312957f899aa9d", func := "engrosser/engrosserlaw19.NodeWrites", spec := "nodeWrites", apart := false, narrowed := true }
def NodeWritesUptoSaid : Prop := nodeWritesUptoRow.holds Try.pinned (OpenSpec.upto nodeWritesSpec)

/-- 'engrosserlaw23.MessageWrites', WHERE WHAT IT READS IS OF BULK AT MOST 1048576: true; the input reads as it did. -/
def messageWritesUptoRow : OpenClaim := { program := "ytpakgjmcaefnmaa", sum := "566db53fd1ef6b60801e3a281e6ba0d40f2fcb17b859c0b827312957f899aa9d", func := "engrosser/engrosserlaw23.MessageWrites", spec := "messageWrites", apart := false, narrowed := true }
def MessageWritesUptoSaid : Prop := messageWritesUptoRow.holds Try.pinned (OpenSpec.upto messageWritesSpec)

/-- 'engrosserlaw23.MessageReads', WHERE WHAT IT READS IS OF BULK AT MOST 1048576: true; the input reads as it did. -/
def messageReadsUptoRow : OpenClaim := { program := "ytpakgjmcaefnmaa", sum := "566db53fd1ef6b60801e3a281e6ba0d40f2fcb17b859c0b827312957f899aa9d", func := "engrosser/engrosserlaw23.MessageReads", spec := "messageReads", apart := false, narrowed := true }
def MessageReadsUptoSaid : Prop := messageReadsUptoRow.holds Try.pinned (OpenSpec.upto messageReadsSpec)

end Rows
end Go.Proofs.Ytpakgjmcaefnmaa
