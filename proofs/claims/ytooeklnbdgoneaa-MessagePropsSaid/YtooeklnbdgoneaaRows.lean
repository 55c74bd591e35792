/-
  No cell of these rows narrows 'for every input' (looked for: loops, veiled, ifaces, maps, wideKeys, modest, calm, conditions, laid).
  DERIVED. THE GIVEN ROWS OF THIS SEAT. 4 by the template 'for every input the law returns true; each argument reads behind the call as it read before'; 0 by the template 'total and deterministic' (their statements: YtooeklnbdgoneaaTotals.lean).
  GIVEN WITH THE SEED: the statements are not yours to turn. If you find one false, say at which input.
  Laid BY PROGRAM, IN A SANDBOX (cutbox-rows.mjs): the forced cells as the released guide's own fill.sh prints them over the translation a93ecfb3e12327c6… (all of the seat's roots in one cut). By AI agents, Wed Nov 11 2026. No macro, syntax, notation, axiom, sorry.
-/
import Derived.Test.YtooeklnbdgoneaaChecked
import GoSem.Claim
import GoSem.ClaimJoined
import GoSem.ClaimMapViews
import Derived.JoinedTies
import Derived.KernelRfl
namespace Go.Proofs.Ytooeklnbdgoneaa
/- THE CELL 'sum', in the pinned program and in every row, IS THE sha256 OF THE DUMP (.gsa) THAT YtooeklnbdgoneaaProg.lean LOADS. Nothing in Lean hashes anything: it is a label: what it is worth is what the hold of that sum in a sandbox is worth. -/
noncomputable def Try.pinned : Pinned := { name := "ytooeklnbdgoneaa", sum := "a93ecfb3e12327c61f935952e614ab759d0aa9ca07d4fe161b24e30d81bb9e63", checked := Try.checked }
namespace Rows
def none {H : Type} : Left H := { results := [], args := [] }

/-- 'engrosserlaw28.LedgerRises': WHATEVER THE INPUT: true; the input reads as it did. -/
def ledgerRisesSpec : ChangeSpec := { name := "ledgerRises", fn := fun _ => fun
  | [d] => { results := [.lit (.bool true)], args := [d] }
  | _ => none }
def ledgerRisesRow : OpenClaim := { program := "ytooeklnbdgoneaa", sum := "a93ecfb3e12327c61f935952e614ab759d0aa9ca07d4fe161b24e30d81bb9e63", func := "engrosser/engrosserlaw28.LedgerRises", spec := "ledgerRises", apart := false }
def LedgerRisesSaid : Prop := ledgerRisesRow.holds Try.pinned (OpenSpec.ofChange ledgerRisesSpec)

/-- ITS FALSE NEIGHBOUR: 'it returns false'. Refute it at one input. -/
def ledgerRisesWrong : ChangeSpec := { name := "ledgerRises", fn := fun _ => fun
  | [d] => { results := [.lit (.bool false)], args := [d] }
  | _ => none }
def LedgerRisesWrongFalsely : Prop := ledgerRisesRow.holds Try.pinned (OpenSpec.ofChange ledgerRisesWrong)

/-- 'engrosserlaw23.MessageProps': WHATEVER THE INPUT: true; the input reads as it did. -/
def messagePropsSpec : ChangeSpec := { name := "messageProps", fn := fun _ => fun
  | [d] => { results := [.lit (.bool true)], args := [d] }
  | _ => none }
def messagePropsRow : OpenClaim := { program := "ytooeklnbdgoneaa", sum := "a93ecfb3e12327c61f935952e614ab759d0aa9ca07d4fe161b24e30d81bb9e63", func := "engrosser/engrosserlaw23.MessageProps", spec := "messageProps", apart := false }
def MessagePropsSaid : Prop := messagePropsRow.holds Try.pinned (OpenSpec.ofChange messagePropsSpec)

/-- ITS FALSE NEIGHBOUR: 'it returns false'. Refute it at one input. -/
def messagePropsWrong : ChangeSpec := { name := "messageProps", fn := fun _ => fun
  | [d] => { results := [.lit (.bool false)], args := [d] }
  | _ => none }
def MessagePropsWrongFalsely : Prop := messagePropsRow.holds Try.pinned (OpenSpec.ofChange messagePropsWrong)

/-- 'engrosserlaw23.MessageWrites': WHATEVER THE INPUT: true; the input reads as it did. -/
def messageWritesSpec : ChangeSpec := { name := "messageWrites", fn := fun _ => fun
  | [d] => { results := [.lit (.bool true)], args := [d] }
  | _ => none }
def messageWritesRow : OpenClaim := { program := "ytooeklnbdgoneaa", sum := "a93ecfb3e12327c61f935952e614ab759d0aa9ca07d4fe161b24e30d81bb9e63", func := "engrosser/engrosserlaw23.MessageWrites", spec := "messageWrites", apart := false }
def MessageWritesSaid : Prop := messageWritesRow.holds Try.pinned (OpenSpec.ofChange messageWritesSpec)

/-- ITS FALSE NEIGHBOUR: 'it returns false'. Refute it at one input. -/
def messageWritesWrong : ChangeSpec := { name := "messageWrites", fn := fun _ => fun
  | [d] => { results := [.lit (.bool false)], args := [d] }
  | _ => none }
def MessageWritesWrongFalsely : Prop := messageWritesRow.holds Try.pinned (OpenSpec.ofChange messageWritesWrong)

/-- 'engrosserlaw23.MessageReads': WHATEVER THE INPUT: true; the input reads as it did. -/
def messageReadsSpec : ChangeSpec := { name := "messageReads", fn := fun _ => fun
  | [d] => { results := [.lit (.bool true)], args := [d] }
  | _ => none }
def messageReadsRow : OpenClaim := { program := "ytooeklnbdgoneaa", sum := "a93ecfb3e12327c61f935952e614ab759d0aa9ca07d4fe161b24e30d81bb9e63", func := "engrosser/engrosserlaw23.MessageReads", spec := "messageReads", apart := false }
def MessageReadsSaid : Prop := messageReadsRow.holds Try.pinned (OpenSpec.ofChange messageReadsSpec)

/-- ITS FALSE NEIGHBOUR: 'it returns false'. Refute it at one input. -/
def messageReadsWrong : ChangeSpec := { name := "messageReads", fn := fun _ => fun
  | [d] => { results := [.lit (.bool false)], args := [d] }
  | _ => none }
def MessageReadsWrongFalsely : Prop := messageReadsRow.holds Try.pinned (OpenSpec.ofChange messageReadsWrong)

/- THE SECOND FORM. 'bulk': how many values and letters a reading holds, each counted each time it is reached (what is shared counts as often as it is met; a slice's spare places count too). A statement '..UptoSaid' is the law's where the arguments, and the package variables that the reading takes, are together of bulk at most 1048576: NARROWER than '..Said'. Prove '..Said' where nothing that the law and all that it calls make is longer than what came in: it says more and counts as full. Else prove '..UptoSaid'. A law counts once. -/
mutual
def uptoBulk {H : Type} : DataW H → Nat
  | .lit (.string bytes) => bytes.length + 1
  | .lit _ => 1
  | .nil => 1
  | .ptr d => uptoBulk d + 1
  | .slice elems spare => uptoBulkAll elems + uptoBulkAll spare + 1
  | .agg parts => uptoBulkAll parts + 1
  | .iface _ d => uptoBulk d + 1
  | .map entries => uptoBulkEntries entries + 1
  | .held _ => 1
def uptoBulkAll {H : Type} : List (DataW H) → Nat
  | [] => 0
  | d :: r => uptoBulk d + uptoBulkAll r
def uptoBulkEntries {H : Type} : List (Lit × DataW H) → Nat
  | [] => 0
  | x :: r => uptoBulkEntry x + uptoBulkEntries r
def uptoBulkEntry {H : Type} : Lit × DataW H → Nat
  | (.string bytes, d) => bytes.length + uptoBulk d + 1
  | (_, d) => uptoBulk d + 1
 end
def uptoSmall : (H : Type) → List (DataW H) → Bool := fun _ ds => decide (uptoBulkAll ds ≤ 1048576)
def OpenSpec.upto (s : _root_.Go.ChangeSpec) : _root_.Go.OpenSpec := { _root_.Go.OpenSpec.ofChange s with cond := some uptoSmall }

/-- 'engrosserlaw28.LedgerRises', WHERE WHAT IT READS IS OF BULK AT MOST 1048576: true; the input reads as it did. -/
def ledgerRisesUptoRow : OpenClaim := { program := "ytooeklnbdgoneaa", sum := "a93ecfb3e12327c61f935952e614ab759d0aa9ca07d4fe161b24e30d81bb9e63", func := "engrosser/engrosserlaw28.LedgerRises", spec := "ledgerRises", apart := false, narrowed := true }
def LedgerRisesUptoSaid : Prop := ledgerRisesUptoRow.holds Try.pinned (OpenSpec.upto ledgerRisesSpec)

/-- 'engrosserlaw23.MessageProps', WHERE WHAT IT READS IS OF BULK AT MOST 1048576: true; the input reads as it did. -/
def messagePropsUptoRow : OpenClaim := { program := "ytooeklnbdgoneaa", sum := "a93ecfb3e12327c61f935952e614ab759d0aa9ca07d4fe161b24e30d81bb9e63", func := "engrosser/engrosserlaw23.MessageProps", spec := "messageProps", apart := false, narrowed := true }
def MessagePropsUptoSaid : Prop := messagePropsUptoRow.holds Try.pinned (OpenSpec.upto messagePropsSpec)

/-- 'engrosserlaw23.MessageWrites', WHERE WHAT IT READS IS OF BULK AT MOST 1048576: true; the input reads as it did. -/
def messageWritesUptoRow : OpenClaim := { program := "ytooeklnbdgoneaa", sum := "a93ecfb3e12327c61f935952e614ab759d0aa9ca07d4fe161b24e30d81bb9e63", func := "engrosser/engrosserlaw23.MessageWrites", spec := "messageWrites", apart := false, narrowed := true }
def MessageWritesUptoSaid : Prop := messageWritesUptoRow.holds Try.pinned (OpenSpec.upto messageWritesSpec)

/-- 'engrosserlaw23.MessageReads', WHERE WHAT IT READS IS OF BULK AT MOST 1048576: true; the input reads as it did. -/
def messageReadsUptoRow : OpenClaim := { program := "ytooeklnbdgoneaa", sum := "a93ecfb3e12327c61f935952e614ab759d0aa9ca07d4fe161b24e30d81bb9e63", func := "engrosser/engrosserlaw23.MessageReads", spec := "messageReads", apart := false, narrowed := true }
def MessageReadsUptoSaid : Prop := messageReadsUptoRow.holds Try.pinned (OpenSpec.upto messageReadsSpec)

end Rows
end Go.Proofs.Ytooeklnbdgoneaa
