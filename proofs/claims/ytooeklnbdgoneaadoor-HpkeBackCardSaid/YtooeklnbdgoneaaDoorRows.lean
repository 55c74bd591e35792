/-
  NARROWER THAN 'FOR EVERY INPUT', by the rows' own cells (each row's printed sentence says how): MacNoughts: laid · VaultWraps: laid · VaultUnwraps: laid · VaultContexts: laid · HpkeSeals: laid · HpkeOpens: laid · HpkeBack: laid · HpkeReads: laid.
  DERIVED. THE GIVEN ROWS OF THIS SEAT. 8 by the template 'for every input the law returns true; each argument reads behind the call as it read before'; 0 by the template 'total and deterministic' (their statements: YtooeklnbdgoneaaDoorTotals.lean).
  GIVEN WITH THE SEED: the statements are not yours to turn. If you find one false, say at which input.
  Laid BY PROGRAM, IN A SANDBOX (cutbox-rows.mjs): the forced cells as the released guide's own fill.sh prints them over the translation f47c6d87364266c4… (all of the seat's roots in one cut). By AI agents, Wed Nov 11 2026. No macro, syntax, notation, axiom, sorry.
-/
import Derived.Test.YtooeklnbdgoneaaDoorChecked
import GoSem.Claim
import GoSem.ClaimJoined
import GoSem.ClaimMapViews
import Derived.JoinedTies
import Derived.KernelRfl
namespace Go.Proofs.YtooeklnbdgoneaaDoor
/- THE CELL 'sum', in the pinned program and in every row, IS THE sha256 OF THE DUMP (.gsa) THAT YtooeklnbdgoneaaDoorProg.lean LOADS. Nothing in Lean hashes anything: it is a label: what it is worth is what the hold of that sum in a sandbox is worth. -/
noncomputable def Tryd.pinned : Pinned := { name := "ytooeklnbdgoneaadoor", sum := "f47c6d87364266c4dc6f6f4b2c7abe7c003b7a96c31033f74437ca193e9067e2", checked := Tryd.checked }
namespace Rows
def none {H : Type} : Left H := { results := [], args := [] }

/- WHAT THE LISTED PACKAGE-LEVEL VARIABLES READ AS WHEN THE CALL BEGINS. Each datum BY PROGRAM (the guide's laid-datum.mjs) off the statement by which the dump's own 'gosem.cut.vars' lays the variable. In a bare row this is a premise. The card (YtooeklnbdgoneaaDoorCards.lean) ties it to the program's text. -/
def laid_engrosser_sha_rounds {H : Type} : DataW H := .agg [.lit (.int .u32 1116352408), .lit (.int .u32 1899447441), .lit (.int .u32 3049323471), .lit (.int .u32 3921009573), .lit (.int .u32 961987163), .lit (.int .u32 1508970993), .lit (.int .u32 2453635748), .lit (.int .u32 2870763221), .lit (.int .u32 3624381080), .lit (.int .u32 310598401), .lit (.int .u32 607225278), .lit (.int .u32 1426881987), .lit (.int .u32 1925078388), .lit (.int .u32 2162078206), .lit (.int .u32 2614888103), .lit (.int .u32 3248222580), .lit (.int .u32 3835390401), .lit (.int .u32 4022224774), .lit (.int .u32 264347078), .lit (.int .u32 604807628), .lit (.int .u32 770255983), .lit (.int .u32 1249150122), .lit (.int .u32 1555081692), .lit (.int .u32 1996064986), .lit (.int .u32 2554220882), .lit (.int .u32 2821834349), .lit (.int .u32 2952996808), .lit (.int .u32 3210313671), .lit (.int .u32 3336571891), .lit (.int .u32 3584528711), .lit (.int .u32 113926993), .lit (.int .u32 338241895), .lit (.int .u32 666307205), .lit (.int .u32 773529912), .lit (.int .u32 1294757372), .lit (.int .u32 1396182291), .lit (.int .u32 1695183700), .lit (.int .u32 1986661051), .lit (.int .u32 2177026350), .lit (.int .u32 2456956037), .lit (.int .u32 2730485921), .lit (.int .u32 2820302411), .lit (.int .u32 3259730800), .lit (.int .u32 3345764771), .lit (.int .u32 3516065817), .lit (.int .u32 3600352804), .lit (.int .u32 4094571909), .lit (.int .u32 275423344), .lit (.int .u32 430227734), .lit (.int .u32 506948616), .lit (.int .u32 659060556), .lit (.int .u32 883997877), .lit (.int .u32 958139571), .lit (.int .u32 1322822218), .lit (.int .u32 1537002063), .lit (.int .u32 1747873779), .lit (.int .u32 1955562222), .lit (.int .u32 2024104815), .lit (.int .u32 2227730452), .lit (.int .u32 2361852424), .lit (.int .u32 2428436474), .lit (.int .u32 2756734187), .lit (.int .u32 3204031479), .lit (.int .u32 3329325298)]
def laid_engrosser_sha_start {H : Type} : DataW H := .agg [.lit (.int .u32 1779033703), .lit (.int .u32 3144134277), .lit (.int .u32 1013904242), .lit (.int .u32 2773480762), .lit (.int .u32 1359893119), .lit (.int .u32 2600822924), .lit (.int .u32 528734635), .lit (.int .u32 1541459225)]

/-- 'engrosserlaw03.MacNoughts': WHATEVER THE INPUT: true; the input reads as it did. -/
def macNoughtsSpec : ChangeSpec := { name := "macNoughts", fn := fun _ => fun
  | [d1, d2, d3] => { results := [.lit (.bool true)], args := [d1, d2, d3] }
  | _ => none }
def macNoughtsRow : OpenClaim := { program := "ytooeklnbdgoneaadoor", sum := "f47c6d87364266c4dc6f6f4b2c7abe7c003b7a96c31033f74437ca193e9067e2", func := "engrosser/engrosserlaw03.MacNoughts", spec := "macNoughts", unfollowed := true, recurses := true, named := ["engrosser/sha.start", "engrosser/sha.rounds"], apart := false, laid := [("engrosser/sha.rounds", laid_engrosser_sha_rounds), ("engrosser/sha.start", laid_engrosser_sha_start)] }
def MacNoughtsSaid : Prop := macNoughtsRow.holds Tryd.pinned (OpenSpec.ofChange macNoughtsSpec)

/-- ITS FALSE NEIGHBOUR: 'it returns false'. Refute it at one input. -/
def macNoughtsWrong : ChangeSpec := { name := "macNoughts", fn := fun _ => fun
  | [d1, d2, d3] => { results := [.lit (.bool false)], args := [d1, d2, d3] }
  | _ => none }
def MacNoughtsWrongFalsely : Prop := macNoughtsRow.holds Tryd.pinned (OpenSpec.ofChange macNoughtsWrong)

/-- 'engrosserlaw17.VaultWraps': WHATEVER THE INPUT: true; the input reads as it did. -/
def vaultWrapsSpec : ChangeSpec := { name := "vaultWraps", fn := fun _ => fun
  | [d] => { results := [.lit (.bool true)], args := [d] }
  | _ => none }
def vaultWrapsRow : OpenClaim := { program := "ytooeklnbdgoneaadoor", sum := "f47c6d87364266c4dc6f6f4b2c7abe7c003b7a96c31033f74437ca193e9067e2", func := "engrosser/engrosserlaw17.VaultWraps", spec := "vaultWraps", unfollowed := true, recurses := true, named := ["engrosser/sha.start", "engrosser/sha.rounds"], apart := false, laid := [("engrosser/sha.rounds", laid_engrosser_sha_rounds), ("engrosser/sha.start", laid_engrosser_sha_start)] }
def VaultWrapsSaid : Prop := vaultWrapsRow.holds Tryd.pinned (OpenSpec.ofChange vaultWrapsSpec)

/-- ITS FALSE NEIGHBOUR: 'it returns false'. Refute it at one input. -/
def vaultWrapsWrong : ChangeSpec := { name := "vaultWraps", fn := fun _ => fun
  | [d] => { results := [.lit (.bool false)], args := [d] }
  | _ => none }
def VaultWrapsWrongFalsely : Prop := vaultWrapsRow.holds Tryd.pinned (OpenSpec.ofChange vaultWrapsWrong)

/-- 'engrosserlaw17.VaultUnwraps': WHATEVER THE INPUT: true; the input reads as it did. -/
def vaultUnwrapsSpec : ChangeSpec := { name := "vaultUnwraps", fn := fun _ => fun
  | [d] => { results := [.lit (.bool true)], args := [d] }
  | _ => none }
def vaultUnwrapsRow : OpenClaim := { program := "ytooeklnbdgoneaadoor", sum := "f47c6d87364266c4dc6f6f4b2c7abe7c003b7a96c31033f74437ca193e9067e2", func := "engrosser/engrosserlaw17.VaultUnwraps", spec := "vaultUnwraps", unfollowed := true, recurses := true, named := ["engrosser/sha.start", "engrosser/sha.rounds"], apart := false, laid := [("engrosser/sha.rounds", laid_engrosser_sha_rounds), ("engrosser/sha.start", laid_engrosser_sha_start)] }
def VaultUnwrapsSaid : Prop := vaultUnwrapsRow.holds Tryd.pinned (OpenSpec.ofChange vaultUnwrapsSpec)

/-- ITS FALSE NEIGHBOUR: 'it returns false'. Refute it at one input. -/
def vaultUnwrapsWrong : ChangeSpec := { name := "vaultUnwraps", fn := fun _ => fun
  | [d] => { results := [.lit (.bool false)], args := [d] }
  | _ => none }
def VaultUnwrapsWrongFalsely : Prop := vaultUnwrapsRow.holds Tryd.pinned (OpenSpec.ofChange vaultUnwrapsWrong)

/-- 'engrosserlaw17.VaultContexts': WHATEVER THE INPUT: true; the input reads as it did. -/
def vaultContextsSpec : ChangeSpec := { name := "vaultContexts", fn := fun _ => fun
  | [d1, d2, d3] => { results := [.lit (.bool true)], args := [d1, d2, d3] }
  | _ => none }
def vaultContextsRow : OpenClaim := { program := "ytooeklnbdgoneaadoor", sum := "f47c6d87364266c4dc6f6f4b2c7abe7c003b7a96c31033f74437ca193e9067e2", func := "engrosser/engrosserlaw17.VaultContexts", spec := "vaultContexts", unfollowed := true, recurses := true, named := ["engrosser/sha.start", "engrosser/sha.rounds"], apart := false, laid := [("engrosser/sha.rounds", laid_engrosser_sha_rounds), ("engrosser/sha.start", laid_engrosser_sha_start)] }
def VaultContextsSaid : Prop := vaultContextsRow.holds Tryd.pinned (OpenSpec.ofChange vaultContextsSpec)

/-- ITS FALSE NEIGHBOUR: 'it returns false'. Refute it at one input. -/
def vaultContextsWrong : ChangeSpec := { name := "vaultContexts", fn := fun _ => fun
  | [d1, d2, d3] => { results := [.lit (.bool false)], args := [d1, d2, d3] }
  | _ => none }
def VaultContextsWrongFalsely : Prop := vaultContextsRow.holds Tryd.pinned (OpenSpec.ofChange vaultContextsWrong)

/-- 'engrosserlaw08.HpkeSeals': WHATEVER THE INPUT: true; the input reads as it did. -/
def hpkeSealsSpec : ChangeSpec := { name := "hpkeSeals", fn := fun _ => fun
  | [d1, d2] => { results := [.lit (.bool true)], args := [d1, d2] }
  | _ => none }
def hpkeSealsRow : OpenClaim := { program := "ytooeklnbdgoneaadoor", sum := "f47c6d87364266c4dc6f6f4b2c7abe7c003b7a96c31033f74437ca193e9067e2", func := "engrosser/engrosserlaw08.HpkeSeals", spec := "hpkeSeals", unfollowed := true, recurses := true, named := ["engrosser/sha.start", "engrosser/sha.rounds"], apart := false, laid := [("engrosser/sha.rounds", laid_engrosser_sha_rounds), ("engrosser/sha.start", laid_engrosser_sha_start)] }
def HpkeSealsSaid : Prop := hpkeSealsRow.holds Tryd.pinned (OpenSpec.ofChange hpkeSealsSpec)

/-- ITS FALSE NEIGHBOUR: 'it returns false'. Refute it at one input. -/
def hpkeSealsWrong : ChangeSpec := { name := "hpkeSeals", fn := fun _ => fun
  | [d1, d2] => { results := [.lit (.bool false)], args := [d1, d2] }
  | _ => none }
def HpkeSealsWrongFalsely : Prop := hpkeSealsRow.holds Tryd.pinned (OpenSpec.ofChange hpkeSealsWrong)

/-- 'engrosserlaw08.HpkeOpens': WHATEVER THE INPUT: true; the input reads as it did. -/
def hpkeOpensSpec : ChangeSpec := { name := "hpkeOpens", fn := fun _ => fun
  | [d1, d2, d3] => { results := [.lit (.bool true)], args := [d1, d2, d3] }
  | _ => none }
def hpkeOpensRow : OpenClaim := { program := "ytooeklnbdgoneaadoor", sum := "f47c6d87364266c4dc6f6f4b2c7abe7c003b7a96c31033f74437ca193e9067e2", func := "engrosser/engrosserlaw08.HpkeOpens", spec := "hpkeOpens", unfollowed := true, recurses := true, named := ["engrosser/sha.start", "engrosser/sha.rounds"], apart := false, laid := [("engrosser/sha.rounds", laid_engrosser_sha_rounds), ("engrosser/sha.start", laid_engrosser_sha_start)] }
def HpkeOpensSaid : Prop := hpkeOpensRow.holds Tryd.pinned (OpenSpec.ofChange hpkeOpensSpec)

/-- ITS FALSE NEIGHBOUR: 'it returns false'. Refute it at one input. -/
def hpkeOpensWrong : ChangeSpec := { name := "hpkeOpens", fn := fun _ => fun
  | [d1, d2, d3] => { results := [.lit (.bool false)], args := [d1, d2, d3] }
  | _ => none }
def HpkeOpensWrongFalsely : Prop := hpkeOpensRow.holds Tryd.pinned (OpenSpec.ofChange hpkeOpensWrong)

/-- 'engrosserlaw08.HpkeBack': WHATEVER THE INPUT: true; the input reads as it did. -/
def hpkeBackSpec : ChangeSpec := { name := "hpkeBack", fn := fun _ => fun
  | [d1, d2] => { results := [.lit (.bool true)], args := [d1, d2] }
  | _ => none }
def hpkeBackRow : OpenClaim := { program := "ytooeklnbdgoneaadoor", sum := "f47c6d87364266c4dc6f6f4b2c7abe7c003b7a96c31033f74437ca193e9067e2", func := "engrosser/engrosserlaw08.HpkeBack", spec := "hpkeBack", unfollowed := true, recurses := true, named := ["engrosser/sha.start", "engrosser/sha.rounds"], apart := false, laid := [("engrosser/sha.rounds", laid_engrosser_sha_rounds), ("engrosser/sha.start", laid_engrosser_sha_start)] }
def HpkeBackSaid : Prop := hpkeBackRow.holds Tryd.pinned (OpenSpec.ofChange hpkeBackSpec)

/-- ITS FALSE NEIGHBOUR: 'it returns false'. Refute it at one input. -/
def hpkeBackWrong : ChangeSpec := { name := "hpkeBack", fn := fun _ => fun
  | [d1, d2] => { results := [.lit (.bool false)], args := [d1, d2] }
  | _ => none }
def HpkeBackWrongFalsely : Prop := hpkeBackRow.holds Tryd.pinned (OpenSpec.ofChange hpkeBackWrong)

/-- 'engrosserlaw08.HpkeReads': WHATEVER THE INPUT: true; the input reads as it did. -/
def hpkeReadsSpec : ChangeSpec := { name := "hpkeReads", fn := fun _ => fun
  | [d1, d2, d3] => { results := [.lit (.bool true)], args := [d1, d2, d3] }
  | _ => none }
def hpkeReadsRow : OpenClaim := { program := "ytooeklnbdgoneaadoor", sum := "f47c6d87364266c4dc6f6f4b2c7abe7c003b7a96c31033f74437ca193e9067e2", func := "engrosser/engrosserlaw08.HpkeReads", spec := "hpkeReads", unfollowed := true, recurses := true, named := ["engrosser/sha.start", "engrosser/sha.rounds"], apart := false, laid := [("engrosser/sha.rounds", laid_engrosser_sha_rounds), ("engrosser/sha.start", laid_engrosser_sha_start)] }
def HpkeReadsSaid : Prop := hpkeReadsRow.holds Tryd.pinned (OpenSpec.ofChange hpkeReadsSpec)

/-- ITS FALSE NEIGHBOUR: 'it returns false'. Refute it at one input. -/
def hpkeReadsWrong : ChangeSpec := { name := "hpkeReads", fn := fun _ => fun
  | [d1, d2, d3] => { results := [.lit (.bool false)], args := [d1, d2, d3] }
  | _ => none }
def HpkeReadsWrongFalsely : Prop := hpkeReadsRow.holds Tryd.pinned (OpenSpec.ofChange hpkeReadsWrong)

/- THE SECOND FORM. 'bulk': how many values and letters a reading holds, each counted each time it is reached (what is shared counts as often as it is met; a slice's spare places count too). A statement '..UptoSaid' is the law's where the arguments, and the package variables that the reading takes, are together of bulk at most 1048576: NARROWER than '..Said'. Prove '..Said' where nothing that the law and all that it calls make is longer than what came in: it says more and counts as full. Else prove '..UptoSaid'. A law counts once. -/
mutual
def uptoBulk {H : Type} : DataW H → Nat
  | .lit (.string bytes) => bytes.length + 1
  | .lit _ => 1
  | .nil => 1
  | .ptr d => uptoBulk d + 1
  | .slice elems spare => uptoBulkAll elems + uptoBulkAll spare + 1
  | .agg parts => uptoBulkAll parts + 1
  | .iface _ d => uptoBulk d + 1
  | .map entries => uptoBulkEntries entries + 1
  | .held _ => 1
def uptoBulkAll {H : Type} : List (DataW H) → Nat
  | [] => 0
  | d :: r => uptoBulk d + uptoBulkAll r
def uptoBulkEntries {H : Type} : List (Lit × DataW H) → Nat
  | [] => 0
  | x :: r => uptoBulkEntry x + uptoBulkEntries r
def uptoBulkEntry {H : Type} : Lit × DataW H → Nat
  | (.string bytes, d) => bytes.length + uptoBulk d + 1
  | (_, d) => uptoBulk d + 1
 end
def uptoSmall : (H : Type) → List (DataW H) → Bool := fun _ ds => decide (uptoBulkAll ds ≤ 1048576)
def OpenSpec.upto (s : _root_.Go.ChangeSpec) : _root_.Go.OpenSpec := { _root_.Go.OpenSpec.ofChange s with cond := some uptoSmall }

/-- 'engrosserlaw03.MacNoughts', WHERE WHAT IT READS IS OF BULK AT MOST 1048576: true; the input reads as it did. -/
def macNoughtsUptoRow : OpenClaim := { program := "ytooeklnbdgoneaadoor", sum := "f47c6d87364266c4dc6f6f4b2c7abe7c003b7a96c31033f74437ca193e9067e2", func := "engrosser/engrosserlaw03.MacNoughts", spec := "macNoughts", unfollowed := true, recurses := true, named := ["engrosser/sha.start", "engrosser/sha.rounds"], apart := false, laid := [("engrosser/sha.rounds", laid_engrosser_sha_rounds), ("engrosser/sha.start", laid_engrosser_sha_start)], narrowed := true }
def MacNoughtsUptoSaid : Prop := macNoughtsUptoRow.holds Tryd.pinned (OpenSpec.upto macNoughtsSpec)

/-- 'engrosserlaw17.VaultWraps', WHERE WHAT IT READS IS OF BULK AT MOST 1048576: true; the input reads as it did. -/
def vaultWrapsUptoRow : OpenClaim := { program := "ytooeklnbdgoneaadoor", sum := "f47c6d87364266c4dc6f6f4b2c7abe7c003b7a96c31033f74437ca193e9067e2", func := "engrosser/engrosserlaw17.VaultWraps", spec := "vaultWraps", unfollowed := true, recurses := true, named := ["engrosser/sha.start", "engrosser/sha.rounds"], apart := false, laid := [("engrosser/sha.rounds", laid_engrosser_sha_rounds), ("engrosser/sha.start", laid_engrosser_sha_start)], narrowed := true }
def VaultWrapsUptoSaid : Prop := vaultWrapsUptoRow.holds Tryd.pinned (OpenSpec.upto vaultWrapsSpec)

/-- 'engrosserlaw17.VaultUnwraps', WHERE WHAT IT READS IS OF BULK AT MOST 1048576: true; the input reads as it did. -/
def vaultUnwrapsUptoRow : OpenClaim := { program := "ytooeklnbdgoneaadoor", sum := "f47c6d87364266c4dc6f6f4b2c7abe7c003b7a96c31033f74437ca193e9067e2", func := "engrosser/engrosserlaw17.VaultUnwraps", spec := "vaultUnwraps", unfollowed := true, recurses := true, named := ["engrosser/sha.start", "engrosser/sha.rounds"], apart := false, laid := [("engrosser/sha.rounds", laid_engrosser_sha_rounds), ("engrosser/sha.start", laid_engrosser_sha_start)], narrowed := true }
def VaultUnwrapsUptoSaid : Prop := vaultUnwrapsUptoRow.holds Tryd.pinned (OpenSpec.upto vaultUnwrapsSpec)

/-- 'engrosserlaw17.VaultContexts', WHERE WHAT IT READS IS OF BULK AT MOST 1048576: true; the input reads as it did. -/
def vaultContextsUptoRow : OpenClaim := { program := "ytooeklnbdgoneaadoor", sum := "f47c6d87364266c4dc6f6f4b2c7abe7c003b7a96c31033f74437ca193e9067e2", func := "engrosser/engrosserlaw17.VaultContexts", spec := "vaultContexts", unfollowed := true, recurses := true, named := ["engrosser/sha.start", "engrosser/sha.rounds"], apart := false, laid := [("engrosser/sha.rounds", laid_engrosser_sha_rounds), ("engrosser/sha.start", laid_engrosser_sha_start)], narrowed := true }
def VaultContextsUptoSaid : Prop := vaultContextsUptoRow.holds Tryd.pinned (OpenSpec.upto vaultContextsSpec)

/-- 'engrosserlaw08.HpkeSeals', WHERE WHAT IT READS IS OF BULK AT MOST 1048576: true; the input reads as it did. -/
def hpkeSealsUptoRow : OpenClaim := { program := "ytooeklnbdgoneaadoor", sum := "f47c6d87364266c4dc6f6f4b2c7abe7c003b7a96c31033f74437ca193e9067e2", func := "engrosser/engrosserlaw08.HpkeSeals", spec := "hpkeSeals", unfollowed := true, recurses := true, named := ["engrosser/sha.start", "engrosser/sha.rounds"], apart := false, laid := [("engrosser/sha.rounds", laid_engrosser_sha_rounds), ("engrosser/sha.start", laid_engrosser_sha_start)], narrowed := true }
def HpkeSealsUptoSaid : Prop := hpkeSealsUptoRow.holds Tryd.pinned (OpenSpec.upto hpkeSealsSpec)

/-- 'engrosserlaw08.HpkeOpens', WHERE WHAT IT READS IS OF BULK AT MOST 1048576: true; the input reads as it did. -/
def hpkeOpensUptoRow : OpenClaim := { program := "ytooeklnbdgoneaadoor", sum := "f47c6d87364266c4dc6f6f4b2c7abe7c003b7a96c31033f74437ca193e9067e2", func := "engrosser/engrosserlaw08.HpkeOpens", spec := "hpkeOpens", unfollowed := true, recurses := true, named := ["engrosser/sha.start", "engrosser/sha.rounds"], apart := false, laid := [("engrosser/sha.rounds", laid_engrosser_sha_rounds), ("engrosser/sha.start", laid_engrosser_sha_start)], narrowed := true }
def HpkeOpensUptoSaid : Prop := hpkeOpensUptoRow.holds Tryd.pinned (OpenSpec.upto hpkeOpensSpec)

/-- 'engrosserlaw08.HpkeBack', WHERE WHAT IT READS IS OF BULK AT MOST 1048576: true; the input reads as it did. -/
def hpkeBackUptoRow : OpenClaim := { program := "ytooeklnbdgoneaadoor", sum := "f47c6d87364266c4dc6f6f4b2c7abe7c003b7a96c31033f74437ca193e9067e2", func := "engrosser/engrosserlaw08.HpkeBack", spec := "hpkeBack", unfollowed := true, recurses := true, named := ["engrosser/sha.start", "engrosser/sha.rounds"], apart := false, laid := [("engrosser/sha.rounds", laid_engrosser_sha_rounds), ("engrosser/sha.start", laid_engrosser_sha_start)], narrowed := true }
def HpkeBackUptoSaid : Prop := hpkeBackUptoRow.holds Tryd.pinned (OpenSpec.upto hpkeBackSpec)

/-- 'engrosserlaw08.HpkeReads', WHERE WHAT IT READS IS OF BULK AT MOST 1048576: true; the input reads as it did. -/
def hpkeReadsUptoRow : OpenClaim := { program := "ytooeklnbdgoneaadoor", sum := "f47c6d87364266c4dc6f6f4b2c7abe7c003b7a96c31033f74437ca193e9067e2", func := "engrosser/engrosserlaw08.HpkeReads", spec := "hpkeReads", unfollowed := true, recurses := true, named := ["engrosser/sha.start", "engrosser/sha.rounds"], apart := false, laid := [("engrosser/sha.rounds", laid_engrosser_sha_rounds), ("engrosser/sha.start", laid_engrosser_sha_start)], narrowed := true }
def HpkeReadsUptoSaid : Prop := hpkeReadsUptoRow.holds Tryd.pinned (OpenSpec.upto hpkeReadsSpec)

end Rows
end Go.Proofs.YtooeklnbdgoneaaDoor
