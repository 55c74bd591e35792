/- Plain laws of numbers and lists that the walks below need; no condition. -/
import Derived.Test.YtpakgjmcaefnmaaDoorAMp4
import Derived.Test.YtpakgjmcaefnmaaDoorAMp5
set_option linter.unusedSimpArgs false
set_option linter.unusedVariables false
set_option autoImplicit false
namespace Go.AM
open Go

/-! ### Slices of whole numbers; nodes -/
def intC (n : Int) : AV := .v (.int .i64 n)
def intsV (l : List Int) (sp : Sp) : AV := .sl 1 l.length (l.map intC) sp
structure NodeV where
  kind : Int
  name : List UInt8
  key : Nat
  parent : List UInt8
  unm : List Int
  deriving DecidableEq
def NodeV.cells (n : NodeV) : List AV := [.v (.int .i64 n.kind), bytesV n.name .any, .v (.int .u64 n.key), bytesV n.parent .any, intsV n.unm .any]
def NodeV.nought : NodeV := ⟨0, [], 0, [], []⟩

def okAt (l : List Int) (i : Nat) : Prop := 0 ≤ l.getD i 0 ∧ l.getD i 0 < 32 ∧ (0 < i → l.getD (i - 1) 0 < l.getD i 0)
instance decOkAt (l : List Int) (i : Nat) : Decidable (okAt l i) := by unfold okAt; infer_instance
def Rising (l : List Int) : Prop := ∀ i, i < l.length → okAt l i
instance decRising (l : List Int) : Decidable (Rising l) := by unfold Rising; infer_instance
def NodeV.held (N : NodeV) : Prop := 2 ≤ N.key ∧ N.key ≤ 2305843009213693949 ∧ (N.parent.length = 0 ∨ N.parent.length = 32)
instance decNodeHeld (N : NodeV) : Decidable N.held := by unfold NodeV.held; infer_instance
def NodeV.right (N : NodeV) : Prop :=
  if N.kind = 0 then N = NodeV.nought
  else if N.kind = 1 then (1 ≤ N.name.length ∧ N.name.length ≤ 16 ∧ N.held ∧ N.unm.length = 0)
  else if N.kind = 2 then (N.name.length = 0 ∧ N.held ∧ Rising N.unm)
  else False
instance decNodeRight (N : NodeV) : Decidable N.right := by unfold NodeV.right; infer_instance
end Go.AM


