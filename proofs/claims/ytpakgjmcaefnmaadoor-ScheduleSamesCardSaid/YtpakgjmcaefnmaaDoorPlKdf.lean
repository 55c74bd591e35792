/- Plain laws of numbers and lists that the walks below need; no condition. -/
import Derived.Test.YtpakgjmcaefnmaaDoorPlMac
set_option linter.unusedSimpArgs false
set_option linter.unusedVariables false
set_option autoImplicit false
namespace Go.AM

/-! ### Expanding, in plain Lean -/
namespace Kdf
variable (secret info : List UInt8)
def blk : Nat → List UInt8
  | 0 => []
  | i + 1 => Mac.tag secret (blk i ++ info ++ [UInt8.ofNat (i + 1)])
def row : Nat → List UInt8
  | 0 => []
  | i + 1 => row i ++ blk secret info (i + 1)
theorem blk_len (i : Nat) : (blk secret info (i + 1)).length = 32 := Mac.tag_len _ _
theorem row_len : ∀ i : Nat, (row secret info i).length = 32 * i
  | 0 => rfl
  | i + 1 => by rw [row, List.length_append, row_len i, blk_len]; omega
def rounds (n : Nat) : Nat := (n + 31) / 32
def expand (n : Nat) : List UInt8 := (row secret info (rounds n)).take n
theorem rounds_le (n : Nat) : n ≤ 32 * rounds n := by unfold rounds; omega
theorem expand_len (n : Nat) : (expand secret info n).length = n := by
  rw [expand, List.length_take, row_len]
  have := rounds_le n
  omega
/-- A round is due. -/
theorem due (n i : Nat) : 32 * i < n ↔ i < rounds n := by unfold rounds; omega
def ok (n : Int) : Bool := decide (0 ≤ n) && decide (n ≤ 8160)
def get (n : Int) : List UInt8 := if ok n = true then expand secret info n.toNat else []
end Kdf
end Go.AM


