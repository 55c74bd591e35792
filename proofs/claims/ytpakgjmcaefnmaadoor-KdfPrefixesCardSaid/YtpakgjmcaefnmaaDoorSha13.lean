/- Contracts of the program's functions, each walked once; the conditions stand in each theorem. -/
import Derived.Test.YtpakgjmcaefnmaaDoorSha10
import Derived.Test.YtpakgjmcaefnmaaDoorAMp6
set_option linter.unusedSimpArgs false
set_option linter.unusedVariables false
set_option autoImplicit false
namespace Go.Proofs.YtpakgjmcaefnmaaDoor
open Go Go.AM Go.Proofs

variable {Γ : Nat → List AV}

/-- n octets, k of them written. -/
def filled (n k : Nat) (c : UInt8) : List UInt8 := List.replicate k c ++ List.replicate (n - k) 0
theorem filled_zero (n : Nat) (c : UInt8) : filled n 0 c = List.replicate n 0 := by simp [filled]
theorem filled_len (n k : Nat) (c : UInt8) (h : k ≤ n) : (filled n k c).length = n := by simp [filled]; omega
theorem filled_set (n k : Nat) (c : UInt8) (h : k < n) : ((filled n k c).map byteV).set k (byteV c) = (filled n (k + 1) c).map byteV := by
  rw [← List.map_set]
  congr 1
  simp only [filled]
  rw [List.set_append_right _ _ (by simp)]
  rw [List.length_replicate, Nat.sub_self, show n - k = (n - (k + 1)) + 1 by omega, List.replicate_succ (n := n - (k + 1)), List.set_cons_zero, List.replicate_succ', List.append_assoc]
  rfl

end Go.Proofs.YtpakgjmcaefnmaaDoor


