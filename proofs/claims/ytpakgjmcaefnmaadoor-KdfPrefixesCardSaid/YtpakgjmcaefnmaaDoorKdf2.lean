/- Contracts of the program's functions, each walked once; the conditions stand in each theorem. -/
import Derived.Test.YtpakgjmcaefnmaaDoorKdf1
set_option linter.unusedSimpArgs false
set_option linter.unusedVariables false
set_option autoImplicit false
namespace Go.Proofs.YtpakgjmcaefnmaaDoor
open Go Go.AM Go.Proofs

variable {Γ : Nat → List AV}

theorem u8_of_i64 (i : Nat) : iconv .u8 (i : Int) = ((UInt8.ofNat i).toNat : Int) := by
  rw [iconv_u (k := .u8) rfl, UInt8.toNat_ofNat']
  simp only [IntKind.bits]

end Go.Proofs.YtpakgjmcaefnmaaDoor


