/- Contracts of the program's functions, each walked once; the conditions stand in each theorem. -/
import Derived.Test.YtpakgjmcaefnmaaDoorSha9
set_option linter.unusedSimpArgs false
set_option linter.unusedVariables false
set_option autoImplicit false
namespace Go.Proofs.YtpakgjmcaefnmaaDoor
open Go Go.AM Go.Proofs

variable {Γ : Nat → List AV}

theorem ba_get' (l : List UInt8) (i : Nat) (h : i < l.length) : (ByteArray.mk l.toArray)[i]? = some l[i] := by
  rw [getElem?_pos (ByteArray.mk l.toArray) i (by simpa [bs_size] using h)]
  rfl
end Go.Proofs.YtpakgjmcaefnmaaDoor


