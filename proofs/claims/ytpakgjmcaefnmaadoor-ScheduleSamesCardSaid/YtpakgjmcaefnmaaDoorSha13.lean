/- Contracts of the program's functions, each walked once; the conditions stand in each theorem. -/
import Derived.Test.YtpakgjmcaefnmaaDoorSha9
import Derived.Test.YtpakgjmcaefnmaaDoorAMp6
set_option linter.unusedSimpArgs false
set_option linter.unusedVariables false
set_option autoImplicit false
namespace Go.Proofs.YtpakgjmcaefnmaaDoor
open Go Go.AM Go.Proofs

variable {Γ : Nat → List AV}

/-- n octets, k of them written. -/
def filled (n k : Nat) (c : UInt8) : List UInt8 := List.replicate k c ++ List.replicate (n - k) 0
end Go.Proofs.YtpakgjmcaefnmaaDoor


