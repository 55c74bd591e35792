/- Contracts of the program's functions, each walked once; the conditions stand in each theorem. -/
import Derived.Test.YtpakgjmcaefnmaaDoorEye3
import Derived.Test.YtpakgjmcaefnmaaDoorAMp4
import Derived.Test.YtpakgjmcaefnmaaDoorAMp3
import Derived.Test.YtpakgjmcaefnmaaDoorAMp5
set_option linter.unusedSimpArgs false
set_option linter.unusedVariables false
set_option autoImplicit false
namespace Go.Proofs.YtpakgjmcaefnmaaDoor
open Go Go.AM Go.Proofs



variable {Γ : Nat → List AV}

theorem open_set (l : List UInt8) (s : AS) (hl : l.length ≤ 2 ^ 45) : ACalls Tryd.prog Γ 115 [bytesV l .any] s (fun r s' => ∃ p, s.objs p = none ∧ r = .ptr p 0 ∧ s' = s.set p (eyeC (l, 0))) := EyeS.open (open_calls l s hl)
theorem eyeU8_set (s : AS) (p : Nat) (st : EyeSt) (h : s.objs p = some (eyeC st)) : ACalls Tryd.prog Γ 138 [.ptr p 0] s (fun r s' => r = .v (.int .i64 (eyeNum 1 st).1) ∧ s' = s.set p (eyeC (eyeNum 1 st).2)) := EyeS.call (eyeU8_calls _ s p st (EyeS.at h))
theorem eyeU64_set (s : AS) (p : Nat) (st : EyeSt) (h : s.objs p = some (eyeC st)) : ACalls Tryd.prog Γ 116 [.ptr p 0] s (fun r s' => r = .v (.int .u64 (eyeNum 8 st).1) ∧ s' = s.set p (eyeC (eyeNum 8 st).2)) := EyeS.call (eyeU64_calls _ s p st (EyeS.at h))
theorem eyeShort_set (s : AS) (p : Nat) (st : EyeSt) (most : Int) (hl : st.1.length ≤ 2 ^ 45) (h : s.objs p = some (eyeC st)) : ACalls Tryd.prog Γ 139 [.ptr p 0, .v (.int .i64 most)] s (fun r s' => r = bytesV (eyeText 1 most st).1 .any ∧ s' = s.set p (eyeC (eyeText 1 most st).2)) := EyeS.call (eyeShort_calls _ s p st most hl (EyeS.at h))
theorem eyeLong_set (s : AS) (p : Nat) (st : EyeSt) (most : Int) (hl : st.1.length ≤ 2 ^ 45) (h : s.objs p = some (eyeC st)) : ACalls Tryd.prog Γ 140 [.ptr p 0, .v (.int .i64 most)] s (fun r s' => r = bytesV (eyeText 2 most st).1 .any ∧ s' = s.set p (eyeC (eyeText 2 most st).2)) := EyeS.call (eyeLong_calls _ s p st most hl (EyeS.at h))
theorem eyeEnd_at (s : AS) (p : Nat) (st : EyeSt) (h : s.objs p = some (eyeC st)) : ACalls Tryd.prog Γ 141 [.ptr p 0] s (fun r s' => r = .v (.int .i64 (eyeEnd st)) ∧ s' = s) := eyeEnd_calls _ s p st (EyeS.at h)
end Go.Proofs.YtpakgjmcaefnmaaDoor


