/- Contracts of the program's functions, each walked once; the conditions stand in each theorem. -/
import Derived.Test.YtpakgjmcaefnmaaRefEye
import Derived.Test.YtpakgjmcaefnmaaAMp5
set_option linter.unusedSimpArgs false
set_option linter.unusedVariables false
set_option autoImplicit false
namespace Go.Proofs.Ytpakgjmcaefnmaa
open Go Go.AM Go.Proofs



variable {Γ : Nat → List AV}

theorem open_set (l : List UInt8) (s : AS) (hl : l.length ≤ 2 ^ 45) : ACalls Try.prog Γ 56 [bytesV l .any] s (fun r s' => ∃ p, s.objs p = none ∧ r = .ptr p 0 ∧ s' = s.set p (eyeC (l, 0))) := EyeS.open (open_calls l s hl)
theorem eyeU8_set (s : AS) (p : Nat) (st : EyeSt) (h : s.objs p = some (eyeC st)) : ACalls Try.prog Γ 65 [.ptr p 0] s (fun r s' => r = .v (.int .i64 (eyeNum 1 st).1) ∧ s' = s.set p (eyeC (eyeNum 1 st).2)) := EyeS.call (eyeU8_calls _ s p st (EyeS.at h))
theorem eyeU16_set (s : AS) (p : Nat) (st : EyeSt) (h : s.objs p = some (eyeC st)) : ACalls Try.prog Γ 59 [.ptr p 0] s (fun r s' => r = .v (.int .i64 (eyeNum 2 st).1) ∧ s' = s.set p (eyeC (eyeNum 2 st).2)) := EyeS.call (eyeU16_calls _ s p st (EyeS.at h))
theorem eyeU32_set (s : AS) (p : Nat) (st : EyeSt) (h : s.objs p = some (eyeC st)) : ACalls Try.prog Γ 63 [.ptr p 0] s (fun r s' => r = .v (.int .i64 (eyeNum 4 st).1) ∧ s' = s.set p (eyeC (eyeNum 4 st).2)) := EyeS.call (eyeU32_calls _ s p st (EyeS.at h))
theorem eyeU64_set (s : AS) (p : Nat) (st : EyeSt) (h : s.objs p = some (eyeC st)) : ACalls Try.prog Γ 57 [.ptr p 0] s (fun r s' => r = .v (.int .u64 (eyeNum 8 st).1) ∧ s' = s.set p (eyeC (eyeNum 8 st).2)) := EyeS.call (eyeU64_calls _ s p st (EyeS.at h))
theorem eyeRaw_set (s : AS) (p : Nat) (st : EyeSt) (n : Int) (hl : st.1.length ≤ 2 ^ 45) (h : s.objs p = some (eyeC st)) : ACalls Try.prog Γ 66 [.ptr p 0, .v (.int .i64 n)] s (fun r s' => r = bytesV (eyeNext n st).1 .any ∧ s' = s.set p (eyeC (eyeNext n st).2)) := EyeS.call (eyeRaw_calls _ s p st n hl (EyeS.at h))
theorem eyeShort_set (s : AS) (p : Nat) (st : EyeSt) (most : Int) (hl : st.1.length ≤ 2 ^ 45) (h : s.objs p = some (eyeC st)) : ACalls Try.prog Γ 62 [.ptr p 0, .v (.int .i64 most)] s (fun r s' => r = bytesV (eyeText 1 most st).1 .any ∧ s' = s.set p (eyeC (eyeText 1 most st).2)) := EyeS.call (eyeShort_calls _ s p st most hl (EyeS.at h))
theorem eyeLong_set (s : AS) (p : Nat) (st : EyeSt) (most : Int) (hl : st.1.length ≤ 2 ^ 45) (h : s.objs p = some (eyeC st)) : ACalls Try.prog Γ 58 [.ptr p 0, .v (.int .i64 most)] s (fun r s' => r = bytesV (eyeText 2 most st).1 .any ∧ s' = s.set p (eyeC (eyeText 2 most st).2)) := EyeS.call (eyeLong_calls _ s p st most hl (EyeS.at h))
theorem eyeFail_set (s : AS) (p : Nat) (st : EyeSt) (e : Int) (h : s.objs p = some (eyeC st)) : ACalls Try.prog Γ 71 [.ptr p 0, .v (.int .i64 e)] s (fun r s' => r = .tup [] ∧ s' = s.set p (eyeC (st.1, if st.2 = 0 then e else st.2))) := EyeS.call (eyeFail_calls _ s p st e (EyeS.at h))
theorem eyeEnd_at (s : AS) (p : Nat) (st : EyeSt) (h : s.objs p = some (eyeC st)) : ACalls Try.prog Γ 60 [.ptr p 0] s (fun r s' => r = .v (.int .i64 (eyeEnd st)) ∧ s' = s) := eyeEnd_calls _ s p st (EyeS.at h)
theorem eyeErr_at (s : AS) (p : Nat) (st : EyeSt) (h : s.objs p = some (eyeC st)) : ACalls Try.prog Γ 64 [.ptr p 0] s (fun r s' => r = .v (.int .i64 st.2) ∧ s' = s) := eyeErr_calls _ s p st (EyeS.at h)
theorem eyeLeft_at (s : AS) (p : Nat) (st : EyeSt) (h : s.objs p = some (eyeC st)) : ACalls Try.prog Γ 61 [.ptr p 0] s (fun r s' => r = .v (.int .i64 st.1.length) ∧ s' = s) := eyeLeft_calls _ s p st (EyeS.at h)
theorem reyeNumber_set (s : AS) (p : Nat) (st : EyeSt) (size : Nat) (hs : size ≤ 8) (hl : st.1.length < 2 ^ 61) (h : s.objs p = some (reyeC st)) : ACalls Try.prog Γ 67 [.ptr p 0, .v (.int .i64 size)] s (fun r s' => r = .v (.int .u64 (eyeNum size st).1) ∧ s' = s.set p (reyeC (eyeNum size st).2)) := REyeS.call (reyeNumber_calls _ s p st size hs hl (REyeS.at h))
theorem reyeRaw_set (s : AS) (p : Nat) (st : EyeSt) (n : Int) (hl : st.1.length < 2 ^ 61) (h : s.objs p = some (reyeC st)) : ACalls Try.prog Γ 68 [.ptr p 0, .v (.int .i64 n)] s (fun r s' => r = .v (.string ⟨(eyeNext n st).1.toArray⟩) ∧ s' = s.set p (reyeC (eyeNext n st).2)) := REyeS.call (reyeRaw_calls _ s p st n hl (REyeS.at h))
theorem reyeText_set (s : AS) (p : Nat) (st : EyeSt) (size : Nat) (most : Int) (hs : size ≤ 7) (hl : st.1.length < 2 ^ 61) (h : s.objs p = some (reyeC st)) : ACalls Try.prog Γ 69 [.ptr p 0, .v (.int .i64 size), .v (.int .i64 most)] s (fun r s' => r = .v (.string ⟨(eyeText size most st).1.toArray⟩) ∧ s' = s.set p (reyeC (eyeText size most st).2)) := REyeS.call (reyeText_calls _ s p st size most hs hl (REyeS.at h))
theorem reyeEnd_at (s : AS) (p : Nat) (st : EyeSt) (h : s.objs p = some (reyeC st)) : ACalls Try.prog Γ 70 [.ptr p 0] s (fun r s' => r = .v (.int .i64 (eyeEnd st)) ∧ s' = s) := reyeEnd_calls _ s p st (REyeS.at h)

end Go.Proofs.Ytpakgjmcaefnmaa

