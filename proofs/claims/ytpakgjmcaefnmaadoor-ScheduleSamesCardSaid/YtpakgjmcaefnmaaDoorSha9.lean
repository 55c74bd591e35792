/- Contracts of the program's functions, each walked once; the conditions stand in each theorem. -/
import Derived.Test.YtpakgjmcaefnmaaDoorSha7
import Derived.Test.YtpakgjmcaefnmaaDoorAMp6
set_option linter.unusedSimpArgs false
set_option linter.unusedVariables false
set_option autoImplicit false
namespace Go.Proofs.YtpakgjmcaefnmaaDoor
open Go Go.AM Go.Proofs

variable {Γ : Nat → List AV}

/-- What the outer round keeps. -/
structure Kp (oh m : Nat) (pl : List UInt8) (sp : Sp) (i : Nat) (E : Env) : Prop where
  h3 : E 3 = .osl oh 0 1 8 8
  h4 : E 4 = .sl 1 64 (Sha.K.map wV) .no
  h5 : E 5 = .sl 1 (64 * m) (pl.map byteV) sp
  h6 : E 6 = .v (.int .i64 ((64 * i : Nat) : Int))
theorem Kp.upd {oh m i d : Nat} {pl : List UInt8} {sp : Sp} {E : Env} {v : AV} (h : Kp oh m pl sp i E) (hd : d ≠ 3 ∧ d ≠ 4 ∧ d ≠ 5 ∧ d ≠ 6) : Kp oh m pl sp i (upd E d v) :=
  ⟨by rw [upd_ne _ _ (Ne.symm hd.1)]; exact h.h3, by rw [upd_ne _ _ (Ne.symm hd.2.1)]; exact h.h4, by rw [upd_ne _ _ (Ne.symm hd.2.2.1)]; exact h.h5, by rw [upd_ne _ _ (Ne.symm hd.2.2.2)]; exact h.h6⟩
structure Kq (ow : Nat) (E : Env) : Prop where
  h7 : E 7 = .osl ow 0 1 64 64
theorem Kq.upd {ow d : Nat} {E : Env} {v : AV} (h : Kq ow E) (hd : d ≠ 7) : Kq ow (upd E d v) := ⟨by rw [upd_ne _ _ (Ne.symm hd)]; exact h.h7⟩
structure Kr (cs : List AV) (sp : Sp) (E : Env) : Prop where
  h13 : E 13 = .sl 1 8 cs sp
theorem Kr.upd {cs : List AV} {sp : Sp} {d : Nat} {E : Env} {v : AV} (h : Kr cs sp E) (hd : d ≠ 13) : Kr cs sp (upd E d v) := ⟨by rw [upd_ne _ _ (Ne.symm hd)]; exact h.h13⟩
end Go.Proofs.YtpakgjmcaefnmaaDoor


