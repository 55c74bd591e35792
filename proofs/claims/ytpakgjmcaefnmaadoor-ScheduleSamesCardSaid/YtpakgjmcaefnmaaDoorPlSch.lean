/- Plain laws of numbers and lists that the walks below need; no condition. -/
import Derived.Test.YtpakgjmcaefnmaaDoorPlLab
set_option linter.unusedSimpArgs false
set_option linter.unusedVariables false
set_option autoImplicit false
namespace Go.AM

/-! ### The secrets of an epoch, in plain Lean -/
namespace Sch
def joinerW : List UInt8 := [106, 111, 105, 110, 101, 114]
def epochW : List UInt8 := [101, 112, 111, 99, 104]
def welcomeW : List UInt8 := [119, 101, 108, 99, 111, 109, 101]
def exporterW : List UInt8 := [101, 120, 112, 111, 114, 116, 101, 114]
def confirmW : List UInt8 := [99, 111, 110, 102, 105, 114, 109]
def memberW : List UInt8 := [109, 101, 109, 98, 101, 114, 115, 104, 105, 112]
def initW : List UInt8 := [105, 110, 105, 116]
def joiner (i m c : List UInt8) : List UInt8 := Kdf.label (Mac.tag i m) joinerW c 32
def main (j : List UInt8) : List UInt8 := Mac.tag j (List.replicate 32 0)
def epoch (j c : List UInt8) : List UInt8 := Kdf.label (main j) epochW c 32
def of (j c : List UInt8) : List (List UInt8) := [j, Kdf.derive (main j) welcomeW, Kdf.derive (epoch j c) exporterW, Kdf.derive (epoch j c) confirmW, Kdf.derive (epoch j c) memberW, Kdf.derive (epoch j c) initW]
theorem fits_small (l c : List UInt8) (hl : l.length ≤ 251) (hc : c.length ≤ 65535) : Kdf.fits l c 32 = true := by
  simp only [Kdf.fits, Bool.and_eq_true, decide_eq_true_eq]
  exact ⟨⟨⟨hl, hc⟩, by decide⟩, by decide⟩
theorem label_len (s l c : List UInt8) (h : Kdf.fits l c 32 = true) : (Kdf.label s l c 32).length = 32 := by
  rw [Kdf.label, if_pos h, Kdf.expand_len]
  rfl
theorem derive_len (s l : List UInt8) : (Kdf.derive s l).length = 32 := label_len _ _ _ (fits_small _ _ (by rw [List.length_take]; omega) (by simp))
theorem joiner_len (i m c : List UInt8) (hc : c.length ≤ 65535) : (joiner i m c).length = 32 := label_len _ _ _ (fits_small _ _ (by decide) hc)
theorem epoch_len (j c : List UInt8) (hc : c.length ≤ 65535) : (epoch j c).length = 32 := label_len _ _ _ (fits_small _ _ (by decide) hc)
theorem main_len (j : List UInt8) : (main j).length = 32 := Mac.tag_len _ _
end Sch
end Go.AM


