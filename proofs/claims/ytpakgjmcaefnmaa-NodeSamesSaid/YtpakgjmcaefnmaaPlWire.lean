/- Plain laws of numbers and lists that the walks below need; no condition. -/
import Derived.Test.YtpakgjmcaefnmaaAMp4
set_option linter.unusedSimpArgs false
set_option linter.unusedVariables false
set_option autoImplicit false
namespace Go.AM
open Go

/-! ### What is written is read back; and what is cut off is too short -/
theorem take_text {k : Nat} {m rest : List UInt8} {c : Nat} (h : k + m.length ≤ c) : (be k m.length ++ m ++ rest).take c = be k m.length ++ m ++ rest.take (c - k - m.length) := by
  rw [List.take_append, List.take_of_length_le (by simp; omega)]
  congr 2
  simp
  omega
theorem take_be {k n : Nat} (m : List UInt8) : (be k n ++ m).take k = be k n := by
  rw [List.take_append_of_le_length (by simp), List.take_of_length_le (by simp)]
theorem drop_be {k n : Nat} (m : List UInt8) : (be k n ++ m).drop k = m := by
  rw [List.drop_append_of_le_length (by simp), List.drop_eq_nil_of_le (by simp)]; rfl
theorem eyeNum_be {k n : Nat} {rest : List UInt8} (h : n < 256 ^ k) : eyeNum k (be k n ++ rest, 0) = (n, rest, 0) := by
  rw [eyeNum_ok (by simp), take_be, drop_be, beNat_be k n h]
theorem eyeText_be {k : Nat} {m rest : List UInt8} {most : Int} (h : m.length < 256 ^ k) (hm : (m.length : Int) ≤ most) : eyeText k most (be k m.length ++ m ++ rest, 0) = (m, rest, 0) := by
  unfold eyeText
  rw [List.append_assoc, eyeNum_be h]
  refine (if_pos rfl).trans ((if_neg (by simp only; omega)).trans ((if_neg (by simp)).trans ?_))
  simp only
  rw [eyeNext_ok (by simp), List.take_left, List.drop_left]
theorem eyeText_cut {k : Nat} {m rest : List UInt8} {most : Int} {c : Nat} (h : m.length < 256 ^ k) (hm : (m.length : Int) ≤ most) (hc : c < k + m.length) :
    eyeText k most ((be k m.length ++ m ++ rest).take c, 0) = ([], (be k m.length ++ m ++ rest).take c, 10) := by
  by_cases h1 : c < k
  · exact eyeText_short (by rw [List.length_take]; omega)
  · have hl : ((be k m.length ++ m ++ rest).take c).length = c := by rw [List.length_take]; simp; omega
    have ht : ((be k m.length ++ m ++ rest).take c).take k = be k m.length := by
      rw [List.take_take, Nat.min_eq_left (by omega), List.append_assoc, take_be]
    refine eyeText_less (by omega) ?_ ?_
    · rw [ht, beNat_be k _ h]; omega
    · rw [ht, beNat_be k _ h]; omega
theorem eyeText_keep {k : Nat} {m rest : List UInt8} {most : Int} {c : Nat} (h : m.length < 256 ^ k) (hm : (m.length : Int) ≤ most) (hc : k + m.length ≤ c) :
    eyeText k most ((be k m.length ++ m ++ rest).take c, 0) = (m, rest.take (c - k - m.length), 0) := by
  rw [take_text hc]
  exact eyeText_be h hm
/-- A short text, a long one and a number: cut off. -/
theorem wire_cut (a b : List UInt8) (ha : a.length ≤ 255) (hb : b.length ≤ 700) (c : Nat) (hc : c < a.length + b.length + 7) :
    (eyeNum 4 (eyeText 2 65535 (eyeText 1 255 (((be 1 a.length ++ a ++ (be 2 b.length ++ b ++ be 4 7)).take c), 0)).2).2).2.2 = 10 := by
  by_cases h1 : c < 1 + a.length
  · rw [eyeText_cut (by simp; omega) (by omega) h1, eyeText_err (by decide), eyeNum_err (by decide)]
  · rw [eyeText_keep (by simp; omega) (by omega) (by omega)]
    by_cases h2 : c - 1 - a.length < 2 + b.length
    · rw [eyeText_cut (by simp; omega) (by omega) h2, eyeNum_err (by decide)]
    · rw [eyeText_keep (by simp; omega) (by omega) (by omega), eyeNum_short (by rw [List.length_take]; simp; omega)]

end Go.AM

