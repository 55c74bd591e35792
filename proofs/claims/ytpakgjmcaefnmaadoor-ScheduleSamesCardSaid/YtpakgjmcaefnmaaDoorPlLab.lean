/- Plain laws of numbers and lists that the walks below need; no condition. -/
import Derived.Test.YtpakgjmcaefnmaaDoorPlKdf
import Derived.Test.YtpakgjmcaefnmaaDoorAMp4
set_option linter.unusedSimpArgs false
set_option linter.unusedVariables false
set_option autoImplicit false
namespace Go.AM

/-! ### Labelled secrets, in plain Lean -/
namespace Kdf
def mls : List UInt8 := [109, 108, 115, 32]
def fits (l c : List UInt8) (n : Int) : Bool := decide (l.length ≤ 251) && decide (c.length ≤ 65535) && decide (0 ≤ n) && decide (n ≤ 8160)
def text (l c : List UInt8) (n : Nat) : List UInt8 := be 2 n ++ (be 1 (mls ++ l).length ++ (mls ++ l)) ++ (be 2 c.length ++ c)
def label (secret l c : List UInt8) (n : Int) : List UInt8 := if fits l c n = true then expand secret (text l c n.toNat) n.toNat else []
def derive (secret l : List UInt8) : List UInt8 := label secret (l.take 251) [] 32
def pen (l c : List UInt8) (n : Int) : List UInt8 × Bool := penText 2 c (penText 1 (mls ++ l) (penSmall 2 n ([], false)))

theorem num_bad {k n : Nat} {st : List UInt8 × Bool} (h : st.2 = true) : (penNum k n st).2 = true := by rw [penNum, if_pos h]; exact h
theorem small_bad {k : Nat} {n : Int} {st : List UInt8 × Bool} (h : st.2 = true) : (penSmall k n st).2 = true := by
  unfold penSmall
  split
  · exact num_bad h
  · rfl
theorem raw_bad {m : List UInt8} {st : List UInt8 × Bool} (h : st.2 = true) : (penRaw m st).2 = true := by rw [penRaw, if_pos h]; exact h
theorem text_bad {k : Nat} {m : List UInt8} {st : List UInt8 × Bool} (h : st.2 = true) : (penText k m st).2 = true := raw_bad (small_bad h)
theorem small_wide {k : Nat} {n : Int} {st : List UInt8 × Bool} (h : ¬ (0 ≤ n ∧ n < 2 ^ (8 * k))) : (penSmall k n st).2 = true := by rw [penSmall, if_neg h]
theorem text_wide {k : Nat} {m : List UInt8} {st : List UInt8 × Bool} (h : ¬ (m.length : Int) < 2 ^ (8 * k)) : (penText k m st).2 = true := raw_bad (small_wide fun h' => h h'.2)

theorem pen_good (l c : List UInt8) (n : Int) (h0 : 0 ≤ n) (h1 : n ≤ 65535) (hl : l.length ≤ 251) (hc : c.length ≤ 65535) : pen l c n = (text l c n.toNat, false) := by
  obtain ⟨m, rfl⟩ : ∃ m : Nat, n = (m : Int) := ⟨n.toNat, by omega⟩
  have hm : (mls ++ l).length = 4 + l.length := by simp [mls]; omega
  unfold pen
  rw [penSmall_nat (by omega), penText_nat (by rw [hm]; omega), penText_nat (by omega)]
  simp [text]
theorem pen_bad (l c : List UInt8) (n : Int) (h : ¬ (0 ≤ n ∧ n ≤ 65535 ∧ l.length ≤ 251 ∧ c.length ≤ 65535)) : (pen l c n).2 = true := by
  have hm : (mls ++ l).length = 4 + l.length := by simp [mls]; omega
  unfold pen
  by_cases h0 : 0 ≤ n ∧ n < 2 ^ (8 * 2)
  · by_cases h1 : ((mls ++ l).length : Int) < 2 ^ (8 * 1)
    · refine text_wide fun h2 => h ?_
      simp only [Nat.reduceMul] at h0 h1 h2
      refine ⟨h0.1, by omega, by omega, by omega⟩
    · exact text_bad (text_wide h1)
  · exact text_bad (text_bad (small_wide h0))
theorem text_len (k : Nat) (m : List UInt8) (st : List UInt8 × Bool) : (penText k m st).1.length ≤ st.1.length + k + m.length := by
  have := penSmall_len k (m.length : Int) st
  unfold penText penRaw
  split
  · omega
  · simp only [List.length_append]
    omega
end Kdf
end Go.AM


