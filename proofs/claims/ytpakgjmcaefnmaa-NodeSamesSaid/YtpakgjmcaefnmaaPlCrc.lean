/- Plain laws of numbers and lists that the walks below need; no condition. -/
import Derived.Test.YtpakgjmcaefnmaaAMp3
set_option linter.unusedSimpArgs false
set_option linter.unusedVariables false
set_option autoImplicit false
namespace Go.AM
open Go

/-! ### The check sum's arithmetic -/
def crcBit (x : Nat) : Nat := if x % 2 = 1 then x / 2 ^^^ 3988292384 else x / 2
def crcBits : Nat → Nat → Nat
  | 0, x => x
  | k + 1, x => crcBits k (crcBit x)
def crcByte (x : Nat) (c : UInt8) : Nat := crcBits 8 (x ^^^ c.toNat)
def crcL (l : List UInt8) (x : Nat) : Nat := l.foldl crcByte x
def crcSum (l : List UInt8) : Nat := 4294967295 - crcL l 4294967295

theorem crcBit_lt {x : Nat} (h : x < 4294967296) : crcBit x < 4294967296 := by
  unfold crcBit
  split
  · exact Nat.xor_lt_two_pow (n := 32) (by omega) (by decide)
  · omega
theorem crcBits_lt : ∀ (k x : Nat), x < 4294967296 → crcBits k x < 4294967296
  | 0, x, h => h
  | k + 1, x, h => crcBits_lt k _ (crcBit_lt h)
theorem crcXor_lt {x : Nat} (h : x < 4294967296) (c : UInt8) : x ^^^ c.toNat < 4294967296 := by
  have := c.toNat_lt
  exact Nat.xor_lt_two_pow (n := 32) (by omega) (by omega)
theorem crcByte_lt {x : Nat} (h : x < 4294967296) (c : UInt8) : crcByte x c < 4294967296 := crcBits_lt 8 _ (crcXor_lt h c)
theorem crcL_lt : ∀ (l : List UInt8) (x : Nat), x < 4294967296 → crcL l x < 4294967296
  | [], x, h => h
  | c :: l, x, h => crcL_lt l _ (crcByte_lt h c)
theorem crcL_append (l m : List UInt8) (x : Nat) : crcL (l ++ m) x = crcL m (crcL l x) := by simp [crcL]
theorem crcBits_succ : ∀ (k x : Nat), crcBits (k + 1) x = crcBit (crcBits k x)
  | 0, x => rfl
  | k + 1, x => by rw [crcBits, crcBits_succ k, crcBits]

theorem u32_and1 (x : Nat) (h : x < 4294967296) : iand .u32 (x : Int) 1 = ((x % 2 : Nat) : Int) := by
  have := iand_u (k := .u32) rfl x 1 (by simpa [IntKind.bits] using h) (by decide)
  rw [Nat.and_one_is_mod] at this
  exact this
theorem u32_shr1 (x : Nat) : ishr .u32 (x : Int) 1 = ((x / 2 : Nat) : Int) := by
  have := ishr_u (k := .u32) x 1
  simpa [IntKind.bits] using this
theorem crc_bit (x : Nat) (h : x < 4294967296) : ixor .u32 (ishr .u32 (x : Int) 1) (iand .u32 3988292384 (ineg .u32 (iand .u32 (x : Int) 1))) = ((crcBit x : Nat) : Int) := by
  rw [u32_and1 x h, u32_shr1]
  unfold crcBit
  by_cases h1 : x % 2 = 1
  · rw [h1, if_pos rfl, show iand .u32 3988292384 (ineg .u32 ((1 : Nat) : Int)) = ((3988292384 : Nat) : Int) from by decide]
    exact ixor_u (k := .u32) rfl (x / 2) 3988292384 (by simp only [IntKind.bits]; omega) (by decide)
  · have h0 : x % 2 = 0 := by omega
    rw [h0, if_neg (by decide), show iand .u32 3988292384 (ineg .u32 ((0 : Nat) : Int)) = ((0 : Nat) : Int) from by decide]
    have := ixor_u (k := .u32) rfl (x / 2) 0 (by simp only [IntKind.bits]; omega) (by decide)
    rw [Nat.xor_zero] at this
    exact this
theorem crc_xor (x : Nat) (c : UInt8) (h : x < 4294967296) : ixor .u32 (x : Int) (iconv .u32 (c.toNat : Int)) = ((x ^^^ c.toNat : Nat) : Int) := by
  have hc := c.toNat_lt
  rw [iconv_u rfl, Nat.mod_eq_of_lt (by simp only [IntKind.bits]; omega)]
  exact ixor_u (k := .u32) rfl x c.toNat (by simpa [IntKind.bits] using h) (by simp only [IntKind.bits]; omega)
theorem crc_not (x : Nat) (h : x < 4294967296) : inot .u32 (x : Int) = ((4294967295 - x : Nat) : Int) := by
  have := inot_u (k := .u32) rfl x (by simpa [IntKind.bits] using h)
  simpa [IntKind.bits] using this
theorem crc_not' (x : Nat) (h : x < 4294967296) : ixor .u32 (x : Int) 4294967295 = ((4294967295 - x : Nat) : Int) := by
  have := ixor_u (k := .u32) rfl x 4294967295 (by simpa [IntKind.bits] using h) (by decide)
  rw [show (4294967295 : Int) = ((4294967295 : Nat) : Int) from rfl, this]
  apply congrArg (fun x : Nat => (x : Int))
  apply Nat.eq_of_testBit_eq
  intro i
  have e : 4294967295 - x = 2 ^ 32 - (x + 1) := by omega
  rw [e, Nat.testBit_xor, Nat.testBit_two_pow_sub_succ (by omega), show (4294967295 : Nat) = 2 ^ 32 - 1 from rfl, Nat.testBit_two_pow_sub_one]
  by_cases hi : i < 32
  · simp [hi]
  · have : x.testBit i = false := Nat.testBit_lt_two_pow (Nat.lt_of_lt_of_le h (Nat.pow_le_pow_right (by decide) (by omega) : 2 ^ 32 ≤ 2 ^ i))
    simp [hi, this]
end Go.AM

