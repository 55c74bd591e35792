/- Plain laws of numbers and lists that the walks below need; no condition. -/
import Derived.Test.YtpakgjmcaefnmaaPlCrc
import Derived.Test.YtpakgjmcaefnmaaAM24
set_option linter.unusedSimpArgs false
set_option linter.unusedVariables false
set_option autoImplicit false
namespace Go.AM
open Go

theorem crcSum_lt (l : List UInt8) : crcSum l < 2 ^ 32 := by unfold crcSum; omega
def crcWith (l : List UInt8) : List UInt8 := l ++ be 4 (crcSum l)
def crcTake (l : List UInt8) : List UInt8 × Bool :=
  if l.length < 4 then ([], false) else if beNat (l.drop (l.length - 4)) = crcSum (l.take (l.length - 4)) then (l.take (l.length - 4), true) else ([], false)

theorem be_inj4 {l : List UInt8} (h : l.length = 4) {n : Nat} (hn : n < 2 ^ 32) : be 4 n = l ↔ beNat l = n := by
  constructor
  · rintro rfl
    exact beNat_be 4 n (by simpa using hn)
  · rintro rfl
    match l, h with
    | [a, b, c, d], _ =>
      have ha := a.toNat_lt
      have hb := b.toNat_lt
      have hc := c.toNat_lt
      have hd := d.toNat_lt
      simp only [be, beNat, List.foldl_cons, List.foldl_nil, Nat.zero_mul, Nat.zero_add, Nat.mul_zero, Nat.pow_zero, Nat.div_one, Nat.reduceMul, Nat.reducePow]
      have e : ∀ (x : UInt8) (k : Nat), k % 256 = x.toNat → UInt8.ofNat k = x := by
        intro x k hk
        apply UInt8.toNat_inj.1
        simpa using hk
      rw [e a _ (by omega), e b _ (by omega), e c _ (by omega), e d _ (by omega)]

/-- What the reference takes. -/
theorem crcTake_eq (l : List UInt8) (h : 4 ≤ l.length) : (crcWith (l.take (l.length - 4)) = l) ↔ beNat (l.drop (l.length - 4)) = crcSum (l.take (l.length - 4)) := by
  have hd : (l.drop (l.length - 4)).length = 4 := by rw [List.length_drop]; omega
  rw [← be_inj4 hd (crcSum_lt _)]
  unfold crcWith
  constructor
  · intro e
    have e2 := congrArg (List.drop (l.take (l.length - 4)).length) e
    rw [List.drop_left] at e2
    rw [e2, List.length_take, Nat.min_eq_left (by omega)]
  · intro e
    rw [e, List.take_append_drop]

theorem crcTake_with (l : List UInt8) : crcTake (crcWith l) = (l, true) := by
  have hl : (crcWith l).length = l.length + 4 := by simp [crcWith]
  have ht : (crcWith l).take ((crcWith l).length - 4) = l := by rw [hl, Nat.add_sub_cancel]; unfold crcWith; exact List.take_left
  have hd : (crcWith l).drop ((crcWith l).length - 4) = be 4 (crcSum l) := by rw [hl, Nat.add_sub_cancel]; unfold crcWith; exact List.drop_left
  unfold crcTake
  rw [if_neg (by omega), hd, ht, if_pos (beNat_be 4 _ (by simpa using crcSum_lt l))]

end Go.AM
