/- Plain laws of numbers and lists that the walks below need; no condition. -/
import Derived.Test.YtpakgjmcaefnmaaDoorAMp3
set_option linter.unusedSimpArgs false
set_option linter.unusedVariables false
set_option autoImplicit false
namespace Go.AM

/-! ### The prime's arithmetic -/
def PP : Nat := 2305843009213693951

theorem and_pp (n : Nat) : n &&& 2305843009213693951 = n % 2305843009213693952 := by
  have := Nat.and_two_pow_sub_one_eq_mod n 61
  simpa using this

/-- power.fold, as the walk has it. -/
def foldRaw (n : Int) : Int :=
  let m := iadd .u64 (iand .u64 n 2305843009213693951) (ishr .u64 n 61)
  if m ≥ 2305843009213693951 then isub .u64 m 2305843009213693951 else m

theorem fold_sum (n : Nat) (h : n < 2 ^ 64) : iadd .u64 (iand .u64 (n : Int) 2305843009213693951) (ishr .u64 (n : Int) 61) = ((n % 2305843009213693952 + n / 2305843009213693952 : Nat) : Int) := by
  have e1 : iand .u64 (n : Int) 2305843009213693951 = ((n &&& 2305843009213693951 : Nat) : Int) := iand_u (k := .u64) rfl n 2305843009213693951 h (by decide)
  have e2 : ishr .u64 (n : Int) 61 = ((n / 2 ^ 61 : Nat) : Int) := by
    have := ishr_u (k := .u64) n 61
    simpa [IntKind.bits] using this
  rw [e1, e2, iadd_u rfl, and_pp, show IntKind.u64.bits = 64 from rfl]
  exact congrArg (fun x : Nat => (x : Int)) (by omega)

theorem fold_plain (n : Nat) (h : n < 2 ^ 64) : foldRaw n = ((n % PP : Nat) : Int) := by
  unfold foldRaw PP
  rw [fold_sum n h]
  simp only
  split
  · rename_i hc
    have hc' : 2305843009213693951 ≤ n % 2305843009213693952 + n / 2305843009213693952 := by omega
    have := isub_u_le (k := .u64) rfl (n % 2305843009213693952 + n / 2305843009213693952) 2305843009213693951 hc' (by simp only [IntKind.bits]; omega)
    rw [show (2305843009213693951 : Int) = ((2305843009213693951 : Nat) : Int) from rfl, this]
    exact congrArg (fun x : Nat => (x : Int)) (by omega)
  · rename_i hc
    exact congrArg (fun x : Nat => (x : Int)) (by omega)

/-- The high and the low half of a product. -/
theorem mul64_hi (x1 x0 y1 y0 : Nat) (h1 : x1 < 4294967296) (h2 : x0 < 4294967296) (h3 : y1 < 4294967296) (h4 : y0 < 4294967296) :
    x1 * y1 + (x1 * y0 + x0 * y0 / 4294967296) / 4294967296 + ((x1 * y0 + x0 * y0 / 4294967296) % 4294967296 + x0 * y1) / 4294967296 = (x1 * 4294967296 + x0) * (y1 * 4294967296 + y0) / 18446744073709551616 := by
  have e : (x1 * 4294967296 + x0) * (y1 * 4294967296 + y0) = x1 * y1 * 18446744073709551616 + (x1 * y0 + x0 * y1) * 4294967296 + x0 * y0 := by
    simp only [Nat.add_mul, Nat.mul_add]
    have a1 : x1 * 4294967296 * (y1 * 4294967296) = x1 * y1 * 18446744073709551616 := by
      rw [Nat.mul_mul_mul_comm]
    have a2 : x0 * (y1 * 4294967296) = x0 * y1 * 4294967296 := by rw [Nat.mul_assoc]
    have a3 : x1 * 4294967296 * y0 = x1 * y0 * 4294967296 := by rw [Nat.mul_right_comm]
    omega
  rw [e]
  generalize x1 * y1 = A
  generalize x1 * y0 = B
  generalize x0 * y1 = C
  generalize x0 * y0 = D
  omega

theorem mul_lt32 {a b : Nat} (ha : a < 4294967296) (hb : b < 4294967296) : a * b ≤ 18446744065119617025 := by
  have : a * b ≤ 4294967295 * 4294967295 := Nat.mul_le_mul (by omega) (by omega)
  omega

theorem and_32 (n : Nat) : n &&& 4294967295 = n % 4294967296 := by
  have := Nat.and_two_pow_sub_one_eq_mod n 32
  simpa using this

theorem u64_and32 (n : Nat) (h : n < 2 ^ 64) : iand .u64 (n : Int) 4294967295 = ((n % 4294967296 : Nat) : Int) := by
  have := iand_u (k := .u64) rfl n 4294967295 h (by decide)
  rw [and_32] at this
  exact this
theorem u64_shr32 (n : Nat) : ishr .u64 (n : Int) 32 = ((n / 4294967296 : Nat) : Int) := by
  have := ishr_u (k := .u64) n 32
  simpa [IntKind.bits] using this
theorem u64_add (a b : Nat) (h : a + b < 2 ^ 64) : iadd .u64 (a : Int) b = ((a + b : Nat) : Int) := by
  rw [iadd_u rfl]; simp only [IntKind.bits]; rw [Nat.mod_eq_of_lt h]
theorem u64_mul (a b : Nat) (h : a * b < 2 ^ 64) : imul .u64 (a : Int) b = ((a * b : Nat) : Int) := by
  rw [imul_u rfl]; simp only [IntKind.bits]; rw [Nat.mod_eq_of_lt h]
theorem u64_mulw (a b : Nat) : imul .u64 (a : Int) b = ((a * b % 18446744073709551616 : Nat) : Int) := by
  rw [imul_u rfl]; rfl

/-- power.Mul's last sum. -/
theorem mul_sum (q : Nat) (h : q < 2 ^ 122) : iadd .u64 (iand .u64 ((q % 18446744073709551616 : Nat) : Int) 2305843009213693951) (ior .u64 (ishl .u64 ((q / 18446744073709551616 : Nat) : Int) 3) (ishr .u64 ((q % 18446744073709551616 : Nat) : Int) 61)) =
    ((q % 2305843009213693952 + q / 2305843009213693952 : Nat) : Int) := by
  have e1 := iand_u (k := .u64) rfl (q % 18446744073709551616) 2305843009213693951 (by simp only [IntKind.bits]; omega) (by decide)
  have e2 : ishr .u64 ((q % 18446744073709551616 : Nat) : Int) 61 = ((q % 18446744073709551616 / 2305843009213693952 : Nat) : Int) := by
    have := ishr_u (k := .u64) (q % 18446744073709551616) 61
    simpa [IntKind.bits] using this
  have e3 : ishl .u64 ((q / 18446744073709551616 : Nat) : Int) 3 = ((8 * (q / 18446744073709551616) : Nat) : Int) := by
    have := ishl_u (k := .u64) rfl (q / 18446744073709551616) 3
    rw [show (3 : Int) = ((3 : Nat) : Int) from rfl, this, show min 3 IntKind.u64.bits = 3 from rfl, show IntKind.u64.bits = 64 from rfl]
    exact congrArg (fun x : Nat => (x : Int)) (by omega)
  rw [e2, e3, show (2305843009213693951 : Int) = ((2305843009213693951 : Nat) : Int) from rfl, e1, and_pp, ior_u rfl _ _ (by simp only [IntKind.bits]; omega) (by simp only [IntKind.bits]; omega)]
  have e4 : 8 * (q / 18446744073709551616) ||| q % 18446744073709551616 / 2305843009213693952 = 8 * (q / 18446744073709551616) + q % 18446744073709551616 / 2305843009213693952 := by
    have := Nat.two_pow_add_eq_or_of_lt (i := 3) (b := q % 18446744073709551616 / 2305843009213693952) (by omega) (q / 18446744073709551616)
    simpa using this.symm
  rw [e4, iadd_u rfl, show IntKind.u64.bits = 64 from rfl]
  exact congrArg (fun x : Nat => (x : Int)) (by omega)

theorem pp_lt : PP < 2 ^ 61 := by decide
theorem mod_pp_lt (n : Nat) : n % PP < PP := Nat.mod_lt _ (by decide)
theorem mulPP_lt (a b : Nat) : (a % PP) * (b % PP) < 2 ^ 122 := by
  have h1 := mod_pp_lt a
  have h2 := mod_pp_lt b
  have h3 := pp_lt
  calc (a % PP) * (b % PP) < 2 ^ 61 * 2 ^ 61 := Nat.mul_lt_mul'' (by omega) (by omega)
    _ = 2 ^ 122 := by decide
theorem split_mod (q : Nat) : (q % 2305843009213693952 + q / 2305843009213693952) % PP = q % PP := by unfold PP; omega
end Go.AM


