/- An abstract machine for the model: abstract values, their relation to worlds, and the rules of its walk, each proved sound over the model; no condition. -/
import Derived.Test.YtpakgjmcaefnmaaAM21
set_option linter.unusedSimpArgs false
set_option linter.unusedVariables false
set_option autoImplicit false
namespace Go.AM
open Go Go.RowKit

/-! ### An eye -/
def beNat (l : List UInt8) : Nat := l.foldl (fun n c => n * 256 + c.toNat) 0
abbrev EyeSt := List UInt8 × Int
def eyeNext (n : Int) (st : EyeSt) : List UInt8 × EyeSt :=
  if st.2 = 0 then (if n < 0 then ([], st.1, 2) else if (st.1.length : Int) < n then ([], st.1, 10) else (st.1.take n.toNat, st.1.drop n.toNat, 0)) else ([], st)
def eyeNum (k : Nat) (st : EyeSt) : Nat × EyeSt := (beNat (eyeNext k st).1, (eyeNext k st).2)
def eyeText (k : Nat) (most : Int) (st : EyeSt) : List UInt8 × EyeSt :=
  if (eyeNum k st).2.2 = 0 then
    (if most < (eyeNum k st).1 then ([], st.1, 11) else if (eyeNum k st).2.1.length < (eyeNum k st).1 then ([], st.1, 10) else eyeNext (eyeNum k st).1 (eyeNum k st).2)
  else ([], (eyeNum k st).2)
def eyeEnd (st : EyeSt) : Int := if st.2 = 0 ∧ 0 < st.1.length then 13 else st.2

/-- An eye at p. -/
structure EyeS (s0 s : AS) (p : Nat) (st : EyeSt) : Prop where
  le : s0.le s
  new : s0.objs p = none
  obj : s.objs p = some [bytesV st.1 .any, .v (.int .i64 st.2)]

theorem EyeS.put {s0 s : AS} {p : Nat} {st : EyeSt} (h : EyeS s0 s p st) {l : List UInt8} {e : Int} : EyeS s0 (s.set p [bytesV l .any, .v (.int .i64 e)]) p (l, e) :=
  ⟨AS.le_set h.le h.new _, h.new, AS.set_objs_same _ _ _⟩
theorem EyeS.put' {s0 s : AS} {p : Nat} {st : EyeSt} (h : EyeS s0 s p st) {l : List UInt8} {e : Int} {cs : List AV} (hc : cs = [bytesV l .any, .v (.int .i64 e)]) : EyeS s0 (s.set p cs) p (l, e) := hc ▸ h.put
theorem EyeS.own {s0 s : AS} {p : Nat} {st : EyeSt} (h : EyeS s0 s p st) : EyeS (s.drop p) s p st := by
  refine ⟨⟨fun o cs hc => ?_, fun t e he => ?_⟩, ?_, h.obj⟩
  · simp only [AS.drop, upd] at hc
    split at hc
    · cases hc
    · exact hc
  · simpa [AS.drop] using he
  · simp [AS.drop]

theorem beNat_append (l m : List UInt8) : beNat (l ++ m) = m.foldl (fun n c => n * 256 + c.toNat) (beNat l) := by simp [beNat]
theorem beNat_snoc (l : List UInt8) (c : UInt8) : beNat (l ++ [c]) = beNat l * 256 + c.toNat := by simp [beNat]
theorem beNat_lt (l : List UInt8) : beNat l < 256 ^ l.length := by
  have key : ∀ (l : List UInt8) (n k : Nat), n < 256 ^ k → l.foldl (fun n c => n * 256 + c.toNat) n < 256 ^ (k + l.length) := by
    intro l
    induction l with
    | nil => intro n k h; simpa using h
    | cons c l ih =>
      intro n k h
      have hc := c.toNat_lt
      have := ih (n * 256 + c.toNat) (k + 1) (by rw [Nat.pow_succ]; omega)
      simp only [List.foldl_cons, List.length_cons]
      rw [show k + (l.length + 1) = k + 1 + l.length from by omega]
      exact this
  have := key l 0 0 (by simp)
  rwa [Nat.zero_add] at this
theorem beNat_take_lt (l : List UInt8) (k : Nat) : beNat (l.take k) < 256 ^ k := by
  refine Nat.lt_of_lt_of_le (beNat_lt _) (Nat.pow_le_pow_right (by decide) ?_)
  rw [List.length_take]; omega

theorem eyeNext_len (n : Int) (st : EyeSt) : (eyeNext n st).1.length ≤ st.1.length ∧ (eyeNext n st).2.1.length ≤ st.1.length := by
  unfold eyeNext
  split
  · split
    · simp
    · split
      · simp
      · simp; omega
  · simp
theorem eyeNext_le (k : Nat) (st : EyeSt) : (eyeNext k st).1.length ≤ k := by
  unfold eyeNext
  split
  · split
    · simp
    · split
      · simp
      · simp; omega
  · simp
theorem eyeNum_lt (k : Nat) (st : EyeSt) : (eyeNum k st).1 < 256 ^ k :=
  Nat.lt_of_lt_of_le (beNat_lt _) (Nat.pow_le_pow_right (by decide) (eyeNext_le k st))
theorem eyeNum_len (k : Nat) (st : EyeSt) : (eyeNum k st).2.1.length ≤ st.1.length := (eyeNext_len _ _).2
theorem eyeText_len (k : Nat) (most : Int) (st : EyeSt) : (eyeText k most st).1.length ≤ st.1.length ∧ (eyeText k most st).2.1.length ≤ st.1.length := by
  have h1 := eyeNum_len k st
  have h2 := eyeNext_len (eyeNum k st).1 (eyeNum k st).2
  unfold eyeText
  split
  · split
    · simp
    · split
      · simp
      · omega
  · simp; omega

/-- A round of reading a number. -/
theorem beNat_step (n : Nat) (c : UInt8) (hn : n < 2 ^ 56) : ior .u64 (ishl .u64 (n : Int) 8) (iconv .u64 (c.toNat : Int)) = ((n * 256 + c.toNat : Nat) : Int) := by
  have hc := c.toNat_lt
  have h1 : ishl .u64 (n : Int) (8 : Int) = ((n * 256 : Nat) : Int) := by
    have := ishl_u (k := .u64) rfl n 8
    rw [show ((8 : Nat) : Int) = 8 from rfl] at this
    rw [this]
    simp only [IntKind.bits]
    rw [Nat.mod_eq_of_lt (by simp; omega)]
    simp
  have h2 : iconv .u64 (c.toNat : Int) = (c.toNat : Int) := iconv_u64_nat _ (by omega)
  rw [h1, h2, ior_u (k := .u64) rfl _ _ (by simp only [IntKind.bits]; omega) (by simp only [IntKind.bits]; omega)]
  congr 1
  have := Nat.two_pow_add_eq_or_of_lt (i := 8) (b := c.toNat) (by omega) n
  rw [show n * 256 = 2 ^ 8 * n from by omega, ← this]

/-- Written and read. -/
theorem beNat_be : ∀ (k n : Nat), n < 256 ^ k → beNat (be k n) = n := by
  have key : ∀ (k n a : Nat), (be k n).foldl (fun n c => n * 256 + c.toNat) a = a * 256 ^ k + n % 256 ^ k := by
    intro k
    induction k with
    | zero => intro n a; simp [be]; omega
    | succ k ih =>
      intro n a
      simp only [be, List.foldl_cons, ih, UInt8.toNat_ofNat']
      have e1 : n % 256 ^ (k + 1) = 256 ^ k * (n / 256 ^ k % 256) + n % 256 ^ k := by
        rw [Nat.pow_succ, Nat.mod_mul, Nat.add_comm]
      have e2 : 2 ^ (8 * k) = 256 ^ k := by rw [Nat.pow_mul]
      have e3 : a * 256 ^ (k + 1) = a * 256 * 256 ^ k := by rw [Nat.pow_succ, Nat.mul_comm (256 ^ k) 256, Nat.mul_assoc]
      rw [e1, e2, e3, Nat.add_mul, Nat.mul_comm (256 ^ k) (n / 256 ^ k % 256), Nat.add_assoc]
  intro k n h
  rw [beNat, key, Nat.zero_mul, Nat.zero_add, Nat.mod_eq_of_lt h]

end Go.AM
