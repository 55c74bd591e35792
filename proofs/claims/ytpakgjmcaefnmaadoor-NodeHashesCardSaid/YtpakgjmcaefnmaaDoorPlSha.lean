/- Plain laws of numbers and lists that the walks below need; no condition. -/
import Derived.Test.YtpakgjmcaefnmaaDoorAMp5
set_option linter.unusedSimpArgs false
set_option linter.unusedVariables false
set_option autoImplicit false
namespace Go.AM

/-! ### The digest, in plain Lean: words are natural numbers below 2 ^ 32 -/
namespace Sha
def add32 (a b : Nat) : Nat := (a + b) % 4294967296
def rotr (x n : Nat) : Nat := (x / 2 ^ n) ||| ((x * 2 ^ (32 - n)) % 4294967296)
def sig3 (x a b c : Nat) : Nat := (rotr x a ^^^ rotr x b) ^^^ rotr x c
def sig2 (x a b c : Nat) : Nat := (rotr x a ^^^ rotr x b) ^^^ (x / 2 ^ c)
def be32 (a b c d : Nat) : Nat := ((a * 256 + b) * 256 + c) * 256 + d

/-- The next word of a block's row. -/
def word (c : List UInt8) (p : List Nat) (i : Nat) : Nat :=
  if i < 16 then be32 ((c.getD (4 * i) 0).toNat) ((c.getD (4 * i + 1) 0).toNat) ((c.getD (4 * i + 2) 0).toNat) ((c.getD (4 * i + 3) 0).toNat)
  else add32 (add32 (add32 (sig2 (p.getD (i - 2) 0) 17 19 10) (p.getD (i - 7) 0)) (sig2 (p.getD (i - 15) 0) 7 18 3)) (p.getD (i - 16) 0)
/-- The first n words of a block's row. -/
def sch (c : List UInt8) : Nat → List Nat
  | 0 => []
  | n + 1 => sch c n ++ [word c (sch c n) n]
theorem sch_length (c : List UInt8) (n : Nat) : (sch c n).length = n := by
  induction n with
  | zero => rfl
  | succ n ih => simp [sch, ih]

def t1 (e f g h k w : Nat) : Nat := add32 (add32 (add32 (add32 h (sig3 e 6 11 25)) ((e &&& f) ^^^ ((4294967295 - e) &&& g))) k) w
def t2 (a b c : Nat) : Nat := add32 (sig3 a 2 13 22) (((a &&& b) ^^^ (a &&& c)) ^^^ (b &&& c))
structure St where
  a : Nat
  b : Nat
  c : Nat
  d : Nat
  e : Nat
  f : Nat
  g : Nat
  h : Nat
def St.step (s : St) (k w : Nat) : St :=
  ⟨add32 (t1 s.e s.f s.g s.h k w) (t2 s.a s.b s.c), s.a, s.b, s.c, add32 s.d (t1 s.e s.f s.g s.h k w), s.e, s.f, s.g⟩
def St.add (s t : St) : St := ⟨add32 s.a t.a, add32 s.b t.b, add32 s.c t.c, add32 s.d t.d, add32 s.e t.e, add32 s.f t.f, add32 s.g t.g, add32 s.h t.h⟩
def St.list (s : St) : List Nat := [s.a, s.b, s.c, s.d, s.e, s.f, s.g, s.h]
structure St.ok (s : St) : Prop where
  a : s.a < 4294967296
  b : s.b < 4294967296
  c : s.c < 4294967296
  d : s.d < 4294967296
  e : s.e < 4294967296
  f : s.f < 4294967296
  g : s.g < 4294967296
  h : s.h < 4294967296

def K : List Nat := [
  0x428a2f98, 0x71374491, 0xb5c0fbcf, 0xe9b5dba5, 0x3956c25b, 0x59f111f1, 0x923f82a4, 0xab1c5ed5,
  0xd807aa98, 0x12835b01, 0x243185be, 0x550c7dc3, 0x72be5d74, 0x80deb1fe, 0x9bdc06a7, 0xc19bf174,
  0xe49b69c1, 0xefbe4786, 0x0fc19dc6, 0x240ca1cc, 0x2de92c6f, 0x4a7484aa, 0x5cb0a9dc, 0x76f988da,
  0x983e5152, 0xa831c66d, 0xb00327c8, 0xbf597fc7, 0xc6e00bf3, 0xd5a79147, 0x06ca6351, 0x14292967,
  0x27b70a85, 0x2e1b2138, 0x4d2c6dfc, 0x53380d13, 0x650a7354, 0x766a0abb, 0x81c2c92e, 0x92722c85,
  0xa2bfe8a1, 0xa81a664b, 0xc24b8b70, 0xc76c51a3, 0xd192e819, 0xd6990624, 0xf40e3585, 0x106aa070,
  0x19a4c116, 0x1e376c08, 0x2748774c, 0x34b0bcb5, 0x391c0cb3, 0x4ed8aa4a, 0x5b9cca4f, 0x682e6ff3,
  0x748f82ee, 0x78a5636f, 0x84c87814, 0x8cc70208, 0x90befffa, 0xa4506ceb, 0xbef9a3f7, 0xc67178f2]
def H0 : St := ⟨0x6a09e667, 0xbb67ae85, 0x3c6ef372, 0xa54ff53a, 0x510e527f, 0x9b05688c, 0x1f83d9ab, 0x5be0cd19⟩

/-- The first n rounds over a row of words. -/
def rounds (w : List Nat) (s : St) : Nat → St
  | 0 => s
  | n + 1 => (rounds w s n).step (K.getD n 0) (w.getD n 0)
def mix (s : St) (c : List UInt8) : St := s.add (rounds (sch c 64) s 64)

def blk (l : List UInt8) (i : Nat) : List UInt8 := (l.drop (64 * i)).take 64
/-- The state behind the first n blocks. -/
def hash (l : List UInt8) : Nat → St
  | 0 => H0
  | n + 1 => mix (hash l n) (blk l n)

def zeros (n : Nat) : Nat := (119 - n % 64) % 64
def lenB (n : Nat) : List UInt8 := [UInt8.ofNat (8 * n / 2 ^ 56), UInt8.ofNat (8 * n / 2 ^ 48), UInt8.ofNat (8 * n / 2 ^ 40), UInt8.ofNat (8 * n / 2 ^ 32), UInt8.ofNat (8 * n / 2 ^ 24), UInt8.ofNat (8 * n / 2 ^ 16), UInt8.ofNat (8 * n / 2 ^ 8), UInt8.ofNat (8 * n)]
def pad (l : List UInt8) : List UInt8 := l ++ (128 :: (List.replicate (zeros l.length) 0 ++ lenB l.length))
theorem pad_length (l : List UInt8) : (pad l).length = l.length + 9 + zeros l.length := by simp [pad, lenB]; omega
theorem pad_mod (l : List UInt8) : (pad l).length % 64 = 0 := by rw [pad_length, zeros]; omega

def be (x : Nat) : List UInt8 := [UInt8.ofNat (x / 2 ^ 24), UInt8.ofNat (x / 2 ^ 16), UInt8.ofNat (x / 2 ^ 8), UInt8.ofNat x]
def St.bytes (s : St) : List UInt8 := be s.a ++ be s.b ++ be s.c ++ be s.d ++ be s.e ++ be s.f ++ be s.g ++ be s.h
/-- The digest. -/
def sum (l : List UInt8) : List UInt8 := (hash (pad l) ((pad l).length / 64)).bytes

theorem sum_length (l : List UInt8) : (sum l).length = 32 := rfl

/-! ### Bounds -/
theorem add32_lt (a b : Nat) : add32 a b < 4294967296 := Nat.mod_lt _ (by decide)
theorem rotr_lt {x : Nat} (n : Nat) (h : x < 4294967296) : rotr x n < 4294967296 :=
  Nat.or_lt_two_pow (n := 32) (Nat.lt_of_le_of_lt (Nat.div_le_self _ _) h) (Nat.mod_lt _ (by decide))
theorem be32_lt (a b c d : UInt8) : be32 a.toNat b.toNat c.toNat d.toNat < 4294967296 := by
  have := a.toNat_lt; have := b.toNat_lt; have := c.toNat_lt; have := d.toNat_lt
  simp only [be32]; omega
theorem word_lt (c : List UInt8) (p : List Nat) (i : Nat) : word c p i < 4294967296 := by
  unfold word
  split
  · exact be32_lt _ _ _ _
  · exact add32_lt _ _
theorem sch_lt (c : List UInt8) (n : Nat) : ∀ x ∈ sch c n, x < 4294967296 := by
  induction n with
  | zero => intro x hx; simp [sch] at hx
  | succ n ih =>
    intro x hx
    simp only [sch, List.mem_append, List.mem_singleton] at hx
    rcases hx with hx | rfl
    · exact ih x hx
    · exact word_lt _ _ _
theorem sch_getD_lt (c : List UInt8) (n i : Nat) : (sch c n).getD i 0 < 4294967296 := by
  rw [List.getD_eq_getElem?_getD]
  cases h : (sch c n)[i]? with
  | none => simp
  | some x => exact sch_lt c n x (List.mem_of_getElem? h)
theorem H0_ok : H0.ok := by constructor <;> decide
theorem St.ok.step {s : St} (h : s.ok) (k w : Nat) : (s.step k w).ok := ⟨add32_lt _ _, h.a, h.b, h.c, add32_lt _ _, h.e, h.f, h.g⟩
theorem St.ok.add (s t : St) : (s.add t).ok := ⟨add32_lt _ _, add32_lt _ _, add32_lt _ _, add32_lt _ _, add32_lt _ _, add32_lt _ _, add32_lt _ _, add32_lt _ _⟩
theorem rounds_ok {w : List Nat} {s : St} (h : s.ok) : ∀ n, (rounds w s n).ok
  | 0 => h
  | n + 1 => (rounds_ok h n).step _ _
theorem mix_ok (s : St) (c : List UInt8) : (mix s c).ok := St.ok.add _ _
theorem hash_ok (l : List UInt8) : ∀ n, (hash l n).ok
  | 0 => H0_ok
  | n + 1 => mix_ok _ _
end Sha
end Go.AM


