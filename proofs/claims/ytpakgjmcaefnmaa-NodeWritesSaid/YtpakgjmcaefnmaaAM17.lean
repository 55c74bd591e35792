/- An abstract machine for the model: abstract values, their relation to worlds, and the rules of its walk, each proved sound over the model; no condition. -/
import Derived.Test.YtpakgjmcaefnmaaAM16
set_option linter.unusedSimpArgs false
set_option linter.unusedVariables false
set_option autoImplicit false
namespace Go.AM
open Go Go.RowKit

/-! ### Octets, and a pen -/

/-- A number in so many octets, the greatest one first. -/
def be : Nat → Nat → List UInt8
  | 0, _ => []
  | k + 1, n => UInt8.ofNat (n / 2 ^ (8 * k)) :: be k n

@[simp] theorem length_be (k n : Nat) : (be k n).length = k := by
  induction k with
  | zero => rfl
  | succ k ih => simp [be, ih]

def nilS : AV := .v (.slice none 0 0)
def bytesV (l : List UInt8) (sp : Sp) : AV := .sl 1 l.length (l.map byteV) sp

/-- In s, beside what s0 knows, x is a slice of bytes l that may be appended to. -/
def Buf (s0 s : AS) (x : AV) (l : List UInt8) : Prop :=
  (x = nilS ∧ l = []) ∨ ∃ t e, x = bytesV l (.own t e) ∧ s.own t = some e ∧ s0.own t = none

/-- A pen at p: what was written, and whether it is bad. -/
structure Pen (s0 s : AS) (p : Nat) (l : List UInt8) (bad : Bool) : Prop where
  le : s0.le s
  new : s0.objs p = none
  obj : ∃ x, s.objs p = some [x, .v (.bool bad)] ∧ Buf s0 s x l

theorem AS.set_objs_same (s : AS) (o : Nat) (cs : List AV) : (s.set o cs).objs o = some cs := by simp [AS.set]
theorem AS.gain_own_same (s : AS) (t e : Nat) : (s.gain t e).own t = some e := by simp [AS.gain]

/-- The pen's slots are written anew: as the append leaves it. -/
theorem Pen.put_new {s0 s : AS} {p : Nat} {l : List UInt8} {bad : Bool} (h : Pen s0 s p l bad) {t e : Nat} {m : List UInt8} (b : Bool) (ht : s0.own t = none) : Pen s0 ((s.gain t e).set p [bytesV m (.own t e), .v (.bool b)]) p m b :=
  ⟨AS.le_set (AS.le_gain h.le ht e) h.new _, h.new, _, AS.set_objs_same _ _ _, .inr ⟨t, e, rfl, by simp [AS.set, AS.gain], ht⟩⟩

theorem Pen.own_none {s0 s : AS} {p : Nat} {l : List UInt8} {bad : Bool} (h : Pen s0 s p l bad) {t : Nat} (ht : s.own t = none) : s0.own t = none := by
  cases h0 : s0.own t with
  | none => rfl
  | some e => rw [h.le.own t e h0] at ht; cases ht

theorem all_one_map (l : List UInt8) : (l.map byteV).all AV.one = true := by simp

/-- An octet out of a number. -/
theorem iconv_u8 (n : Nat) : byteV (UInt8.ofNat n) = .v (.int .u8 (iconv .u8 (n : Int))) := by
  rw [iconv_u rfl]
  simp [byteV, IntKind.bits]

/-- The octet that the i-th round of a number's writing appends. -/
theorem be_step (n i : Nat) (hi : i < 8) : AV.v (.int .u8 (iconv .u8 (ishr .u64 (n : Int) (8 * (i : Int))))) = byteV (UInt8.ofNat (n / 2 ^ (8 * i))) := by
  have e : (8 * (i : Int)) = ((8 * i : Nat) : Int) := by omega
  rw [e, ishr_u, iconv_u8]
  have : min (8 * i) IntKind.u64.bits = 8 * i := by simp [IntKind.bits]; omega
  rw [this]

theorem Pen.one {s0 s : AS} {p : Nat} {bad : Bool} (h : Pen s0 s p [] bad) {t : Nat} (ht : s.own t = none) (b : UInt8) : Pen s0 ((s.gain t 0).set p [.sl 1 1 [byteV b] (.own t 0), .v (.bool false)]) p [b] false :=
  h.put_new (m := [b]) false (h.own_none ht)

theorem Pen.more {s0 s : AS} {p : Nat} {l : List UInt8} {bad : Bool} (h : Pen s0 s p l bad) {t e : Nat} (ht : s0.own t = none) (m : List UInt8) {n : Nat} (hn : n = l.length + m.length) {cs : List AV} (hc : cs = l.map byteV ++ m.map byteV) :
    Pen s0 ((s.gain t e).set p [.sl 1 n cs (.own t e), .v (.bool false)]) p (l ++ m) false := by
  subst hn hc
  have := h.put_new (t := t) (e := e) (m := l ++ m) false ht
  simpa [bytesV] using this

end Go.AM
