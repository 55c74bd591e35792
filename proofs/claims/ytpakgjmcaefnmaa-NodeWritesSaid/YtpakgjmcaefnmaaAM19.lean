/- An abstract machine for the model: abstract values, their relation to worlds, and the rules of its walk, each proved sound over the model; no condition. -/
import Derived.Test.YtpakgjmcaefnmaaAM18
set_option linter.unusedSimpArgs false
set_option linter.unusedVariables false
set_option autoImplicit false
namespace Go.AM
open Go Go.RowKit

/-! ### What a pen's functions do -/
def penNum (k n : Nat) (st : List UInt8 × Bool) : List UInt8 × Bool := if st.2 = true then st else (st.1 ++ be k n, false)
def penSmall (k : Nat) (n : Int) (st : List UInt8 × Bool) : List UInt8 × Bool := if 0 ≤ n ∧ n < 2 ^ (8 * k) then penNum k n.toNat st else (st.1, true)
def penRaw (m : List UInt8) (st : List UInt8 × Bool) : List UInt8 × Bool := if st.2 = true then st else (st.1 ++ m, false)
def penText (k : Nat) (m : List UInt8) (st : List UInt8 × Bool) : List UInt8 × Bool := penRaw m (penSmall k m.length st)

abbrev PenS (s0 s : AS) (p : Nat) (st : List UInt8 × Bool) : Prop := Pen s0 s p st.1 st.2

/-- A slice of bytes, nil or not. -/
def IsB (x : AV) (l : List UInt8) : Prop := (x = nilS ∧ l = []) ∨ ∃ sp, x = bytesV l sp
theorem IsB.nil : IsB nilS [] := .inl ⟨rfl, rfl⟩
theorem IsB.mk (l : List UInt8) (sp : Sp) : IsB (bytesV l sp) l := .inr ⟨sp, rfl⟩

theorem IsB.weak {x : AV} {l : List UInt8} (h : IsB x l) : x.weak (bytesV l .any) := by
  rcases h with ⟨rfl, rfl⟩ | ⟨sp, rfl⟩
  · exact AV.weak_nil
  · exact AV.weak_any

/-- A call whose argument may be nil. -/
theorem ACalls.any {P : Program} {Γ : Nat → List AV} {f : FuncId} {pre post : List AV} {l : List UInt8} {s : AS} {Q : AV → AS → Prop} (h0 : l = [] → ACalls P Γ f (pre ++ nilS :: post) s Q) (h1 : ACalls P Γ f (pre ++ bytesV l .no :: post) s Q) :
    ACalls P Γ f (pre ++ bytesV l .any :: post) s Q := by
  intro G w vs hs hv
  have key : ∀ (pre : List AV) (vs : List Value), VRels G (pre ++ bytesV l .any :: post) vs → (l = [] ∧ VRels G (pre ++ nilS :: post) vs) ∨ VRels G (pre ++ bytesV l .no :: post) vs := by
    intro pre
    induction pre with
    | nil =>
      intro vs h
      simp only [List.nil_append, VRels] at h ⊢
      obtain ⟨u, us, rfl, h1, h2⟩ := h
      rcases VRel.any h1 with ⟨h3, _, h4⟩ | h3
      · exact .inl ⟨List.eq_nil_of_length_eq_zero h3, u, us, rfl, h4, h2⟩
      · exact .inr ⟨u, us, rfl, h3, h2⟩
    | cons x pre ih =>
      intro vs h
      simp only [List.cons_append, VRels] at h ⊢
      obtain ⟨u, us, rfl, h1, h2⟩ := h
      rcases ih us h2 with ⟨h3, h4⟩ | h3
      · exact .inl ⟨h3, u, us, rfl, h1, h4⟩
      · exact .inr ⟨u, us, rfl, h1, h3⟩
  rcases key pre vs hv with ⟨h3, h4⟩ | h3
  · exact h0 h3 G w vs hs h4
  · exact h1 G w vs hs h3

theorem penNum_len (k n : Nat) (st : List UInt8 × Bool) : (penNum k n st).1.length ≤ st.1.length + k := by
  unfold penNum; split <;> simp
theorem penSmall_len (k : Nat) (n : Int) (st : List UInt8 × Bool) : (penSmall k n st).1.length ≤ st.1.length + k := by
  unfold penSmall; split
  · exact penNum_len ..
  · simp
theorem penRaw_len (m : List UInt8) (st : List UInt8 × Bool) : (penRaw m st).1.length ≤ st.1.length + m.length := by
  unfold penRaw; split <;> simp
theorem penText_len (k : Nat) (m : List UInt8) (st : List UInt8 × Bool) : (penText k m st).1.length ≤ st.1.length + k + m.length := by
  unfold penText
  have h1 := penRaw_len m (penSmall k m.length st)
  have h2 := penSmall_len k m.length st
  omega

theorem Pen.append {s0 s : AS} {p : Nat} {l : List UInt8} {bad : Bool} (h : Pen s0 s p l bad) : ∃ x, s.objs p = some [x, .v (.bool bad)] ∧ ((x = nilS ∧ l = []) ∨ ∃ t e, x = bytesV l (.own t e) ∧ s.own t = some e ∧ s0.own t = none) := h.obj

theorem Pen.put_one {s0 s : AS} {p : Nat} {bad : Bool} (h : Pen s0 s p [] bad) {t : Nat} (ht : s.own t = none) (m : List UInt8) : Pen s0 ((s.gain t 0).set p [.sl 1 m.length (m.map byteV) (.own t 0), .v (.bool false)]) p m false :=
  h.put_new (m := m) false (h.own_none ht)

/-- The pen goes bad. -/
theorem Pen.bad {s0 s : AS} {p : Nat} {l : List UInt8} {bad : Bool} (h : Pen s0 s p l bad) {x : AV} (hx : s.objs p = some [x, .v (.bool bad)]) (hb : Buf s0 s x l) (b : Bool) : Pen s0 (s.set p [x, .v (.bool b)]) p l b :=
  ⟨AS.le_set h.le h.new _, h.new, x, AS.set_objs_same _ _ _, hb⟩

theorem shr_small (n : Int) (k : Nat) (hk : 8 * k ≤ 64) (h0 : 0 ≤ n) : (ishr .i64 n (8 * (k : Int)) != 0) = decide (2 ^ (8 * k) ≤ n) := by
  obtain ⟨m, rfl⟩ := Int.eq_ofNat_of_zero_le h0
  rw [show (8 * (k : Int)) = ((8 * k : Nat) : Int) from by omega, ishr_u]
  have : min (8 * k) IntKind.i64.bits = 8 * k := by simp [IntKind.bits]; omega
  rw [this]
  have e : ((2 : Int) ^ (8 * k)) = ((2 ^ (8 * k) : Nat) : Int) := by push_cast; rfl
  rw [e]
  have hpos : 0 < 2 ^ (8 * k) := Nat.pow_pos (by decide)
  by_cases h : m < 2 ^ (8 * k)
  · rw [Nat.div_eq_of_lt h]
    simp
    omega
  · have : m / 2 ^ (8 * k) ≠ 0 := by
      rw [Ne, Nat.div_eq_zero_iff]
      omega
    have h1 : ((((m / 2 ^ (8 * k) : Nat) : Int) != 0) = true) := by
      rw [bne_iff_ne]; omega
    rw [h1]
    symm
    rw [decide_eq_true_eq]
    omega

theorem iconv_u64_nat (n : Nat) (h : n < 2 ^ 64) : iconv .u64 (n : Int) = n := by
  rw [iconv_u rfl]
  simp [IntKind.bits, Nat.mod_eq_of_lt h]

end Go.AM
