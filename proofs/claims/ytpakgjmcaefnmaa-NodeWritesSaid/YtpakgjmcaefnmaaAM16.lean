/- An abstract machine for the model: abstract values, their relation to worlds, and the rules of its walk, each proved sound over the model; no condition. -/
import Derived.Test.YtpakgjmcaefnmaaAM15
set_option linter.unusedSimpArgs false
set_option linter.unusedVariables false
set_option autoImplicit false
namespace Go.AM
open Go Go.RowKit

/-! ### Whole numbers without a sign, as natural numbers -/
section
variable {k : IntKind}

theorem wrap_u (h : k.signed = false) (x : Int) : k.wrap x = x % (2 ^ k.bits : Nat) := by
  cases k <;> simp [IntKind.signed] at h <;> simp [IntKind.wrap, IntKind.bits, IntKind.signed] <;> omega

theorem iadd_u (h : k.signed = false) (a b : Nat) : iadd k a b = ((a + b) % 2 ^ k.bits : Nat) := by
  rw [iadd, wrap_u h]; push_cast; rfl
theorem imul_u (h : k.signed = false) (a b : Nat) : imul k a b = ((a * b) % 2 ^ k.bits : Nat) := by
  rw [imul, wrap_u h]; push_cast; rfl
theorem isub_u (h : k.signed = false) (a b : Nat) (hb : b ≤ 2 ^ k.bits) : isub k a b = ((a + (2 ^ k.bits - b)) % 2 ^ k.bits : Nat) := by
  rw [isub, wrap_u h]
  have e : ((a + (2 ^ k.bits - b) : Nat) : Int) = (a : Int) - b + ((2 ^ k.bits : Nat) : Int) := by omega
  rw [Int.natCast_emod, e]
  simp
theorem isub_u_le (h : k.signed = false) (a b : Nat) (hb : b ≤ a) (ha : a < 2 ^ k.bits) : isub k a b = ((a - b : Nat) : Int) := by
  rw [isub, wrap_u h, show (a : Int) - b = ((a - b : Nat) : Int) from by omega, ← Int.natCast_emod, Nat.mod_eq_of_lt (by omega)]
theorem bv_of (a : Nat) (n : Nat) : BitVec.ofInt n (a : Int) = BitVec.ofNat n a := by simp
theorem iand_u (h : k.signed = false) (a b : Nat) (ha : a < 2 ^ k.bits) (hb : b < 2 ^ k.bits) : iand k a b = ((a &&& b : Nat) : Int) := by
  rw [iand, wrap_u h, bv_of, bv_of, BitVec.toNat_and, BitVec.toNat_ofNat, BitVec.toNat_ofNat, Nat.mod_eq_of_lt ha, Nat.mod_eq_of_lt hb, ← Int.natCast_emod, Nat.mod_eq_of_lt (Nat.lt_of_le_of_lt Nat.and_le_left ha)]
theorem ior_u (h : k.signed = false) (a b : Nat) (ha : a < 2 ^ k.bits) (hb : b < 2 ^ k.bits) : ior k a b = ((a ||| b : Nat) : Int) := by
  rw [ior, wrap_u h, bv_of, bv_of, BitVec.toNat_or, BitVec.toNat_ofNat, BitVec.toNat_ofNat, Nat.mod_eq_of_lt ha, Nat.mod_eq_of_lt hb, ← Int.natCast_emod, Nat.mod_eq_of_lt (Nat.or_lt_two_pow ha hb)]
theorem ixor_u (h : k.signed = false) (a b : Nat) (ha : a < 2 ^ k.bits) (hb : b < 2 ^ k.bits) : ixor k a b = ((a ^^^ b : Nat) : Int) := by
  rw [ixor, wrap_u h, bv_of, bv_of, BitVec.toNat_xor, BitVec.toNat_ofNat, BitVec.toNat_ofNat, Nat.mod_eq_of_lt ha, Nat.mod_eq_of_lt hb, ← Int.natCast_emod, Nat.mod_eq_of_lt (Nat.xor_lt_two_pow ha hb)]
theorem ishl_u (h : k.signed = false) (a c : Nat) : ishl k a c = ((a * 2 ^ (min c k.bits)) % 2 ^ k.bits : Nat) := by
  rw [ishl, wrap_u h]; push_cast; simp
theorem ishr_u (a c : Nat) : ishr k a c = ((a / 2 ^ (min c k.bits) : Nat) : Int) := by
  rw [ishr, Int.fdiv_eq_ediv_of_nonneg _ (Int.le_of_lt (Int.pow_pos (by decide)))]; push_cast; simp
theorem iconv_u (h : k.signed = false) (a : Nat) : iconv k a = ((a % 2 ^ k.bits : Nat) : Int) := by
  rw [iconv, wrap_u h]; push_cast; rfl
theorem inot_u (h : k.signed = false) (a : Nat) (ha : a < 2 ^ k.bits) : inot k a = ((2 ^ k.bits - 1 - a : Nat) : Int) := by
  have e : BitVec.ofInt k.bits (if k.signed = true then -1 else k.max) = BitVec.allOnes k.bits := by
    cases k <;> simp [IntKind.signed] at h <;> rfl
  have : (BitVec.allOnes k.bits ^^^ BitVec.ofNat k.bits a).toNat = 2 ^ k.bits - 1 - a := by
    rw [BitVec.allOnes_xor, BitVec.toNat_not, BitVec.toNat_ofNat, Nat.mod_eq_of_lt ha]
  rw [inot, wrap_u h, e, bv_of, this, ← Int.natCast_emod, Nat.mod_eq_of_lt (by omega)]
theorem iquo_u (h : k.signed = false) (a b : Nat) (ha : a < 2 ^ k.bits) : iquo k a b = ((a / b : Nat) : Int) := by
  rw [iquo, wrap_u h, show (a : Int).tdiv b = ((a / b : Nat) : Int) from (Int.ofNat_tdiv a b).symm, ← Int.natCast_emod, Nat.mod_eq_of_lt (Nat.lt_of_le_of_lt (Nat.div_le_self a b) ha)]
theorem irem_u (a b : Nat) : irem a b = ((a % b : Nat) : Int) := by rw [irem]; exact (Int.ofNat_tmod a b).symm

theorem iadd_i64 {a b : Int} (h : -9223372036854775808 ≤ a + b ∧ a + b ≤ 9223372036854775807) : iadd .i64 a b = a + b := IntWalk.i64_in _ h
theorem isub_i64 {a b : Int} (h : -9223372036854775808 ≤ a - b ∧ a - b ≤ 9223372036854775807) : isub .i64 a b = a - b := IntWalk.i64_in _ h
theorem imul_i64 {a b : Int} (h : -9223372036854775808 ≤ a * b ∧ a * b ≤ 9223372036854775807) : imul .i64 a b = a * b := IntWalk.i64_in _ h
theorem iconv_i64 {a : Int} (h : -9223372036854775808 ≤ a ∧ a ≤ 9223372036854775807) : iconv .i64 a = a := IntWalk.i64_in _ h
end

/-! ### From contracts to the model's calls -/
variable {P : Program}

def G0 (w : World) : Gh := { ro := fun b j => w.cell? ⟨b, j, none⟩, obj := fun _ => none, tok := fun _ _ => none, no := 0, nt := 0, B := w.heap.size, w0 := w }
def s0 : AS := ⟨fun _ => none, fun _ => none⟩

theorem SRel.start (Γ : Nat → List AV) (w : World) (hg : ∀ g, ∃ vs, VRels (G0 w) (Γ g) vs ∧ RoAt (G0 w) g 0 vs) : SRel Γ (G0 w) s0 w where
  ro _ _ _ h := h
  objs o cs h := by simp [s0] at h
  objLt o b h := by simp [G0] at h
  inj o o' b h := by simp [G0] at h
  own t e h := by simp [s0] at h
  ownInj t e t' e' b st en st' en' h := by simp [s0] at h
  ownLast t e h := by simp [s0] at h
  freshO o _ := rfl
  freshT t _ _ := rfl
  below := Below.refl _ _
  base := Nat.le_refl _
  glob := hg
  soft b c T lo hi hb hc := by
    simp only [G0] at hb
    rw [Array.getElem?_eq_none hb] at hc
    cases hc

theorem ACalls.start {Γ : Nat → List AV} {f : FuncId} {args : List AV} {Post : AV → AS → Prop} (h : ACalls P Γ f args s0 Post) {w : World} {vs : List Value} (hv : VRels (G0 w) args vs)
    (hg : ∀ g, ∃ vs, VRels (G0 w) (Γ g) vs ∧ RoAt (G0 w) g 0 vs) (hp : ∀ r s', Post r s' → r = .v (.bool true)) :
    Calls P f vs.toArray w fun e w' => e = .returned (.bool true) ∧ Below w.heap.size w w' := by
  refine (h (G0 w) w vs (SRel.start Γ w hg) hv).mono ?_
  rintro e w' ⟨G', r, v, s', rfl, h1, h2, h3, h4⟩
  have hr := hp r s' h4
  subst hr
  simp only [VRel] at h3
  subst h3
  refine ⟨rfl, ?_⟩
  have hb := h2.below
  rw [h1.B, h1.w0] at hb
  exact hb

def Γ0 : Nat → List AV := fun _ => []
theorem glob0 (w : World) : ∀ g, ∃ vs, VRels (G0 w) (Γ0 g) vs ∧ RoAt (G0 w) g 0 vs := fun g => ⟨[], by simp [Γ0, VRels], fun j u h => by simp at h⟩

/-- A call by its contract, out of a body. -/
theorem ACalls.use {Γ : Nat → List AV} {f : FuncId} {args : List AV} {s : AS} {Q R : AV → AS → Prop} (h : ACalls P Γ f args s Q) (k : ∀ r s', Q r s' → R r s') : ACalls P Γ f args s R := h.mono k

end Go.AM
