/- An abstract machine for the model: abstract values, their relation to worlds, and the rules of its walk, each proved sound over the model; no condition. -/
import Derived.Test.YtpakgjmcaefnmaaAM3
import Derived.Laws.Build
set_option linter.unusedSimpArgs false
set_option linter.unusedVariables false
set_option autoImplicit false
namespace Go.AM
open Go Go.RowKit

variable {P : Program} {Γ : Nat → List AV} {G : Gh} {s : AS} {w : World}

theorem RoAt.drop {b off : Nat} {vs : List Value} (h : RoAt G b off vs) (n : Nat) : RoAt G b (off + n) (vs.drop n) := by
  intro j u hj
  rw [List.getElem?_drop] at hj
  have := h (n + j) u hj
  rwa [show off + n + j = off + (n + j) from by omega]

theorem RoAt.take {b off : Nat} {vs : List Value} (h : RoAt G b off vs) (n : Nat) : RoAt G b off (vs.take n) := by
  intro j u hj
  rw [List.getElem?_take] at hj
  split at hj
  · exact h j u hj
  · cases hj

theorem run_aindexAddr {T : TypeId} {x i r : AV} {u v : Value} (h : aindexAddr P T x i = some r) (hx : VRel G x u) (hi : VRel G i v) :
    ∃ z, (Instr.indexAt T u v).run P w = .ok z w ∧ VRel G r z := by
  unfold aindexAddr at h
  split at h
  · rename_i e sz n cs sp k j hu
    simp only [VRel] at hx hi
    subst hi
    rcases hx with ⟨b, off, cap, vs, rfl, hl, _, hv, hro, _⟩ | ⟨rfl, _, a, cap, rfl, _⟩ | ⟨rfl, _, _, rfl⟩
    case inr.inl =>
      split at h
      · rename_i hc
        obtain ⟨h0, h1, _⟩ := hc
        exact absurd h1 (by omega)
      · cases h
    case inr.inr =>
      split at h
      · rename_i hc
        obtain ⟨h0, h1, _⟩ := hc
        exact absurd h1 (by omega)
      · cases h
    split at h
    · rename_i hc
      obtain ⟨h0, h1, rfl, hz⟩ := hc
      cases h
      refine ⟨.pointer (some ⟨b, off + j.toNat * P.cellsOf e, none⟩), ?_, ?_⟩
      · simp [Instr.indexAt, run_underlying hu, asIntOf, h0, h1, run_sizeOf' hz, add_spot]
      · simp only [VRel]
        exact ⟨b, _, _, rfl, (hv.drop _).take _, (hro.drop _).take _⟩
    · cases h
  · rename_i e o off sz n cap k j hu
    simp only [VRel] at hx hi
    subst hi
    obtain ⟨b, ho, rfl, _⟩ := hx
    split at h
    · rename_i hc
      obtain ⟨h0, h1, rfl, hz⟩ := hc
      cases h
      refine ⟨.pointer (some ⟨b, off + j.toNat * P.cellsOf e, none⟩), ?_, ?_⟩
      · simp [Instr.indexAt, run_underlying hu, asIntOf, h0, h1, run_sizeOf' hz, add_spot]
      · simp only [VRel]
        exact ⟨b, ho, rfl⟩
    · cases h
  · rename_i n e o off k j hu
    simp only [VRel] at hx hi
    subst hi
    obtain ⟨b, ho, rfl⟩ := hx
    split at h
    · rename_i hc
      obtain ⟨h0, h1, hz⟩ := hc
      cases h
      refine ⟨.pointer (some ⟨b, off + j.toNat * P.cellsOf e, none⟩), ?_, ?_⟩
      · simp [Instr.indexAt, run_underlying hu, Instr.sureAddr, asIntOf, h0, h1, run_sizeOf' hz, add_spot]
      · simp only [VRel]
        exact ⟨b, ho, rfl⟩
    · cases h
  · rename_i n e cs k j hu
    simp only [VRel] at hx hi
    subst hi
    obtain ⟨b, off, vs, rfl, hv, hro⟩ := hx
    split at h
    · rename_i hc
      obtain ⟨h0, h1, hz⟩ := hc
      cases h
      refine ⟨.pointer (some ⟨b, off + j.toNat * P.cellsOf e, none⟩), ?_, ?_⟩
      · simp [Instr.indexAt, run_underlying hu, Instr.sureAddr, asIntOf, h0, h1, run_sizeOf' hz, add_spot]
      · simp only [VRel]
        exact ⟨b, _, _, rfl, hv.drop _, hro.drop _⟩
    · cases h
  · cases h

theorem run_aindex {T : TypeId} {x i r : AV} {u v : Value} (h : aindex P T x i = some r) (hx : VRel G x u) (hi : VRel G i v) :
    ∃ z, (Instr.index T u v).run P w = .ok z w ∧ VRel G r z := by
  unfold aindex at h
  split at h
  · rename_i n e cs k j hu
    simp only [VRel] at hx hi
    subst hi
    obtain ⟨vs, rfl, hv⟩ := hx
    split at h
    · rename_i hc
      obtain ⟨h0, h1, hz⟩ := hc
      obtain ⟨z, hz1, hz2⟩ := run_part' (w := w) h hz hv
      refine ⟨z, ?_, hz2⟩
      simp [Instr.index, run_underlying hu, asIntOf, h0, h1, run_sizeOf' hz, hz1]
    · cases h
  · rename_i b k j hu
    simp only [VRel] at hx hi
    subst hi hx
    split at h
    · rename_i h0
      split at h
      · rename_i c hc
        cases h
        refine ⟨.int .u8 c.toNat, ?_, by simp [byteV, VRel]⟩
        simp [Instr.index, run_underlying hu, asIntOf, h0, hc]
      · cases h
    · cases h
  · cases h

theorem run_sliceBound {x : Value} {y : Nat} {code : BoundsCode} {k : IntKind} {i : Int} (hx : x = .int k i) (h0 : 0 ≤ i) (h1 : i ≤ y) :
    (Instr.sliceBound x y code).run P w = .ok i.toNat w := by
  subst hx
  simp [Instr.sliceBound, asIntOf, h0, h1]

/-- An optional bound. -/
inductive OptRel (G : Gh) : Option AV → Option Value → Prop
  | none : OptRel G .none .none
  | some {a : AV} {v : Value} : VRel G a v → OptRel G (.some a) (.some v)

theorem optInt_some {d l : Int} {a : Option AV} {v : Option Value} (h : optInt d a = some l) (hr : OptRel G a v) : (v = none ∧ l = d) ∨ ∃ k, v = some (.int k l) := by
  cases hr with
  | none => simp [optInt] at h; exact .inl ⟨rfl, h.symm⟩
  | some hv =>
    rename_i a v
    cases a <;> simp [optInt] at h
    rename_i x
    cases x <;> simp [optInt] at h
    simp only [VRel] at hv
    subst hv h
    exact .inr ⟨_, rfl⟩

theorem run_sliceBounds {isSlice : Bool} {len cap : Nat} {l h : Int} {lo hi : Option Value} (hlo : (lo = none ∧ l = 0) ∨ ∃ k, lo = some (.int k l)) (hhi : (hi = none ∧ h = len) ∨ ∃ k, hi = some (.int k h))
    (h0 : 0 ≤ l) (h1 : l ≤ h) (h2 : h ≤ cap) (w : World) :
    (Instr.sliceBounds isSlice len cap lo hi none).run P w = .ok (l.toNat, h.toNat, cap) w := by
  unfold Instr.sliceBounds
  rcases hhi with ⟨rfl, rfl⟩ | ⟨k', rfl⟩
  · rcases hlo with ⟨rfl, rfl⟩ | ⟨k, rfl⟩
    · simp
    · simp [run_sliceBound (P := P) (w := w) (x := .int k l) (y := len) (code := .sliceB) rfl h0 h1]
  · rcases hlo with ⟨rfl, rfl⟩ | ⟨k, rfl⟩
    · simp [run_sliceBound (P := P) (w := w) (x := .int k' h) (y := cap) rfl (by omega) h2]
    · have e : ((h.toNat : Nat) : Int) = h := by omega
      simp [run_sliceBound (P := P) (w := w) (x := .int k' h) (y := cap) rfl (by omega) h2, run_sliceBound (P := P) (w := w) (x := .int k l) (y := h.toNat) (code := .sliceB) rfl h0 (by omega)]

theorem run_sliceBounds3 {isSlice : Bool} {len cap : Nat} {l h m : Int} {lo : Option Value} {k1 k2 : IntKind} (hlo : (lo = none ∧ l = 0) ∨ ∃ k, lo = some (.int k l))
    (h0 : 0 ≤ l) (h1 : l ≤ h) (h2 : h ≤ m) (h3 : m ≤ cap) (w : World) :
    (Instr.sliceBounds isSlice len cap lo (some (.int k1 h)) (some (.int k2 m))).run P w = .ok (l.toNat, h.toNat, m.toNat) w := by
  unfold Instr.sliceBounds
  rcases hlo with ⟨rfl, rfl⟩ | ⟨k, rfl⟩
  · simp [run_sliceBound (P := P) (w := w) (x := .int k2 m) (y := cap) rfl (by omega) h3, run_sliceBound (P := P) (w := w) (x := .int k1 h) (y := m.toNat) (code := .slice3B) rfl (by omega) (by omega)]
  · simp [run_sliceBound (P := P) (w := w) (x := .int k2 m) (y := cap) rfl (by omega) h3, run_sliceBound (P := P) (w := w) (x := .int k1 h) (y := m.toNat) (code := .slice3B) rfl (by omega) (by omega),
      run_sliceBound (P := P) (w := w) (x := .int k l) (y := h.toNat) (code := .slice3C) rfl h0 (by omega)]

theorem sliceAt_slice {T e : TypeId} (hu : P.underlying T = some (.slice e)) (x : Value) (lo hi mx : Option Value) : (Instr.sliceAt T x lo hi mx).run P w = (Instr.slice T x lo hi mx).run P w := by
  simp [Instr.sliceAt, run_underlying hu]
theorem sliceAt_string {T : TypeId} (hu : P.underlying T = some .string) (x : Value) (lo hi mx : Option Value) : (Instr.sliceAt T x lo hi mx).run P w = (Instr.slice T x lo hi mx).run P w := by
  simp [Instr.sliceAt, run_underlying hu]

end Go.AM
