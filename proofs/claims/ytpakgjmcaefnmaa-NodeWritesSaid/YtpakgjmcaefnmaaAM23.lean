/- An abstract machine for the model: abstract values, their relation to worlds, and the rules of its walk, each proved sound over the model; no condition. -/
import Derived.Test.YtpakgjmcaefnmaaAM22
set_option linter.unusedSimpArgs false
set_option linter.unusedVariables false
set_option autoImplicit false
namespace Go.AM
open Go Go.RowKit

/-! ### A slice of octets, as the guide's shell tells of it -/
theorem row_bytes {w : World} {a : Option Addr} {len cap : Nat} {zs : List Int}
    (h : (a = none ∧ len = 0 ∧ cap = 0 ∧ zs = []) ∨ ∃ x, a = some x ∧ len ≤ cap ∧ cap ≤ maxLen ∧ zs.length = cap ∧ (∀ i, i < zs.length → w.cell? (x.add i) = some (.int .u8 (zs.getD i 0))) ∧ ∀ n ∈ zs, (Lit.int .u8 n).wf = true) :
    ∃ l : List UInt8, l.length = len ∧ l.length ≤ maxLen ∧ VRel (G0 w) (bytesV l .any) (.slice a len cap) := by
  rcases h with ⟨rfl, rfl, rfl, rfl⟩ | ⟨x, rfl, hl, hm, hz, hc, hw⟩
  · exact ⟨[], rfl, by simp, by simp [bytesV, VRel]⟩
  · by_cases h0 : cap = 0
    · obtain rfl : len = 0 := by omega
      refine ⟨[], rfl, by simp, ?_⟩
      simp only [bytesV, VRel]
      exact .inr (.inl ⟨rfl, rfl, x, cap, rfl, by simp⟩)
    · obtain ⟨b, off, rfl, hc'⟩ := ints_at hc (by omega)
      let l : List UInt8 := (zs.take len).map fun n => UInt8.ofNat n.toNat
      have hll : l.length = len := by simp [l]; omega
      have hv : VRels (G0 w) (l.map byteV) ((zs.take len).map (.int .u8)) := by
        have key : ∀ zs : List Int, (∀ n ∈ zs, (Lit.int .u8 n).wf = true) → VRels (G0 w) ((zs.map fun n => UInt8.ofNat n.toNat).map byteV) (zs.map (.int .u8)) := by
          intro zs
          induction zs with
          | nil => intro _; simp [VRels]
          | cons z zs ih =>
            intro h
            have hb := bounds_u8 (h z (by simp))
            simp only [List.map_cons, VRels]
            refine ⟨_, _, rfl, ?_, ih fun n hn => h n (by simp [hn])⟩
            simp only [byteV, VRel]
            congr 1
            simp
            omega
        exact key _ fun n hn => hw n (List.mem_of_mem_take hn)
      refine ⟨l, hll, by omega, ?_⟩
      simp only [bytesV, VRel]
      refine .inl ⟨b, off, cap, (zs.take len).map (.int .u8), by rw [hll], by simp, by omega, hv, ?_, by simp only [SpRel]⟩
      intro j u hj
      have hjl : j < ((zs.take len).map (Value.int .u8)).length := (List.getElem?_eq_some_iff.1 hj).1
      simp only [List.length_map, List.length_take] at hjl
      simp only [G0]
      rw [hc' j (by omega), ← hj]
      simp [List.getElem?_take, List.getD, show j < len by omega]
      rw [List.getElem?_eq_getElem (by omega)]
      simp

theorem int_i64 {a : Int} (_ : (Lit.int .i64 a).wf = true) {w : World} : VRel (G0 w) (.v (.int .i64 a)) (.int .i64 a) := by simp [VRel]

end Go.AM
