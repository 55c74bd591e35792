/- An abstract machine for the model: abstract values, their relation to worlds, and the rules of its walk, each proved sound over the model; no condition. -/
import Derived.Test.YtpakgjmcaefnmaaAM25
set_option linter.unusedSimpArgs false
set_option linter.unusedVariables false
set_option autoImplicit false
namespace Go.AM
open Go Go.RowKit

theorem vrel_slice {G : Gh} {x : AV} {v : Value} (o : ∃ a l c, v = .slice a l c) (r : VRels G [x] v.cells.toList) : VRel G x v := by
  obtain ⟨a, l, c, rfl⟩ := o
  simp only [Value.cells, VRels] at r
  obtain ⟨u, us, h, k, rfl⟩ := r
  cases h
  exact k
theorem vrel_agg {G : Gh} {xs : List AV} {v : Value} (o : ∃ cs, v = .agg cs) (r : VRels G xs v.cells.toList) : VRel G (.agg xs) v := by
  obtain ⟨cs, rfl⟩ := o
  simp only [Value.cells] at r
  simp only [VRel]
  exact ⟨cs.toList, by simp, r⟩

theorem VRels.cons {G : Gh} {x : AV} {u : Value} {xs : List AV} {us : List Value} (h : VRel G x u) (k : VRels G xs us) : VRels G (x :: xs) (u :: us) := by
  simp only [VRels]; exact ⟨u, us, rfl, h, k⟩
theorem VRels.none {G : Gh} : VRels G [] [] := by simp only [VRels]
theorem VRel.val {G : Gh} (x : Value) : VRel G (.v x) x := by simp only [VRel]

/-- A slice of rows. -/
theorem IsTy.rows {sz : Nat} {e : Ty} {avs : List AV} (h : IsTy (.slice sz e) avs) : ∃ els : List (List AV), avs = [.sl sz els.length els.flatten .any] ∧ els.length ≤ maxLen ∧ ∀ el ∈ els, el.length = sz ∧ IsTy e el := by
  simpa only [IsTy] using h

theorem flatten_at {sz : Nat} : ∀ {els : List (List AV)} {i : Nat} (h : i < els.length), (∀ el ∈ els, el.length = sz) → (els.flatten.drop (i * sz)).take sz = els[i]
  | [], i, h, _ => by simp at h
  | e :: els, 0, h, k => by
    have := k e (by simp)
    simp [List.take_append, this]
  | e :: els, i + 1, h, k => by
    have he := k e (by simp)
    have ih := flatten_at (els := els) (i := i) (by simpa using h) (fun el hel => k el (by simp [hel]))
    rw [show (i + 1) * sz = e.length + i * sz by rw [he, Nat.succ_mul, Nat.add_comm], List.flatten_cons, ← List.drop_drop, List.drop_left, ih]
    rfl

end Go.AM
