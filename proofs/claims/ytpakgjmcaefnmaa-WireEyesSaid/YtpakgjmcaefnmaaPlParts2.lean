/- Plain laws of numbers and lists that the walks below need; no condition. -/
import Derived.Test.YtpakgjmcaefnmaaPlParts
set_option linter.unusedSimpArgs false
set_option linter.unusedVariables false
set_option autoImplicit false
namespace Go.AM
open Go

theorem IsTy.parts2 {avs : List AV} (h : IsTy (.slice 3 (.struct (.cons tyI (.cons tyI (.cons tyB .nil))))) avs) :
    ∃ ps : List PartV, avs = [.sl 3 ps.length (partsC ps) .any] ∧ ∀ p ∈ ps, (-9223372036854775808 ≤ p.kind ∧ p.kind ≤ 9223372036854775807) ∧ -9223372036854775808 ≤ p.n ∧ p.n ≤ 9223372036854775807 := by
  obtain ⟨els, rfl, _, hall⟩ := IsTy.rows h
  have key : ∀ els : List (List AV), (∀ el ∈ els, el.length = 3 ∧ IsTy (.struct (.cons tyI (.cons tyI (.cons tyB .nil)))) el) →
      ∃ ps : List PartV, els = ps.map PartV.cells ∧ ∀ p ∈ ps, (-9223372036854775808 ≤ p.kind ∧ p.kind ≤ 9223372036854775807) ∧ -9223372036854775808 ≤ p.n ∧ p.n ≤ 9223372036854775807 := by
    intro els
    induction els with
    | nil => intro _; exact ⟨[], rfl, by simp⟩
    | cons e els ih =>
      intro h
      obtain ⟨ps, rfl, hps⟩ := ih (fun el hel => h el (by simp [hel]))
      obtain ⟨_, h1⟩ := h e (by simp)
      obtain ⟨x1, y1, rfl, t1, h1⟩ := isF_cons (isTy_struct h1)
      obtain ⟨x2, y2, rfl, t2, h1⟩ := isF_cons h1
      obtain ⟨x3, y3, rfl, t3, h1⟩ := isF_cons h1
      obtain rfl := isF_nil h1
      obtain ⟨n1, rfl, w1⟩ := isTy_int t1
      obtain ⟨n2, rfl, w2⟩ := isTy_int t2
      obtain ⟨l3, rfl, _⟩ := t3.bytes
      refine ⟨⟨n1, n2, l3⟩ :: ps, rfl, fun p hp => ?_⟩
      rcases List.mem_cons.1 hp with rfl | hp
      · exact ⟨bounds_i64 w1, bounds_i64 w2⟩
      · exact hps p hp
  obtain ⟨ps, rfl, hps⟩ := key els hall
  exact ⟨ps, by simp [partsC], hps⟩
end Go.AM
