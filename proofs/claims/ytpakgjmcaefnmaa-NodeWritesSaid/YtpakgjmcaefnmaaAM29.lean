/- An abstract machine for the model: abstract values, their relation to worlds, and the rules of its walk, each proved sound over the model; no condition. -/
import Derived.Test.YtpakgjmcaefnmaaAM28
set_option linter.unusedSimpArgs false
set_option linter.unusedVariables false
set_option autoImplicit false
namespace Go.AM
open Go Go.RowKit

variable {P : Program} {Γ : Nat → List AV}

/-! ### Eyes as objects of a state -/
abbrev eyeC (st : EyeSt) : List AV := [bytesV st.1 .any, .v (.int .i64 st.2)]
abbrev reyeC (st : EyeSt) : List AV := [.v (.string ⟨st.1.toArray⟩), .v (.int .i64 st.2)]

theorem AS.drop_le (s : AS) (p : Nat) : (s.drop p).le s := by
  refine ⟨fun o cs hc => ?_, fun t e he => ?_⟩
  · simp only [AS.drop, upd] at hc
    split at hc
    · cases hc
    · exact hc
  · simpa [AS.drop] using he

theorem EyeS.at {s : AS} {p : Nat} {st : EyeSt} (h : s.objs p = some (eyeC st)) : EyeS (s.drop p) s p st := ⟨AS.drop_le s p, by simp [AS.drop], h⟩
theorem REyeS.at {s : AS} {p : Nat} {st : EyeSt} (h : s.objs p = some (reyeC st)) : REyeS (s.drop p) s p st := ⟨AS.drop_le s p, by simp [AS.drop], h⟩

theorem AS.set_le_of {s s' : AS} {p : Nat} {cs : List AV} (h : (s.drop p).le s') (ho : s'.objs p = some cs) : (s.set p cs).le s' := by
  refine ⟨fun o c hc => ?_, fun t e he => ?_⟩
  · by_cases e : o = p
    · subst e
      simp [AS.set] at hc
      rw [ho, hc]
    · simp only [AS.set, upd, if_neg e] at hc
      exact h.objs o c (by simpa only [AS.drop, upd, if_neg e] using hc)
  · exact h.own t e (by simpa [AS.drop, AS.set] using he)

/-- A contract may forget. -/
theorem ACalls.forget {f : FuncId} {args : List AV} {s : AS} {Q R : AV → AS → Prop} (h : ACalls P Γ f args s Q) (k : ∀ r s', Q r s' → ∃ s'', s''.le s' ∧ R r s'') : ACalls P Γ f args s R := by
  intro G w vs hs hv
  refine (h G w vs hs hv).mono ?_
  rintro e w' ⟨G', r, v, s', h1, h2, h3, h4, h5⟩
  obtain ⟨s'', k1, k2⟩ := k r s' h5
  exact ⟨G', r, v, s'', h1, h2, h3.mono k1, h4, k2⟩

theorem EyeS.call {f : FuncId} {args : List AV} {s : AS} {p : Nat} {st : EyeSt} {A : AV → Prop} (h : ACalls P Γ f args s (fun r s' => A r ∧ EyeS (s.drop p) s' p st)) : ACalls P Γ f args s (fun r s' => A r ∧ s' = s.set p (eyeC st)) :=
  h.forget fun r s' ⟨h1, h2⟩ => ⟨s.set p (eyeC st), AS.set_le_of h2.le h2.obj, h1, rfl⟩
theorem REyeS.call {f : FuncId} {args : List AV} {s : AS} {p : Nat} {st : EyeSt} {A : AV → Prop} (h : ACalls P Γ f args s (fun r s' => A r ∧ REyeS (s.drop p) s' p st)) : ACalls P Γ f args s (fun r s' => A r ∧ s' = s.set p (reyeC st)) :=
  h.forget fun r s' ⟨h1, h2⟩ => ⟨s.set p (reyeC st), AS.set_le_of h2.le h2.obj, h1, rfl⟩
theorem AS.drop_none {s : AS} {p : Nat} (h : s.objs p = none) : s.drop p = s := by
  cases s with
  | mk objs own =>
    simp only [AS.drop, AS.mk.injEq, and_true]
    funext i
    simp only [upd]
    split
    · rename_i e; subst e; exact h.symm
    · rfl
theorem EyeS.open {f : FuncId} {args : List AV} {s : AS} {st : EyeSt} (h : ACalls P Γ f args s (fun r s' => ∃ p, r = .ptr p 0 ∧ EyeS s s' p st)) : ACalls P Γ f args s (fun r s' => ∃ p, s.objs p = none ∧ r = .ptr p 0 ∧ s' = s.set p (eyeC st)) :=
  h.forget fun r s' ⟨p, h1, h2⟩ => ⟨s.set p (eyeC st), AS.set_le_of (by rw [AS.drop_none h2.new]; exact h2.le) h2.obj, p, h2.new, h1, rfl⟩

theorem AS.set_objs_ne (s : AS) {o p : Nat} (h : p ≠ o) (cs : List AV) : (s.set o cs).objs p = s.objs p := by simp [AS.set, upd, h]
theorem AS.fresh_set {s : AS} {o p : Nat} {cs : List AV} (h : (s.set o cs).objs p = none) : p ≠ o ∧ s.objs p = none := by
  by_cases e : p = o
  · subst e; simp [AS.set] at h
  · exact ⟨e, by simpa [AS.set, upd, e] using h⟩
theorem aends_cell_tmp {E : Env} {s : AS} {Post : AV → AS → Prop} {a T t o off : Nat} {cs : List AV} {v : AV} (h1 : E a = .ptr o off) (h2 : s.objs o = some cs) (h3 : P.cellsOf T ≠ 0) (h4 : aload P T (cs.drop off) = some v)
    (h : ∃ r s', (AV.tup [v, E t]).weak r ∧ s'.le s ∧ Post r s') : retQ P [.cell a T, .tmp t] Post .ret E s := by
  simp only [retQ, AEnds, aresL, ares, h1, h2, if_neg h3, h4]
  exact h
theorem aends_cell {E : Env} {s : AS} {Post : AV → AS → Prop} {a T o off : Nat} {cs : List AV} {v : AV} (h1 : E a = .ptr o off) (h2 : s.objs o = some cs) (h3 : P.cellsOf T ≠ 0) (h4 : aload P T (cs.drop off) = some v)
    (h : ∃ r s', v.weak r ∧ s'.le s ∧ Post r s') : retQ P [.cell a T] Post .ret E s := by
  simp only [retQ, AEnds, aresL, ares, h1, h2, if_neg h3, h4]
  exact h
theorem AS.set_mid (s : AS) {p o : Nat} (h : p ≠ o) (a b c : List AV) : ((s.set p a).set o b).set p c = (s.set p c).set o b := by
  simp only [AS.set, AS.mk.injEq, and_true]
  funext i
  simp only [upd]
  by_cases h1 : i = p
  · subst h1; simp [h]
  · simp [h1]
theorem AS.set_mid2 (s : AS) {p o o' : Nat} (h : p ≠ o) (h' : p ≠ o') (a b b' c : List AV) : (((s.set p a).set o b).set o' b').set p c = ((s.set p c).set o b).set o' b' := by
  simp only [AS.set, AS.mk.injEq, and_true]
  funext i
  simp only [upd]
  by_cases h1 : i = p
  · subst h1; simp [h, h']
  · simp [h1]
end Go.AM
