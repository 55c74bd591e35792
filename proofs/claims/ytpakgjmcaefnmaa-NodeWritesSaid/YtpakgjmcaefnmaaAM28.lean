/- An abstract machine for the model: abstract values, their relation to worlds, and the rules of its walk, each proved sound over the model; no condition. -/
import Derived.Test.YtpakgjmcaefnmaaAM27
set_option linter.unusedSimpArgs false
set_option linter.unusedVariables false
set_option autoImplicit false
namespace Go.AM
open Go Go.RowKit

variable {P : Program} {Γ : Nat → List AV}

theorem Ghost.freezeBox {N : Nat} {E : Env} {s : AS} {d o : Nat} {cs : List AV} (hE : E d = .ptr o 0) (ho : s.objs o = some cs) :
    Ghost Γ N E s (upd E d (.rop cs)) (s.drop o) := by
  intro G a w hr
  obtain ⟨b, vs, h1, h2, h3, h4, h5⟩ := hr.st.freeze ho
  refine ⟨_, h3, h5, hr.size, fun i => ?_, hr.defers⟩
  simp only [upd]
  split
  · rename_i e
    subst e
    have := hr.tmps i
    rw [hE] at this
    simp only [VRel] at this
    obtain ⟨b', k1, k2⟩ := this
    rw [h1] at k1; cases k1
    rw [k2]
    simp only [VRel]
    exact ⟨b, 0, vs, rfl, VRels.mono h3 _ _ h2, h4⟩
  · exact VRel.mono h3 _ _ (hr.tmps i)

theorem AS.drop_set {s : AS} {o : Nat} (ho : s.objs o = none) (cs : List AV) : (s.set o cs).drop o = s := by
  cases s with
  | mk objs own =>
    simp only [AS.set, AS.drop, AS.mk.injEq, and_true]
    funext i
    simp only [upd]
    split
    · rename_i e; subst e; exact ho.symm
    · rfl

/-- A region whose slot d is a new object's address; the object stays as it is from here on. -/
theorem awp_reg_frz {N : Nat} {E : Env} {s : AS} {Q : Exit → Env → AS → Prop} (d : Nat) {id : Nat} {L : List Oper} {y : Code} (hd : d ∈ dsts L)
    (h : ∀ K : Env → AS → Prop, (∀ E s o cs, E d = .ptr o 0 → s.objs o = none → AWp P Γ N y Q (upd E d (.rop cs)) s → K E (s.set o cs)) → AY P Γ N L.toArray L K E s) : AWp P Γ N (.seq (.region id L.toArray false) y) Q E s := by
  refine awp_seq (awp_region_ghost ?_)
  have := h (fun E' s' => ∃ E'' s'', Ghost Γ N E' s' E'' s'' ∧ (∀ i, i ∉ dsts L → E'' i = E' i) ∧ thenQ (AWp P Γ N y Q) Q .normal E'' s'') ?_
  · rw [ay] at this
    simpa using this
  · intro E' s' o cs h1 h2 h3
    refine ⟨upd E' d (.rop cs), s', ?_, ?_, h3⟩
    · have := Ghost.freezeBox (Γ := Γ) (N := N) (E := E') (s := s'.set o cs) (d := d) h1 (AS.set_objs_same _ _ _)
      rwa [AS.drop_set h2] at this
    · intro i hi
      exact upd_ne _ _ (fun e => hi (e ▸ hd))

end Go.AM
