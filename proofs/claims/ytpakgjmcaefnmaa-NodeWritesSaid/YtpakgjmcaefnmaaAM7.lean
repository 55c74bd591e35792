/- An abstract machine for the model: abstract values, their relation to worlds, and the rules of its walk, each proved sound over the model; no condition. -/
import Derived.Test.YtpakgjmcaefnmaaAM6
set_option linter.unusedSimpArgs false
set_option linter.unusedVariables false
set_option autoImplicit false
namespace Go.AM
open Go Go.RowKit

variable {P : Program} {Γ : Nat → List AV} {G : Gh} {s : AS} {w : World}

theorem gives_of {r : AV} {x : Sem Value} (h : ∃ z, x.run P w = .ok z w ∧ VRel G r z) (hs : SRel Γ G s w) :
    Gives Γ G s r ((do pure (.value (← x)) : Sem Next).run P w) := by
  obtain ⟨z, h1, h2⟩ := h
  exact .same hs (by simp [h1]) h2

theorem gives_of' {r : AV} {x : Sem Value} (h : ∃ G' z w', x.run P w = .ok z w' ∧ G.le G' ∧ SRel Γ G' s w' ∧ VRel G' r z) :
    Gives Γ G s r ((do pure (.value (← x)) : Sem Next).run P w) := by
  obtain ⟨G', z, w', h1, h2, h3, h4⟩ := h
  exact ⟨G', z, w', by simp [h1], h2, h3, h4⟩

theorem OptRel.of_map {ρ : Operand → AV} {ρ' : Operand → Value} (h : ∀ x, VRel G (ρ x) (ρ' x)) : ∀ (o : Option Operand), OptRel G (o.map ρ) (o.map ρ')
  | .none => .none
  | .some x => .some (h x)

theorem VRels.of_map {ρ : Operand → AV} {ρ' : Operand → Value} (h : ∀ x, VRel G (ρ x) (ρ' x)) : ∀ (l : List Operand), VRels G (l.map ρ) (l.map ρ')
  | [] => by simp [VRels]
  | x :: l => by simp only [List.map_cons, VRels]; exact ⟨_, _, rfl, h x, VRels.of_map h l⟩

theorem run_fieldAt {S : TypeId} {x : AV} {u : Value} {i off : Nat} {T : TypeId} {r : AV} (hf : fieldOf P S i = some (off, T)) (hz : P.cellsOf T ≠ 0)
    (h : (match x with | .ptr o a => some (.ptr o (a + off)) | .rop cs => some (.rop (cs.drop off)) | _ => none) = some r) (hx : VRel G x u) :
    ∃ z, (Instr.fieldAt S u i).run P w = .ok z w ∧ VRel G r z := by
  unfold fieldOf at hf
  split at hf
  · rename_i fs hu
    simp only [Option.map_eq_some_iff] at hf
    obtain ⟨f, hf1, hf2⟩ := hf
    cases hf2
    split at h
    · cases h
      simp only [VRel] at hx
      obtain ⟨b, h1, rfl⟩ := hx
      refine ⟨_, ?_, by simp only [VRel]; exact ⟨b, h1, rfl⟩⟩
      simp [Instr.fieldAt, run_underlying hu, hf1, Instr.sureAddr, fieldPlace, run_sizeOf' hz, hz, add_spot]
    · cases h
      simp only [VRel] at hx
      obtain ⟨b, a, vs, rfl, h1, h2⟩ := hx
      refine ⟨_, ?_, by simp only [VRel]; exact ⟨b, _, _, rfl, h1.drop _, h2.drop _⟩⟩
      simp [Instr.fieldAt, run_underlying hu, hf1, Instr.sureAddr, fieldPlace, run_sizeOf' hz, hz, add_spot]
    · cases h
  · cases hf

theorem run_field' {S : TypeId} {cs : List AV} {u : Value} {i off : Nat} {T : TypeId} {r : AV} (hf : fieldOf P S i = some (off, T)) (hz : P.cellsOf T ≠ 0)
    (h : apart P T cs off = some r) (hx : VRel G (.agg cs) u) :
    ∃ z, (Instr.field S u i).run P w = .ok z w ∧ VRel G r z := by
  unfold fieldOf at hf
  split at hf
  · rename_i fs hu
    simp only [Option.map_eq_some_iff] at hf
    obtain ⟨f, hf1, hf2⟩ := hf
    cases hf2
    simp only [VRel] at hx
    obtain ⟨vs, rfl, hv⟩ := hx
    obtain ⟨z, h1, h2⟩ := run_part' (w := w) h hz hv
    exact ⟨z, by simp [Instr.field, run_underlying hu, hf1, asAgg, h1], h2⟩
  · cases hf

theorem run_extract' {x : AV} {u : Value} {i : Nat} {r : AV} (h : (match x with | .tup cs => cs[i]? | _ => none) = some r) (hx : VRel G x u) :
    ∃ z, (Instr.extract u i).run P w = .ok z w ∧ VRel G r z := by
  split at h
  · simp only [VRel] at hx
    obtain ⟨vs, rfl, hv⟩ := hx
    obtain ⟨z, h1, h2⟩ := hv.get i r h
    exact ⟨z, by simp [Instr.extract, h1], h2⟩
  · cases h

set_option maxHeartbeats 2000000 in
theorem aval_sound (o : Oper) {ρ : Operand → AV} {ρ' : Operand → Value} {r : AV} (h : aval P ρ o.op = some r) (hρ : ∀ x, VRel G (ρ x) (ρ' x)) (hs : SRel Γ G s w) :
    Gives Γ G s r ((execOp ρ' o).run P w) := by
  obtain ⟨dst, op, type, pos, after, guard⟩ := o
  cases op <;> simp only [aval] at h <;> try (cases h; done)
  case move x => cases h; exact .same hs (by simp [execOp]) (hρ x)
  case assign x => cases h; exact .same hs (by simp [execOp]) (hρ x)
  case pick c a b =>
    have hc := hρ c
    split at h
    · rename_i t ht
      rw [ht] at hc
      simp only [VRel] at hc
      cases h
      refine .same hs (v := if t = true then ρ' a else ρ' b) (by simp [execOp, hc, asBool]) ?_
      split
      · exact hρ a
      · exact hρ b
    · cases h
  case build T parts =>
    exact gives_of (run_build (parts := parts.toList.map fun p => (p.1, ρ p.2)) (qs := parts.map fun p => (p.1, ρ' p.2)) h (by simpa using PartsRel.of_map hρ parts.toList)) hs
  case buildSlice T len parts =>
    exact gives_of' (run_buildSlice' hs (parts := parts.toList.map fun p => (p.1, ρ p.2)) (qs := parts.map fun p => (p.1, ρ' p.2)) h (by simpa using PartsRel.of_map hρ parts.toList))
  case load T x =>
    have hx := hρ x
    split at h
    · rename_i cs hc
      rw [hc] at hx
      simp only [VRel] at hx
      obtain ⟨b, off, vs, hu, hv, hro⟩ := hx
      split at h
      · cases h
      · rename_i hz
        obtain ⟨z, h1, h2⟩ := run_loadVar' h hz hv (hs.roAt hro)
        exact .same hs (v := z) (by simp only [execOp, hu, Instr.loadAt, Instr.sureAddr, Sem.run_bind, Sem.run_pure, Result.andThen_ok, h1]) h2
    · cases h
  case nilCheck x =>
    have hx := hρ x
    split at h
    · rename_i o off hc
      rw [hc] at hx
      cases h
      have hx' := hx
      simp only [VRel] at hx
      obtain ⟨b, _, hu⟩ := hx
      exact .same hs (v := ρ' x) (by simp [execOp, hu]) hx'
    · rename_i cs hc
      rw [hc] at hx
      cases h
      have hx' := hx
      simp only [VRel] at hx
      obtain ⟨b, _, _, hu, _⟩ := hx
      exact .same hs (v := ρ' x) (by simp [execOp, hu]) hx'
    · rename_i f cs hc
      rw [hc] at hx
      cases h
      have hx' := hx
      simp only [VRel] at hx
      obtain ⟨b, hu, _⟩ := hx
      exact .same hs (v := ρ' x) (by simp [execOp, hu]) hx'
    · rename_i f a b hc
      rw [hc] at hx
      cases h
      have hx' := hx
      simp only [VRel] at hx
      exact .same hs (v := ρ' x) (by simp [execOp, hx]) hx'
    · cases h
  case binOp op T x y yT =>
    obtain ⟨h1, z, h2, h3⟩ := run_abin (w := w) x y h (hρ x) (hρ y)
    exact .same hs (v := z) (by simp [execOp, h1, h2]) h3
  case unOp op T x => exact gives_of (run_aun h (hρ x)) hs
  case convert src dst x => exact gives_of' (run_aconv h (hρ x) hs)
  case makeFunc fn first captured =>
    cases fn <;> simp only at h <;> try (cases h; done)
    rename_i f
    split at h
    · rename_i hf
      cases h
      have hf' : first = #[] := by simpa using hf
      subst hf'
      refine .same hs (v := .func (.func f) #[] (captured.map ρ')) (by simp [execOp, Instr.makeFunc]) ?_
      simp only [VRel]
      exact ⟨captured.toList.map ρ', by congr 1; apply Array.ext'; simp, VRels.of_map hρ _⟩
    · cases h
  case slice T x lo hi mx => exact gives_of (run_aslice h (hρ x) (.of_map hρ lo) (.of_map hρ hi) (.of_map hρ mx)) hs
  case fieldAddr S x i =>
    split at h
    · rename_i off T hf
      split at h
      · cases h
      · rename_i hz
        exact gives_of (run_fieldAt hf hz h (hρ x)) hs
    · cases h
  case field S x i =>
    split at h
    · rename_i off T cs hf hc
      split at h
      · cases h
      · rename_i hz
        have hx := hρ x
        rw [hc] at hx
        exact gives_of (run_field' hf hz h hx) hs
    · cases h
  case indexAddr T x i => exact gives_of (run_aindexAddr h (hρ x) (hρ i)) hs
  case index T x i => exact gives_of (run_aindex h (hρ x) (hρ i)) hs
  case extract t i => exact gives_of (run_extract' h (hρ t)) hs
  case call c =>
    obtain ⟨callee, args, argTypes⟩ := c
    cases callee <;> simp only at h <;> try (cases h; done)
    rename_i b
    obtain ⟨z, h1, h2⟩ := run_abuiltin (w := w) (T := type) (consts := args.map fun | .const _ => true | _ => false) h (VRels.of_map hρ args.toList)
    refine .same hs (v := z) ?_ h2
    have e : (args.toList.map ρ').toArray = args.map ρ' := by apply Array.ext'; simp
    rw [e] at h1
    simp only [execOp, resolve, Sem.run_bind, Sem.run_pure, Result.andThen_ok, invoke]
    exact h1

end Go.AM
