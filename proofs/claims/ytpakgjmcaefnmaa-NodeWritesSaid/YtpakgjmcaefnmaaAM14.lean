/- An abstract machine for the model: abstract values, their relation to worlds, and the rules of its walk, each proved sound over the model; no condition. -/
import Derived.Test.YtpakgjmcaefnmaaAM13
set_option linter.unusedSimpArgs false
set_option linter.unusedVariables false
set_option autoImplicit false
namespace Go.AM
open Go Go.RowKit

variable {P : Program} {Γ : Nat → List AV} {G : Gh} {s : AS} {w : World}

/-- The slots at the entry. -/
def initE (args : List AV) : Env := fun i => args.getD i (.v undef)

/-- One result, read out of its slot or its variable. -/
def ares (P : Program) (E : Env) (s : AS) : ResultVar → Option AV
  | .tmp t => some (E t)
  | .cell a T =>
    match E a with
    | .ptr o off =>
      match s.objs o with
      | some cs => if P.cellsOf T = 0 then none else aload P T (cs.drop off)
      | none => none
    | _ => none

def aresL (P : Program) (E : Env) (s : AS) : List ResultVar → Option (List AV)
  | [] => some []
  | r :: rs => match ares P E s r, aresL P E s rs with | some v, some vs => some (v :: vs) | _, _ => none

def atuple : List AV → AV
  | [r] => r
  | rs => .tup rs

/-- The end of a body: what it returns, known as well as is wanted. -/
def AEnds (P : Program) (rs : List ResultVar) (Post : AV → AS → Prop) (E : Env) (s : AS) : Prop :=
  match aresL P E s rs with
  | some vs => ∃ r s', (atuple vs).weak r ∧ s'.le s ∧ Post r s'
  | none => False

def retQ (P : Program) (rs : List ResultVar) (Post : AV → AS → Prop) : Exit → Env → AS → Prop
  | .normal, E, s => AEnds P rs Post E s
  | .ret, E, s => AEnds P rs Post E s
  | _, _, _ => False

/-- One result, in the model. -/
def rres (tmps : Array Value) : ResultVar → Sem Value
  | .tmp t => pure (tmps.getD t undef)
  | .cell b t => do loadVar t (← asAddr (tmps.getD b undef))

theorem results_eq (fn : Func) (tmps : Array Value) : results fn tmps = (do let vs ← fn.results.mapM (rres tmps); pure (if h : vs.size = 1 then vs[0] else .tuple vs)) := by
  unfold results
  have : (fun x : ResultVar => (match x with | .tmp t => pure (tmps.getD t undef) | .cell a t => (do loadVar t (← asAddr (tmps.getD a undef)) : Sem Value) : Sem Value)) = rres tmps := by
    funext x; cases x <;> rfl
  rw [← this]
  rfl

theorem run_ares {N : Nat} {E : Env} {a : Act} (hr : Rel Γ N G E s a w) {rv : ResultVar} {v : AV} (h : ares P E s rv = some v) :
    ∃ z, (rres a.tmps rv).run P w = .ok z w ∧ VRel G v z := by
  cases rv with
  | tmp t => simp only [ares] at h; cases h; exact ⟨_, rfl, hr.tmps t⟩
  | cell b T =>
    simp only [ares] at h
    have hb := hr.tmps b
    split at h
    · rename_i o off hE
      rw [hE] at hb
      split at h
      · rename_i cs hcs
        split at h
        · cases h
        · rename_i hz
          simp only [VRel] at hb
          obtain ⟨blk, hblk, hu⟩ := hb
          obtain ⟨b', vs, h1, h2, h3, h4⟩ := hr.st.objs o cs hcs
          rw [hblk] at h1; cases h1
          obtain ⟨z, q1, q2⟩ := run_loadVar' (w := w) h hz (h2.drop off) (b := blk) (off := off) (fun j u hj => by
            rw [add_spot]
            rw [List.getElem?_drop] at hj
            exact (h4 _ _ hj).1)
          refine ⟨z, ?_, q2⟩
          simp only [rres]
          rw [hu]
          simp [asAddr, q1]
      · cases h
    · cases h

theorem run_aresL {N : Nat} {E : Env} {a : Act} (hr : Rel Γ N G E s a w) : ∀ {rs : List ResultVar} {vs : List AV}, aresL P E s rs = some vs →
    ∃ zs : List Value, (rs.mapM (rres a.tmps)).run P w = .ok zs w ∧ VRels G vs zs
  | [], vs, h => by simp only [aresL] at h; cases h; exact ⟨[], by simp, by simp [VRels]⟩
  | r :: rs, vs, h => by
    simp only [aresL] at h
    split at h
    · rename_i v vs' h1 h2
      cases h
      obtain ⟨z, q1, q2⟩ := run_ares hr h1
      obtain ⟨zs, q3, q4⟩ := run_aresL hr h2
      refine ⟨z :: zs, ?_, by simp only [VRels]; exact ⟨z, zs, rfl, q2, q4⟩⟩
      simp only [List.mapM_cons, Sem.run_bind, q1, Result.andThen_ok, q3, Sem.run_pure]
    · cases h

theorem VRel_tuple {vs : List AV} {zs : List Value} (h : VRels G vs zs) : VRel G (atuple vs) (if h : zs.toArray.size = 1 then zs.toArray[0] else .tuple zs.toArray) := by
  have hl := h.length
  match vs, zs, h with
  | [], [], h => simp only [atuple, VRel]; exact ⟨[], rfl, h⟩
  | [v], [z], h =>
    simp only [VRels] at h
    obtain ⟨u, us, h1, h2, _⟩ := h
    cases h1
    simpa [atuple] using h2
  | v :: v' :: vs, z :: z' :: zs, h =>
    simp only [atuple, VRel]
    exact ⟨z :: z' :: zs, by simp, h⟩
  | [], z :: zs, h => simp at hl
  | v :: vs, [], h => simp at hl
  | [v], z :: z' :: zs, h => simp at hl
  | v :: v' :: vs, [z], h => simp at hl

/-- A contract out of the body's walk. -/
theorem acalls_of {f : FuncId} {fn : Func} {c : Code} {args : List AV} {Post : AV → AS → Prop} {s : AS} (hf : P.funcs[f]? = some fn) (hb : fn.body = some c) (hn : args.length ≤ fn.ntmps)
    (h : AWp P Γ fn.ntmps c (retQ P fn.results.toList Post) (initE args) s) : ACalls P Γ f args s Post := by
  intro G w vs hs hv
  have hvl := hv.length
  refine calls_of_wp hf hb ?_
  have hrel : Rel Γ fn.ntmps G (initE args) s { tmps := vs.toArray ++ Array.replicate (fn.ntmps - vs.toArray.size) undef, defers := [] } w := by
    refine ⟨hs, by simp; omega, fun i => ?_, rfl⟩
    simp only [initE]
    by_cases hi : i < args.length
    · obtain ⟨u, h1, h2⟩ := hv.getD i hi
      have hi' : i < vs.length := by omega
      rw [Array.getD_eq_getD_getElem?, Array.getElem?_append_left (by simpa using hi')]
      simp only [List.getElem?_toArray, h1, Option.getD_some]
      exact h2
    · have e1 : args.getD i (.v undef) = .v undef := by simp [List.getD, List.getElem?_eq_none (Nat.le_of_not_lt hi)]
      rw [e1, Array.getD_eq_getD_getElem?, Array.getElem?_append_right (by simp; omega)]
      simp only [VRel]
      cases hh : (Array.replicate (fn.ntmps - vs.toArray.size) undef)[i - vs.toArray.size]? with
      | none => rfl
      | some u =>
        rw [Array.getElem?_replicate] at hh
        split at hh
        · cases hh; rfl
        · cases hh
  refine wp_mono (h G _ w hrel) ?_
  rintro e a' w' ⟨G', E', s', h1, h2, h3, h4⟩
  have fin : AEnds P fn.results.toList Post E' s' → bodyPost P fn (fun e w' => ∃ G' r v s', e = .returned v ∧ G.le G' ∧ SRel Γ G' s' w' ∧ VRel G' r v ∧ Post r s') .normal a' w' := by
    intro hF
    unfold AEnds at hF
    split at hF
    · rename_i vs' hvs
      obtain ⟨r, s2, q1, q2, q3⟩ := hF
      obtain ⟨zs, r1, r2⟩ := run_aresL h2 hvs
      refine ⟨h2.defers, if h : zs.toArray.size = 1 then zs.toArray[0] else .tuple zs.toArray, ?_, G', r, _, s2, rfl, h1, h2.st.mono q2, q1 _ _ (VRel_tuple r2), q3⟩
      rw [results_eq, Array.mapM_eq_mapM_toList]
      simp only [Sem.run_bind, Sem.run_map, r1, Result.andThen_ok, Sem.run_pure]
    · exact hF.elim
  cases e <;> simp only [retQ] at h3
  case normal => exact fin h3
  case ret => exact fin h3

/-- A step of knowledge alone: slots and memory read anew. -/
def Ghost (Γ : Nat → List AV) (N : Nat) (E : Env) (s : AS) (E' : Env) (s' : AS) : Prop :=
  ∀ (G : Gh) (a : Act) (w : World), Rel Γ N G E s a w → ∃ G', G.le G' ∧ Rel Γ N G' E' s' a w

theorem Ghost.refl {N : Nat} {E : Env} {s : AS} : Ghost Γ N E s E s := fun G a w h => ⟨G, .refl G, h⟩

/-- An object that a slot's slice covers becomes read-only memory. -/
theorem Ghost.freeze {N : Nat} {E : Env} {s : AS} {d o off sz n cap : Nat} {cs : List AV} (hE : E d = .osl o off sz n cap) (ho : s.objs o = some cs) (hle : off + n * sz ≤ cs.length) :
    Ghost Γ N E s (upd E d (.sl sz n ((cs.drop off).take (n * sz)) .no)) (s.drop o) := by
  intro G a w hr
  obtain ⟨b, vs, h1, h2, h3, h4, h5⟩ := hr.st.freeze ho
  refine ⟨_, h3, h5, hr.size, fun i => ?_, hr.defers⟩
  simp only [upd]
  split
  · rename_i e
    subst e
    have := hr.tmps i
    rw [hE] at this
    simp only [VRel] at this
    obtain ⟨b', k1, k2, k3⟩ := this
    rw [h1] at k1; cases k1
    have hl := h2.length
    rw [k2]
    simp only [VRel]
    refine .inl ⟨b, off, cap, (vs.drop off).take (n * sz), rfl, by simp; omega, k3, VRels.mono h3 _ _ ((h2.drop _).take _), ?_, trivial⟩
    have := (h4.drop off).take (n * sz)
    simpa using this
  · exact VRel.mono h3 _ _ (hr.tmps i)

/-- A region, and a step of knowledge behind it, at slots that it writes. -/
theorem awp_region_ghost {N : Nat} {E : Env} {Q : Exit → Env → AS → Prop} {id : Nat} {ops : Array Oper}
    (h : AX P Γ N ops ops.toList (fun E' s' => ∃ E'' s'', Ghost Γ N E' s' E'' s'' ∧ (∀ i, i ∉ dsts ops.toList → E'' i = E' i) ∧ Q .normal E'' s'') E s) : AWp P Γ N (.region id ops false) Q E s := by
  intro G a w hr
  refine wp_region (AX_wpOps ops.toList _ ?_ (AX_frame _ h) hr ?_)
  · apply List.ext_getElem?
    intro i
    simp only [List.getElem?_map]
    by_cases hi : i < ops.size
    · simp [hi]
    · simp [hi]
  · intro G' E' s' a' w' h1 h2 h3
    obtain ⟨⟨E'', s'', k1, k2, k3⟩, k4⟩ := h3
    obtain ⟨G'', q1, q2⟩ := k1 G' a' w' h2
    exact ⟨G'', E'', s'', h1.trans q1, q2, k3, fun i hi => by rw [k2 i hi, k4 i hi]⟩

theorem AV.weak_tup2 {a b c d : AV} (h : a.weak c) (k : b.weak d) : (AV.tup [a, b]).weak (.tup [c, d]) := by
  intro G v hv
  simp only [VRel, VRels] at hv ⊢
  obtain ⟨vs, rfl, u, us, rfl, h1, u', us', rfl, h2, rfl⟩ := hv
  exact ⟨_, rfl, u, _, rfl, h G u h1, u', _, rfl, k G u' h2, rfl⟩

theorem AV.weak_tup3 {a b c d e f : AV} (h : a.weak d) (k : b.weak e) (l : c.weak f) : (AV.tup [a, b, c]).weak (.tup [d, e, f]) := by
  intro G v hv
  simp only [VRel, VRels] at hv ⊢
  obtain ⟨vs, rfl, u, us, rfl, h1, u', us', rfl, h2, u'', us'', rfl, h3, rfl⟩ := hv
  exact ⟨_, rfl, u, _, rfl, h G u h1, u', _, rfl, k G u' h2, u'', _, rfl, l G u'' h3, rfl⟩

end Go.AM
