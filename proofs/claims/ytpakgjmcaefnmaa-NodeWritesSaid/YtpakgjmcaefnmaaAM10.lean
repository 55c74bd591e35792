/- An abstract machine for the model: abstract values, their relation to worlds, and the rules of its walk, each proved sound over the model; no condition. -/
import Derived.Test.YtpakgjmcaefnmaaAM9
set_option linter.unusedSimpArgs false
set_option linter.unusedVariables false
set_option autoImplicit false
namespace Go.AM
open Go Go.RowKit

variable {P : Program} {Γ : Nat → List AV} {G : Gh} {s : AS} {w : World}

theorem run_execOp_builtin {ρ' : Operand → Value} {o : Oper} {b : Builtin} {args : Array Operand} {argTypes : Array TypeId} (ho : o.op = .call { callee := .builtin b, args, argTypes }) :
    execOp ρ' o = builtin b argTypes o.type (args.map fun | .const _ => true | _ => false) (args.map ρ') := by
  obtain ⟨dst, op, type, pos, after, guard⟩ := o
  simp only at ho
  subst ho
  rfl

theorem two_of_toList {α : Type} {a : Array α} {x y : α} (h : a.toList = [x, y]) : a = #[x, y] := by
  apply Array.ext'; simpa using h

theorem aeff_append {ρ : Operand → AV} {ρ' : Operand → Value} {K : AV → AS → Prop} {args : Array Operand} {argTypes : Array TypeId} {o : Oper} (ho : o.op = .call { callee := .builtin .append, args, argTypes })
    (h : aeff P Γ ρ s K (.call { callee := .builtin .append, args, argTypes })) (hρ : ∀ x, VRel G (ρ x) (ρ' x)) (hs : SRel Γ G s w) : OpRes P Γ G K ((execOp ρ' o).run P w) := by
  simp only [aeff] at h
  split at h
  · rename_i x y T xT ha ht
    split at h
    · rename_i e hT
      split at h
      · rename_i z m ds hz hsrc
        obtain ⟨h1, h2, h3, h4⟩ := h
        obtain ⟨G', v, w', r, s', q1, q2, q3, q4, q5⟩ := aappend_sound hT h1 ⟨hz, h2, h3⟩ hsrc h4 (hρ x) (hρ y) hs o.type
        rw [run_execOp_builtin ho]
        have e1 := two_of_toList ha
        have e2 := two_of_toList ht
        subst e1 e2
        simp only [builtin]
        exact opres_value ⟨G', v, w', r, s', by simpa using q1, q2, q3, q4, q5⟩
      · exact h.elim
    · exact h.elim
  · exact h.elim

theorem aeff_copy {ρ : Operand → AV} {ρ' : Operand → Value} {K : AV → AS → Prop} {args : Array Operand} {argTypes : Array TypeId} {o : Oper} (ho : o.op = .call { callee := .builtin .copy, args, argTypes })
    (h : aeff P Γ ρ s K (.call { callee := .builtin .copy, args, argTypes })) (hρ : ∀ x, VRel G (ρ x) (ρ' x)) (hs : SRel Γ G s w) : OpRes P Γ G K ((execOp ρ' o).run P w) := by
  simp only [aeff] at h
  split at h
  · rename_i x y T xT ha ht
    split at h
    · rename_i e hT
      split at h
      · rename_i m ds ob off sz n cap hsrc hx
        split at h
        · rename_i cs hcs
          obtain ⟨hz, h1, h2, h3⟩ := h
          have hxr := hρ x
          rw [hx] at hxr
          simp only [VRel] at hxr
          obtain ⟨b, hb, hu, hnc⟩ := hxr
          have hyr := hρ y
          -- the source, cut to what is copied
          have key : ∃ us, VRels G (ds.take (min m n * P.cellsOf e)) us ∧ us.length = min m n * P.cellsOf e ∧ (Builtin.lenOf (ρ' y)).run P w = .ok m w ∧ (Builtin.firstCells (P.cellsOf e) (min m n) (ρ' y)).run P w = .ok us.toArray w := by
            unfold asrc at hsrc
            split at hsrc
            · rename_i hy
              rw [hy] at hyr
              split at hsrc
              · rename_i sz' m' ds' sp hsz
                subst hsz
                cases hsrc
                simp only [VRel] at hyr
                rcases hyr with ⟨b2, off2, cap2, vs, hv0, hl, _, hv, hro, _⟩ | ⟨rfl, rfl, a, cap', hv0, _⟩ | ⟨rfl, rfl, _, hv0⟩
                case inr.inr =>
                  refine ⟨[], by simp [VRels], by simp, by rw [hv0]; rfl, ?_⟩
                  rw [hv0]
                  simp [Builtin.firstCells]
                case inr.inl =>
                  refine ⟨[], by simp [VRels], by simp, by rw [hv0]; rfl, ?_⟩
                  rw [hv0, Nat.zero_min]
                  exact run_firstCells_some w _ _ _ _ _ [] (by simp) (by simp)
                have hlen := hv.length
                have hle : min m n * P.cellsOf e ≤ m * P.cellsOf e := Nat.mul_le_mul_right _ (Nat.min_le_left _ _)
                refine ⟨vs.take (min m n * P.cellsOf e), hv.take _, by simp; omega, by rw [hv0]; rfl, ?_⟩
                rw [hv0]
                exact run_firstCells_some w _ _ _ _ _ _ (by simp; omega) (fun j v hj => by
                  rw [add_spot]
                  rw [List.getElem?_take] at hj
                  split at hj
                  · exact hs.ro _ _ _ (hro j v hj)
                  · cases hj)
              · cases hsrc
            · rename_i hy
              rw [hy] at hyr
              cases hsrc
              simp only [VRel] at hyr
              rw [hyr]
              exact ⟨[], by simp [VRels], by simp, rfl, by simp [Builtin.firstCells]⟩
            · rename_i hy
              rw [hy] at hyr
              split at hsrc
              · rename_i o2 off2 sz' m' cap2 hsz
                subst hsz
                split at hsrc
                · rename_i cs2 hc2
                  split at hsrc
                  · rename_i hle2
                    cases hsrc
                    simp only [VRel] at hyr
                    obtain ⟨b2, ho2, hv0, _⟩ := hyr
                    obtain ⟨b', vs, k1, k2, k3, k4⟩ := hs.objs o2 cs2 hc2
                    rw [ho2] at k1; cases k1
                    have hlen := k2.length
                    have hle : min m n * P.cellsOf e ≤ m * P.cellsOf e := Nat.mul_le_mul_right _ (Nat.min_le_left _ _)
                    refine ⟨((vs.drop off2).take (m * P.cellsOf e)).take (min m n * P.cellsOf e), ((k2.drop off2).take _).take _, by simp; omega, by rw [hv0]; rfl, ?_⟩
                    rw [hv0]
                    exact run_firstCells_some w _ _ _ _ _ _ (by simp; omega) (fun j v hj => by
                      rw [add_spot]
                      rw [List.getElem?_take] at hj
                      split at hj
                      · rw [List.getElem?_take] at hj
                        split at hj
                        · rw [List.getElem?_drop] at hj
                          exact (k4 _ _ hj).1
                        · cases hj
                      · cases hj)
                  · cases hsrc
                · cases hsrc
              · cases hsrc
            · rename_i hy
              rw [hy] at hyr
              split at hsrc
              · rename_i b2 hsz
                cases hsrc
                simp only [VRel] at hyr
                rw [hyr, hsz]
                have hbs : b2.data.size = b2.size := rfl
                refine ⟨(bvals b2.data.toList).take (min b2.size n * 1), (VRels_bytes _).take _, by simp [bvals, hbs], rfl, ?_⟩
                simp only [Builtin.firstCells, Sem.run_pure]
                congr 1
                apply Array.ext'
                simp [bvals, List.map_take, List.extract_eq_take_drop]
              · cases hsrc
            · cases hsrc
          obtain ⟨us, hv, hlen, hl, hf⟩ := key
          have hvl := hv.length
          obtain ⟨f1, f2, f3⟩ := setCells_obj hs hcs hb (off := off) (by omega) hv
          have hone : (ds.take (min m n * P.cellsOf e)).all AV.one = true := by
            rw [List.all_eq_true] at h1 ⊢
            exact fun x hx => h1 x (List.mem_of_mem_take hx)
          have hst := run_storeCells_cells (P := P) b off us 0 w (by simpa using f1) (by simpa using f2) (one_of_all hv hone)
          simp only [Nat.add_zero] at hst
          rw [run_execOp_builtin ho]
          have e1 := two_of_toList ha
          have e2 := two_of_toList ht
          subst e1 e2
          simp only [builtin]
          refine opres_value ⟨G, .int .i64 ((min m n : Nat) : Int), _, _, _, ?_, .refl G, f3, by simp [VRel], h3⟩
          have hu' : ρ' x = .slice (some ⟨b, off, none⟩) n cap := hu
          have hf' : (Builtin.firstCells (P.cellsOf e) (Nat.min m n) (ρ' y)).run P w = .ok us.toArray w := hf
          simp [Builtin.copy_, run_underlying hT, hu', hl, run_sizeOf' hz, hf', hst, goInt]
        · exact h.elim
      · exact h.elim
    · exact h.elim
  · exact h.elim

theorem aeff_call {ρ : Operand → AV} {ρ' : Operand → Value} {K : AV → AS → Prop} {f : Operand} {args : Array Operand} {argTypes : Array TypeId} {o : Oper} (ho : o.op = .call { callee := .value f, args, argTypes })
    (h : aeff P Γ ρ s K (.call { callee := .value f, args, argTypes })) (hρ : ∀ x, VRel G (ρ x) (ρ' x)) (hs : SRel Γ G s w) : OpRes P Γ G K ((execOp ρ' o).run P w) := by
  have e : (args.toList.map ρ').toArray = args.map ρ' := by apply Array.ext'; simp
  have hargs := VRels.of_map hρ args.toList
  simp only [aeff] at h
  have hf := hρ f
  split at h
  · rename_i k first caps hc
    rw [hc] at hf
    simp only [VRel] at hf
    obtain ⟨h1, h2, h3, h4⟩ := h
    have h1' : first = #[] := by simpa using h1
    have h2' : caps = #[] := by simpa using h2
    subst h1' h2'
    have := opres_call h3 h4 hs hargs
    rw [e] at this
    obtain ⟨dst, op, type, pos, after, guard⟩ := o
    simp only at ho
    subst ho
    simpa [execOp, resolve, hf, Deferred.ofValue, invoke] using this
  · rename_i k caps hc
    rw [hc] at hf
    simp only [VRel] at hf
    obtain ⟨vs, hf, hv⟩ := hf
    obtain ⟨h3, h4⟩ := h
    have := opres_call h3 h4 hs (hargs.append hv)
    have e2 : (args.toList.map ρ' ++ vs).toArray = args.map ρ' ++ vs.toArray := by apply Array.ext'; simp
    rw [e2] at this
    obtain ⟨dst, op, type, pos, after, guard⟩ := o
    simp only at ho
    subst ho
    simpa [execOp, resolve, hf, Deferred.ofValue, invoke] using this
  · exact h.elim

theorem aeff_sound {ρ : Operand → AV} {ρ' : Operand → Value} {K : AV → AS → Prop} (o : Oper) (h : aeff P Γ ρ s K o.op) (hρ : ∀ x, VRel G (ρ x) (ρ' x)) (hs : SRel Γ G s w) : OpRes P Γ G K ((execOp ρ' o).run P w) := by
  cases hop : o.op <;> rw [hop] at h <;> try (simp only [aeff] at h; done)
  case load T x => exact aeff_load hop h hρ hs
  case store T x y => exact aeff_store hop h hρ hs
  case alloc T => exact aeff_alloc hop h hs
  case box T x => exact aeff_box hop h hρ hs
  case makeSlice T x y => exact aeff_makeSlice hop h hρ hs
  case call c =>
    obtain ⟨callee, args, argTypes⟩ := c
    cases callee with
    | value f => exact aeff_call hop h hρ hs
    | invoke r m => simp only [aeff] at h
    | builtin b =>
      cases b <;> try (simp only [aeff] at h; done)
      case append => exact aeff_append hop h hρ hs
      case copy => exact aeff_copy hop h hρ hs

theorem astep_sound {ρ : Operand → AV} {ρ' : Operand → Value} {K : AV → AS → Prop} (o : Oper) (h : astep P Γ ρ s K o.op) (hρ : ∀ x, VRel G (ρ x) (ρ' x)) (hs : SRel Γ G s w) : OpRes P Γ G K ((execOp ρ' o).run P w) := by
  unfold astep at h
  split at h
  · rename_i r hr
    obtain ⟨G', v, w', h1, h2, h3, h4⟩ := aval_sound o hr hρ hs
    rw [h1]
    exact ⟨G', r, s, h2, h3, h4, h⟩
  · exact aeff_sound o h hρ hs

abbrev Env := Nat → AV

/-- The slots, as values. -/
def aeval (Γ : Nat → List AV) (E : Env) : Operand → AV
  | .tmp t => E t
  | .const v => .v v
  | .global g => .rop (Γ g)
  | .func f => .v (.func (.func f) #[] #[])

structure Rel (Γ : Nat → List AV) (N : Nat) (G : Gh) (E : Env) (s : AS) (a : Act) (w : World) : Prop where
  st : SRel Γ G s w
  size : a.tmps.size = N
  tmps : ∀ i, VRel G (E i) (a.tmps.getD i undef)
  defers : a.defers = []

theorem Rel.eval {N : Nat} {E : Env} {a : Act} (h : Rel Γ N G E s a w) (x : Operand) : VRel G (aeval Γ E x) (a.eval x) := by
  cases x with
  | tmp t => exact h.tmps t
  | const v => simp [aeval, Act.eval, VRel]
  | global g =>
    obtain ⟨vs, h1, h2⟩ := h.st.glob g
    simp only [aeval, Act.eval, VRel]
    exact ⟨g, 0, vs, rfl, h1, h2⟩
  | func f => simp [aeval, Act.eval, VRel]

def updO (E : Env) : Option Tmp → AV → Env
  | some d, v => upd E d v
  | none, _ => E

theorem Rel.put {N : Nat} {E : Env} {a : Act} {G' : Gh} {s' : AS} {w' : World} {r : AV} {v : Value} (h : Rel Γ N G E s a w) (hle : G.le G') (hs : SRel Γ G' s' w') (hv : VRel G' r v) {dst : Option Tmp} (hd : ∀ d, dst = some d → d < N) :
    Rel Γ N G' (updO E dst r) s' (a.put dst v) w' := by
  cases dst with
  | none => exact ⟨hs, h.size, fun i => VRel.mono hle _ _ (h.tmps i), h.defers⟩
  | some d =>
    refine ⟨hs, by simp [Act.put, h.size], fun i => ?_, h.defers⟩
    simp only [updO, upd, Act.put]
    split
    · rename_i e
      subst e
      have : i < a.tmps.size := by rw [h.size]; exact hd i rfl
      simpa [Array.getD, this] using hv
    · rename_i e
      have := VRel.mono hle _ _ (h.tmps i)
      simp only [Array.getD_eq_getD_getElem?] at this ⊢
      rw [Array.getElem?_setIfInBounds_ne (by omega)]
      exact this

end Go.AM
