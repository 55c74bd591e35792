/- An abstract machine for the model: abstract values, their relation to worlds, and the rules of its walk, each proved sound over the model; no condition. -/
import Derived.Test.YtpakgjmcaefnmaaAM31
set_option linter.unusedSimpArgs false
set_option linter.unusedVariables false
set_option autoImplicit false
namespace Go.AM
open Go Go.RowKit

variable {P : Program} {Γ : Nat → List AV} {s : AS}

section
variable {N : Nat} {ops : Array Oper}

theorem markOf_le (fl ld lx : List Nat) (i : Nat) : markOf fl ld lx i ≤ 3 := by
  unfold markOf; split
  · omega
  · split
    · omega
    · split <;> omega

/-- The walk over a drawn region whose readings of staying objects are marked (ld), its other steps strict (fl) or lax (lx). -/
def AXr0 (P : Program) (Γ : Nat → List AV) (N : Nat) (ops : Array Oper) (F : Fz) (fl ld lx : List Nat) : Nat → List Oper → (Env → AS → Prop) → Env → AS → Prop
  | _, [], K, E, s => K E s
  | k, o :: rest, K, E, s =>
    if ld.contains k = true then (∀ d, o.dst = some d → d < N) ∧ match gval ops o E (lval P F (aeval Γ E) o.op) with | some v => AXr0 P Γ N ops F fl ld lx (k + 1) rest K (updO E o.dst v) s | none => False
    else if fl.contains k = true then AY P Γ N ops [o] (fun E' s' => Pres F s' ∧ AXr0 P Γ N ops F fl ld lx (k + 1) rest K E' s') E s
    else if lx.contains k = true then AY P Γ N ops [o] (fun E' s' => ((ld.any fun i => decide (k < i)) = true → Pres F s') ∧ AXr0 P Γ N ops F fl ld lx (k + 1) rest K E' s') E s
    else (∀ d, o.dst = some d → d < N) ∧ match gval ops o E (aval P (aeval Γ E) o.op) with | some v => AXr0 P Γ N ops F fl ld lx (k + 1) rest K (updO E o.dst v) s | none => False

theorem AXr0_AXm {F : Fz} {fl ld lx : List Nat} : ∀ (L : List Oper) (k : Nat) {K : Env → AS → Prop} {E : Env} {s : AS}, (∀ j o, L[j]? = some o → ops[k + j]? = some o) → AXr0 P Γ N ops F fl ld lx k L K E s →
    AXm P Γ N ops F ((List.range' k L.length).map (opAtM ops (markOf fl ld lx))) K E s
  | [], k, K, E, s, _, h => h
  | o :: L, k, K, E, s, hL, h => by
    have ho : ops[k]? = some o := by simpa using hL 0 o (by simp)
    have hL' : ∀ j o', L[j]? = some o' → ops[k + 1 + j]? = some o' := fun j o' hj => by
      have := hL (j + 1) o' (by simpa using hj)
      rwa [show k + 1 + j = k + (j + 1) from by omega]
    have hop : opAtM ops (markOf fl ld lx) k = (o, markOf fl ld lx k) := by simp [opAtM, ho]
    rw [List.length_cons, List.range'_succ, List.map_cons, hop]
    simp only [AXr0] at h
    split at h
    · rename_i hl
      have hm : markOf fl ld lx k = 1 := by unfold markOf; rw [if_pos hl]
      rw [hm]
      simp only [AXm, if_pos (Nat.le_refl 1)]
      refine ⟨h.1, ?_⟩
      have h := h.2
      unfold pvalM
      rw [if_pos rfl]
      split at h
      · rename_i v hv; simp only [hv]; exact AXr0_AXm L (k + 1) hL' h
      · exact h.elim
    · rename_i hl
      split at h
      · rename_i hf
        have hm : markOf fl ld lx k = 2 := by unfold markOf; rw [if_neg hl, if_pos hf]
        rw [hm]
        simp only [AXm]
        rw [if_neg (by omega)]
        rw [ay] at h
        exact AX_mono _ (fun E' s' hE => ⟨fun _ => hE.1, AXr0_AXm L (k + 1) hL' hE.2⟩) h
      · rename_i hf
        split at h
        · rename_i hx
          have hm : markOf fl ld lx k = 3 := by unfold markOf; rw [if_neg hl, if_neg hf, if_pos hx]
          rw [hm]
          simp only [AXm]
          rw [if_neg (by omega)]
          rw [ay] at h
          refine AX_mono _ (fun E' s' hE => ⟨fun hn => hE.1 ?_, AXr0_AXm L (k + 1) hL' hE.2⟩) h
          rcases hn with hn | hn
          · omega
          · unfold needs at hn
            rw [List.any_eq_true] at hn ⊢
            obtain ⟨x, hx1, hx2⟩ := hn
            obtain ⟨i, hi, rfl⟩ := List.mem_map.1 hx1
            have hik : k + 1 ≤ i := by
              rw [List.mem_range'] at hi
              obtain ⟨j, _, rfl⟩ := hi
              omega
            have hmi : markOf fl ld lx i = 1 := by simpa [opAtM] using hx2
            have hc : ld.contains i = true := by
              unfold markOf at hmi
              split at hmi
              · assumption
              · split at hmi
                · omega
                · split at hmi <;> omega
            refine ⟨i, by simpa using hc, by simp; omega⟩
        · rename_i hx
          have hm : markOf fl ld lx k = 0 := by unfold markOf; rw [if_neg hl, if_neg hf, if_neg hx]
          rw [hm]
          simp only [AXm, if_pos (Nat.zero_le 1)]
          refine ⟨h.1, ?_⟩
          have h := h.2
          unfold pvalM
          rw [if_neg (by omega)]
          split at h
          · rename_i v hv; simp only [hv]; exact AXr0_AXm L (k + 1) hL' h
          · exact h.elim

theorem axr_is : ∃ f : Program → (Nat → List AV) → Nat → Array Oper → Fz → List Nat → List Nat → List Nat → Nat → List Oper → (Env → AS → Prop) → Env → AS → Prop, f = AXr0 := ⟨_, rfl⟩
noncomputable def AXr : Program → (Nat → List AV) → Nat → Array Oper → Fz → List Nat → List Nat → List Nat → Nat → List Oper → (Env → AS → Prop) → Env → AS → Prop := Classical.choose axr_is
theorem axr : AXr = AXr0 := Classical.choose_spec axr_is
variable {F : Fz} {fl ld lx : List Nat} {k : Nat} {K : Env → AS → Prop} {E : Env} {o : Oper} {rest : List Oper}
theorem AXr_nil : AXr P Γ N ops F fl ld lx k [] K E s = K E s := by rw [axr]; rfl
theorem AXr_cons : AXr P Γ N ops F fl ld lx k (o :: rest) K E s =
    if ld.contains k = true then (∀ d, o.dst = some d → d < N) ∧ match gval ops o E (lval P F (aeval Γ E) o.op) with | some v => AXr P Γ N ops F fl ld lx (k + 1) rest K (updO E o.dst v) s | none => False
    else if fl.contains k = true then AY P Γ N ops [o] (fun E' s' => Pres F s' ∧ AXr P Γ N ops F fl ld lx (k + 1) rest K E' s') E s
    else if lx.contains k = true then AY P Γ N ops [o] (fun E' s' => ((ld.any fun i => decide (k < i)) = true → Pres F s') ∧ AXr P Γ N ops F fl ld lx (k + 1) rest K E' s') E s
    else (∀ d, o.dst = some d → d < N) ∧ match gval ops o E (aval P (aeval Γ E) o.op) with | some v => AXr P Γ N ops F fl ld lx (k + 1) rest K (updO E o.dst v) s | none => False := by rw [axr]; rfl

theorem fzGet_nil (o : Nat) : fzGet [] o = none := rfl
theorem fzGet_cons (a : Nat) (cs : List AV) (F : Fz) (o : Nat) : fzGet ((a, cs) :: F) o = if a = o then some cs else fzGet F o := by
  unfold fzGet
  rw [List.find?_cons]
  by_cases h : a = o
  · subst h; simp
  · rw [if_neg h, show (a == o) = false from by simpa using h]
theorem Pres_nil : Pres [] s = True := by simp [Pres]
theorem Pres_cons (a : Nat) (cs : List AV) (F : Fz) : Pres ((a, cs) :: F) s = (s.objs a = some cs ∧ Pres F s) := by simp [Pres]
end

section
variable {N : Nat} {E : Env} {Q : Exit → Env → AS → Prop}
theorem awp_mrk_end (hm : P.follows .mixedOrders = true) (F : Fz) (fl ld lx : List Nat) {id : Nat} {L : List Oper} (hok : drawOkM L.toArray (markOf fl ld lx) = true) (hP : Pres F s)
    (h : ∀ K : Env → AS → Prop, (∀ E s, Q .normal E s → K E s) → AXr P Γ N L.toArray F fl ld lx 0 L K E s) : AWp P Γ N (.region id L.toArray true) Q E s := by
  refine awp_region_mark hm F (markOf fl ld lx) (markOf_le fl ld lx) hok hP ?_
  have h1 := h _ fun _ _ h => h
  rw [axr] at h1
  have h2 := AXr0_AXm (ops := L.toArray) L 0 (fun j o hj => by simpa using hj) h1
  simpa [List.range_eq_range'] using h2
theorem awp_mrk_seq (hm : P.follows .mixedOrders = true) (F : Fz) (fl ld lx : List Nat) {id : Nat} {L : List Oper} {y : Code} (hok : drawOkM L.toArray (markOf fl ld lx) = true) (hP : Pres F s)
    (h : ∀ K : Env → AS → Prop, (∀ E s, AWp P Γ N y Q E s → K E s) → AXr P Γ N L.toArray F fl ld lx 0 L K E s) : AWp P Γ N (.seq (.region id L.toArray true) y) Q E s :=
  awp_seq (awp_mrk_end hm F fl ld lx hok hP fun K hK => h K hK)
end
end Go.AM
