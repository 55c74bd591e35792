/- An abstract machine for the model: abstract values, their relation to worlds, and the rules of its walk, each proved sound over the model; no condition. -/
import Derived.Test.YtpakgjmcaefnmaaAM11
set_option linter.unusedSimpArgs false
set_option linter.unusedVariables false
set_option autoImplicit false
namespace Go.AM
open Go Go.RowKit

variable {P : Program} {Γ : Nat → List AV} {G : Gh} {s : AS} {w : World}

theorem aval_congr {ρ ρ' : Operand → AV} {op : Op} (h : ∀ x ∈ op.operands, ρ x = ρ' x) : aval P ρ op = aval P ρ' op := by
  have pairs : ∀ ps : Array (Nat × Operand), (∀ x ∈ (ps.toList.map (·.2)).toArray, ρ x = ρ' x) →
      (ps.toList.map fun p => (p.1, ρ p.2)) = (ps.toList.map fun p => (p.1, ρ' p.2)) := fun ps hp =>
    List.map_congr_left fun p hm => by rw [hp p.2 (by simpa using ⟨p.1, by simpa using hm⟩)]
  cases op <;> simp only [Op.operands] at h <;> simp only [aval]
  case build T ps => rw [pairs ps h]
  case buildSlice T n ps => rw [pairs ps h]
  case makeFunc fn first captured =>
    cases fn <;> simp only
    rw [List.map_congr_left (l := captured.toList) fun x hx => h x (by simp; exact .inr (by simpa using hx))]
  case call c =>
    obtain ⟨callee, args, argTypes⟩ := c
    cases callee <;> simp only
    rw [List.map_congr_left (l := args.toList) fun x hx => h x (by simp [Call.operands]; simpa using hx)]
  case slice t x lo hi mx => cases lo <;> cases hi <;> cases mx <;> simp_all
  all_goals (first | rfl | (simp_all; done))

theorem aeff_congr {ρ ρ' : Operand → AV} {op : Op} {K : AV → AS → Prop} (h : ∀ x ∈ op.operands, ρ x = ρ' x) : aeff P Γ ρ s K op ↔ aeff P Γ ρ' s K op := by
  cases op <;> simp only [Op.operands] at h <;> simp only [aeff]
  case call c =>
    obtain ⟨callee, args, argTypes⟩ := c
    have ha : args.toList.map ρ = args.toList.map ρ' := List.map_congr_left (l := args.toList) fun x hx => h x (by
      have : x ∈ args := by simpa using hx
      simp [Call.operands, this])
    cases callee with
    | value f =>
      have hf : ρ f = ρ' f := h f (by simp [Call.operands])
      simp only [aeff, ha, hf]
    | invoke r m => simp only [aeff]
    | builtin b =>
      cases b <;> simp only [aeff]
      all_goals
        split
        · rename_i x y T xT h1 h2
          rw [h1] at ha
          simp only [List.map_cons, List.map_nil, List.cons.injEq, and_true] at ha
          rw [ha.1, ha.2]
        · exact Iff.rfl
  all_goals (first | exact Iff.rfl | (simp_all; done))

theorem astep_congr {ρ ρ' : Operand → AV} {op : Op} {K : AV → AS → Prop} (h : ∀ x ∈ op.operands, ρ x = ρ' x) : astep P Γ ρ s K op ↔ astep P Γ ρ' s K op := by
  unfold astep
  rw [aval_congr h]
  split
  · exact Iff.rfl
  · exact aeff_congr h

section
variable {N : Nat} {ops : Array Oper}

/-- The value of an operation that looks at its operands alone. -/
def pval (P : Program) (Γ : Nat → List AV) (ops : Array Oper) (o : Oper) (E : Env) : Option AV :=
  match o.guard with
  | none => aval P (aeval Γ E) o.op
  | some (j, want) =>
    match gdst ops j with
    | none => none
    | some d =>
      match E d with
      | .v (.bool t) => if t = want then aval P (aeval Γ E) o.op else some (.v undef)
      | .v (.tuple _) => some (.v undef)
      | _ => none

/-- A region's operations in the order of the text, each with a mark: may it look at objects? (else it must be a value of its operands alone). -/
def AXp (P : Program) (Γ : Nat → List AV) (N : Nat) (ops : Array Oper) : List (Oper × Bool) → (Env → AS → Prop) → Env → AS → Prop
  | [], K, E, s => K E s
  | (o, eff) :: rest, K, E, s =>
    if eff = true then AX P Γ N ops [o] (AXp P Γ N ops rest K) E s
    else (∀ d, o.dst = some d → d < N) ∧ match pval P Γ ops o E with | some v => AXp P Γ N ops rest K (updO E o.dst v) s | none => False

theorem AXp_mono : ∀ (L : List (Oper × Bool)) {K K' : Env → AS → Prop} {E : Env} {s : AS}, (∀ E s, K E s → K' E s) → AXp P Γ N ops L K E s → AXp P Γ N ops L K' E s
  | [], K, K', E, s, hk, h => hk _ _ h
  | (o, eff) :: L, K, K', E, s, hk, h => by
    simp only [AXp] at h ⊢
    split at h
    · rename_i he; rw [if_pos he]; exact AX_mono _ (fun E s h => AXp_mono L hk h) h
    · rename_i he
      rw [if_neg he]
      refine ⟨h.1, ?_⟩
      have h := h.2
      split at h
      · exact AXp_mono L hk h
      · exact h

theorem aeval_put {E : Env} {dst : Option Tmp} {v : AV} {x : Operand} (h : ∀ d, dst = some d → x ≠ .tmp d) : aeval Γ (updO E dst v) x = aeval Γ E x := by
  cases x with
  | tmp t =>
    simp only [aeval]
    exact updO_other fun e => h t e rfl
  | const v => rfl
  | global g => rfl
  | func f => rfl

theorem updO_comm {E : Env} {d d' : Option Tmp} {v v' : AV} (h : ∀ x, d = some x → d' ≠ some x) : updO (updO E d v) d' v' = updO (updO E d' v') d v := by
  cases d with
  | none => rfl
  | some x =>
    cases d' with
    | none => rfl
    | some y =>
      have : y ≠ x := fun e => h x rfl (by rw [e])
      funext i
      simp only [updO, upd]
      by_cases h1 : i = y
      · subst h1; simp [this]
      · simp [h1]

theorem looks_operand {o : Oper} {d : Tmp} (h : d ∉ o.looksAt ops) : ∀ x ∈ o.op.operands, x ≠ .tmp d := by
  intro x hx e
  subst e
  exact h (List.mem_append_left _ (List.mem_filterMap.2 ⟨.tmp d, by simpa using hx, rfl⟩))

theorem looks_guard {o : Oper} {d : Tmp} {j : Nat} {want : Bool} (h : d ∉ o.looksAt ops) (hg : o.guard = some (j, want)) : gdst ops j ≠ some d := by
  intro e
  refine h (List.mem_append_right _ ?_)
  simp only [hg]
  unfold gdst at e
  rw [e]
  simp

/-- Two frames that agree where an operation looks. -/
theorem pval_congr {o : Oper} {E E' : Env} (h : ∀ d, d ∈ o.looksAt ops → E' d = E d) : pval P Γ ops o E' = pval P Γ ops o E := by
  have hop : ∀ x ∈ o.op.operands, aeval Γ E' x = aeval Γ E x := fun x hx => by
    cases x with
    | tmp t => exact h t (List.mem_append_left _ (List.mem_filterMap.2 ⟨.tmp t, by simpa using hx, rfl⟩))
    | const v => rfl
    | global g => rfl
    | func f => rfl
  unfold pval
  split
  · exact aval_congr hop
  · rename_i j want hg
    split
    · rfl
    · rename_i d hj
      have : E' d = E d := h d (by
        by_cases hd : d ∈ o.looksAt ops
        · exact hd
        · exact absurd hj (looks_guard hd hg))
      rw [this]
      split
      · split
        · exact aval_congr hop
        · rfl
      · rfl
      · rfl

/-- One step's slots are its own: what lies apart from it does not matter. -/
theorem AX_put {o : Oper} {E : Env} {K : Env → AS → Prop} {dst : Option Tmp} {v : AV} (hl : ∀ d, dst = some d → d ∉ o.looksAt ops) (hd : ∀ d, dst = some d → o.dst ≠ some d) :
    AX P Γ N ops [o] K (updO E dst v) s ↔ AX P Γ N ops [o] (fun E' s' => K (updO E' dst v) s') E s := by
  have hop : ∀ x ∈ o.op.operands, aeval Γ (updO E dst v) x = aeval Γ E x := fun x hx => aeval_put fun d h1 h2 => looks_operand (hl d h1) x hx h2
  have hc : ∀ r, updO (updO E dst v) o.dst r = updO (updO E o.dst r) dst v := fun r => updO_comm fun x h1 h2 => hd x h1 h2
  simp only [AX]
  refine and_congr_right fun _ => ?_
  simp only [hc]
  split
  · exact astep_congr hop
  · rename_i j want hg
    split
    · exact Iff.rfl
    · rename_i d hj
      have hE : updO E dst v d = E d := updO_other fun e => looks_guard (hl d e) hg hj
      rw [hE]
      split
      · split
        · exact astep_congr hop
        · exact Iff.rfl
      · exact Iff.rfl
      · exact Iff.rfl

/-- What a step leaves differs at its own slot alone. -/
theorem AX_one_frame {o : Oper} {E : Env} {K : Env → AS → Prop} (h : AX P Γ N ops [o] K E s) : AX P Γ N ops [o] (fun E' s' => K E' s' ∧ ∀ i, o.dst ≠ some i → E' i = E i) E s := by
  refine AX_mono _ (fun E' s' hE => ⟨hE.1, fun i hi => hE.2 i ?_⟩) (AX_frame [o] h)
  cases hd : o.dst with
  | none => simp [dsts, hd]
  | some d =>
    have : i ≠ d := fun e => hi (by rw [hd, e])
    simp [dsts, hd, this]

/-- A step as AXp has it, whatever its mark. -/
theorem AXp_AX {o : Oper} {eff : Bool} {L : List (Oper × Bool)} {E : Env} {K : Env → AS → Prop} (h : AXp P Γ N ops ((o, eff) :: L) K E s) : AX P Γ N ops [o] (AXp P Γ N ops L K) E s := by
  simp only [AXp] at h
  split at h
  · exact h
  · simp only [AX]
    refine ⟨h.1, ?_⟩
    have h := h.2
    unfold pval at h
    cases hg : o.guard with
    | none =>
      simp only [hg] at h
      cases hv : aval P (aeval Γ E) o.op with
      | none => simp [hv] at h
      | some v => simp only [hv] at h; simp only [astep, hv]; exact h
    | some p =>
      obtain ⟨j, want⟩ := p
      simp only [hg] at h
      cases hj : gdst ops j with
      | none => simp [hj] at h
      | some d =>
        simp only [hj] at h ⊢
        split
        · rename_i t hE
          simp only [hE] at h
          split
          · rename_i ht
            simp only [if_pos ht] at h
            cases hv : aval P (aeval Γ E) o.op with
            | none => simp [hv] at h
            | some v => simp only [hv] at h; simp only [astep, hv]; exact h
          · rename_i ht
            simp only [if_neg ht] at h
            exact h
        · rename_i c hE
          simp only [hE] at h
          exact h
        · rename_i hne hne2
          split at h
          · rename_i v hv
            split at hv
            · rename_i t hE
              exact absurd hE (hne t)
            · rename_i c hE
              exact absurd hE (hne2 c)
            · cases hv
          · exact h

/-- A step really comes to something. -/
theorem AX_one_some {o : Oper} {E : Env} {a : Act} {K : Env → AS → Prop} (h : AX P Γ N ops [o] K E s) (hr : Rel Γ N G E s a w) :
    ∃ G' E' s' a' w', Rel Γ N G' E' s' a' w' ∧ K E' s' ∧ ∀ i, o.dst ≠ some i → E' i = E i := by
  have h' := AX_one_frame h
  clear h
  simp only [AX] at h'
  obtain ⟨hd, h⟩ := h'
  have run : astep P Γ (aeval Γ E) s (fun r s' => K (updO E o.dst r) s' ∧ ∀ i, o.dst ≠ some i → updO E o.dst r i = E i) o.op → ∃ G' E' s' a' w', Rel Γ N G' E' s' a' w' ∧ K E' s' ∧ ∀ i, o.dst ≠ some i → E' i = E i := by
    intro h
    have := astep_sound o h hr.eval hr.st
    generalize (execOp a.eval o).run P w = R at this
    cases R with
    | ok n w' =>
      cases n <;> simp only [OpRes] at this
      case value v =>
        obtain ⟨G', r, s', h1, h2, h3, h4⟩ := this
        exact ⟨G', _, s', _, _, hr.put h1 h2 h3 hd, h4.1, h4.2⟩
      case skip =>
        obtain ⟨G', s', h1, h2, h3⟩ := this
        exact ⟨G', _, s', _, _, hr.put (v := undef) h1 h2 (by simp [VRel]) hd, h3.1, h3.2⟩
      case enter f args =>
        obtain ⟨e, w'', fr, ⟨G', r, v, s', _, h1, h2, h3, h4⟩, _⟩ := this []
        exact ⟨G', _, s', _, _, hr.put h1 h2 h3 hd, h4.1, h4.2⟩
    | halt x w' => simp only [OpRes] at this
  split at h
  · exact run h
  · split at h
    · exact h.elim
    · split at h
      · split at h
        · exact run h
        · exact ⟨G, _, s, _, _, hr.put (v := undef) (.refl G) hr.st (by simp [VRel]) hd, h.1, h.2⟩
      · exact ⟨G, _, s, _, _, hr.put (v := undef) (.refl G) hr.st (by simp [VRel]) hd, h.1, h.2⟩
      · exact h.elim

/-- One operation looks at nothing that the other writes, and they write different slots. -/
def Apart (ops : Array Oper) (x y : Oper) : Prop := x.apart ops y = true

/-- A value of its operands, further down the list, has that value now. -/
theorem pval_later {y : Oper} {L2 : List (Oper × Bool)} {K : Env → AS → Prop} : ∀ (L1 : List (Oper × Bool)) {G : Gh} {E : Env} {s : AS} {a : Act} {w : World}, (∀ x ∈ L1, Apart ops x.1 y) → AXp P Γ N ops (L1 ++ (y, false) :: L2) K E s → Rel Γ N G E s a w →
    (∀ d, y.dst = some d → d < N) ∧ ∃ v, pval P Γ ops y E = some v
  | [], G, E, s, a, w, _, h, hr => by
    simp only [List.nil_append, AXp, Bool.false_eq_true, if_false] at h
    refine ⟨h.1, ?_⟩
    have h := h.2
    split at h
    · rename_i v hv; exact ⟨v, hv⟩
    · exact h.elim
  | (x, ex) :: L1, G, E, s, a, w, hap, h, hr => by
    obtain ⟨G', E', s', a', w', hr', hK, hf⟩ := AX_one_some (AXp_AX h) hr
    obtain ⟨h1, v, h2⟩ := pval_later L1 (fun x hx => hap x (List.mem_cons_of_mem _ hx)) hK hr'
    refine ⟨h1, v, ?_⟩
    rw [← h2]
    refine (pval_congr fun d hd => hf d fun e => ?_).symm
    exact (Oper.apart_spec (hap (x, ex) (by simp))).1 d e hd

/-- That value may be put first. -/
theorem AXp_first_pure {y : Oper} {L2 : List (Oper × Bool)} {K : Env → AS → Prop} {v : AV} : ∀ (L1 : List (Oper × Bool)) {E : Env} {s : AS}, (∀ x ∈ L1, Apart ops x.1 y) → pval P Γ ops y E = some v → AXp P Γ N ops (L1 ++ (y, false) :: L2) K E s →
    AXp P Γ N ops (L1 ++ L2) K (updO E y.dst v) s
  | [], E, s, _, hv, h => by
    simp only [List.nil_append, AXp, Bool.false_eq_true, if_false, hv] at h
    exact h.2
  | (x, ex) :: L1, E, s, hap, hv, h => by
    obtain ⟨a1, a2, a3⟩ := Oper.apart_spec (hap (x, ex) (by simp))
    have hap' : ∀ x ∈ L1, Apart ops x.1 y := fun x hx => hap x (List.mem_cons_of_mem _ hx)
    have hv' : ∀ E' : Env, (∀ i, x.dst ≠ some i → E' i = E i) → pval P Γ ops y E' = some v := fun E' hE => by
      rw [pval_congr (E := E) fun d hd => hE d fun e => a1 d e hd, hv]
    simp only [List.cons_append, AXp] at h ⊢
    split at h
    · rename_i he
      rw [if_pos he]
      refine (AX_put (fun d hd => a3 d hd) (fun d hd e => a2 d e hd)).2 ?_
      refine AX_mono _ (fun E' s' hE => ?_) (AX_one_frame h)
      exact AXp_first_pure L1 hap' (hv' E' hE.2) hE.1
    · rename_i he
      rw [if_neg he]
      refine ⟨h.1, ?_⟩
      have h := h.2
      rw [pval_congr (E := E) fun d hd => updO_other fun e => a3 d e hd]
      split at h
      · rename_i u hu
        simp only [hu]
        rw [updO_comm (fun d h1 h2 => a2 d h2 h1)]
        exact AXp_first_pure L1 hap' (hv' _ fun i hi => updO_other hi) h
      · exact h.elim

/-- An operation that looks at objects, behind values alone, may be put first. -/
theorem AXp_first_eff {y : Oper} {L2 : List (Oper × Bool)} {K : Env → AS → Prop} : ∀ (L1 : List (Oper × Bool)) {E : Env} {s : AS}, (∀ x ∈ L1, Apart ops x.1 y ∧ x.2 = false) → AXp P Γ N ops (L1 ++ (y, true) :: L2) K E s →
    AX P Γ N ops [y] (AXp P Γ N ops (L1 ++ L2) K) E s
  | [], E, s, _, h => by simpa only [List.nil_append, AXp, if_true] using h
  | (x, ex) :: L1, E, s, hap, h => by
    obtain ⟨hap0, hex⟩ := hap (x, ex) (by simp)
    simp only at hex
    subst hex
    obtain ⟨a1, a2, a3⟩ := Oper.apart_spec hap0
    have hap' : ∀ x ∈ L1, Apart ops x.1 y ∧ x.2 = false := fun x hx => hap x (List.mem_cons_of_mem _ hx)
    simp only [List.cons_append, AXp, Bool.false_eq_true, if_false] at h
    obtain ⟨h0, h⟩ := h
    split at h
    · rename_i v hv
      have h1 := AXp_first_eff L1 hap' h
      have h2 := (AX_put (fun d hd => a1 d hd) (fun d hd => a2 d hd)).1 h1
      refine AX_mono _ (fun E' s' hE => ?_) (AX_one_frame h2)
      simp only [List.cons_append, AXp, Bool.false_eq_true, if_false]
      refine ⟨h0, ?_⟩
      rw [pval_congr (E := E) fun d hd => hE.2 d fun e => a3 d e hd, hv]
      exact hE.1
    · exact h.elim

end
end Go.AM
