/- An abstract machine for the model: abstract values, their relation to worlds, and the rules of its walk, each proved sound over the model; no condition. -/
import Derived.Test.YtpakgjmcaefnmaaAM30
set_option linter.unusedSimpArgs false
set_option linter.unusedVariables false
set_option autoImplicit false
namespace Go.AM
open Go Go.RowKit

variable {P : Program} {Γ : Nat → List AV} {G : Gh} {s : AS} {w : World}

/-! ### Drawn regions, where some objects are known to stay as they are: they may be read at any time -/
abbrev Fz := List (Nat × List AV)
def Pres (F : Fz) (s : AS) : Prop := ∀ x ∈ F, s.objs x.1 = some x.2
def fzGet (F : Fz) (o : Nat) : Option (List AV) := (F.find? (fun x => x.1 == o)).map (·.2)
theorem fzGet_pres {F : Fz} {s : AS} (h : Pres F s) {o : Nat} {cs : List AV} (hg : fzGet F o = some cs) : s.objs o = some cs := by
  unfold fzGet at hg
  rw [Option.map_eq_some_iff] at hg
  obtain ⟨x, h1, rfl⟩ := hg
  have h2 := List.mem_of_find?_eq_some h1
  have h3 := List.find?_some h1
  simp only [beq_iff_eq] at h3
  rw [← h3]
  exact h x h2

def lval (P : Program) (F : Fz) (ρ : Operand → AV) (op : Op) : Option AV :=
  match op with
  | .load T x => match ρ x with
    | .ptr o off => match fzGet F o with
      | some cs => if P.cellsOf T = 0 then none else aload P T (cs.drop off)
      | none => none
    | _ => none
  | _ => none

theorem lval_congr {F : Fz} {ρ ρ' : Operand → AV} {op : Op} (h : ∀ x ∈ op.operands, ρ x = ρ' x) : lval P F ρ op = lval P F ρ' op := by
  cases op <;> simp only [lval]
  case load T x => rw [h x (by simp [Op.operands])]

section
variable {N : Nat} {ops : Array Oper}

/-- What a value comes to behind its guard. -/
def gval (ops : Array Oper) (o : Oper) (E : Env) (v : Option AV) : Option AV :=
  match o.guard with
  | none => v
  | some (j, want) =>
    match gdst ops j with
    | none => none
    | some d =>
      match E d with
      | .v (.bool t) => if t = want then v else some (.v undef)
      | .v (.tuple _) => some (.v undef)
      | _ => none

def pvalM (P : Program) (Γ : Nat → List AV) (ops : Array Oper) (F : Fz) (m : Nat) (o : Oper) (E : Env) : Option AV :=
  gval ops o E (if m = 1 then lval P F (aeval Γ E) o.op else aval P (aeval Γ E) o.op)

theorem pvalM_congr {F : Fz} {m : Nat} {o : Oper} {E E' : Env} (h : ∀ d, d ∈ o.looksAt ops → E' d = E d) : pvalM P Γ ops F m o E' = pvalM P Γ ops F m o E := by
  have hop : ∀ x ∈ o.op.operands, aeval Γ E' x = aeval Γ E x := fun x hx => by
    cases x with
    | tmp t => exact h t (List.mem_append_left _ (List.mem_filterMap.2 ⟨.tmp t, by simpa using hx, rfl⟩))
    | const v => rfl
    | global g => rfl
    | func f => rfl
  unfold pvalM
  rw [lval_congr hop, aval_congr hop]
  unfold gval
  split
  · rfl
  · rename_i j want hg
    split
    · rfl
    · rename_i d hj
      have : E' d = E d := h d (by
        by_cases hd : d ∈ o.looksAt ops
        · exact hd
        · exact absurd hj (looks_guard hd hg))
      rw [this]

def needs (L : List (Oper × Nat)) : Bool := L.any fun x => x.2 == 1

/-- A region's operations in the order of the text, each with a mark: 0 a value of its operands, 1 a reading of an object that stays, 2 a step that leaves those objects, 3 a step that leaves them where one is still to be read. -/
def AXm (P : Program) (Γ : Nat → List AV) (N : Nat) (ops : Array Oper) (F : Fz) : List (Oper × Nat) → (Env → AS → Prop) → Env → AS → Prop
  | [], K, E, s => K E s
  | (o, m) :: rest, K, E, s =>
    if m ≤ 1 then (∀ d, o.dst = some d → d < N) ∧ match pvalM P Γ ops F m o E with | some v => AXm P Γ N ops F rest K (updO E o.dst v) s | none => False
    else AX P Γ N ops [o] (fun E' s' => ((m = 2 ∨ needs rest = true) → Pres F s') ∧ AXm P Γ N ops F rest K E' s') E s

theorem AXm_mono {F : Fz} : ∀ (L : List (Oper × Nat)) {K K' : Env → AS → Prop} {E : Env} {s : AS}, (∀ E s, K E s → K' E s) → AXm P Γ N ops F L K E s → AXm P Γ N ops F L K' E s
  | [], K, K', E, s, hk, h => hk _ _ h
  | (o, m) :: L, K, K', E, s, hk, h => by
    simp only [AXm] at h ⊢
    split at h
    · rename_i he
      rw [if_pos he]
      refine ⟨h.1, ?_⟩
      have h := h.2
      split at h
      · exact AXm_mono L hk h
      · exact h
    · rename_i he; rw [if_neg he]; exact AX_mono _ (fun E s h => ⟨h.1, AXm_mono L hk h.2⟩) h

theorem needs_cons {x : Oper × Nat} {L : List (Oper × Nat)} : needs (x :: L) = ((x.2 == 1) || needs L) := rfl
theorem needs_append {L M : List (Oper × Nat)} : needs (L ++ M) = (needs L || needs M) := by simp [needs]

/-- A step as AXm has it, whatever its mark. -/
theorem AXm_AX {F : Fz} {o : Oper} {m : Nat} {L : List (Oper × Nat)} {E : Env} {K : Env → AS → Prop} (hp : needs ((o, m) :: L) = true → Pres F s) (h : AXm P Γ N ops F ((o, m) :: L) K E s) :
    AX P Γ N ops [o] (fun E' s' => (needs L = true → Pres F s') ∧ AXm P Γ N ops F L K E' s') E s := by
  have hp' : needs L = true → Pres F s := fun h => hp (by rw [needs_cons, h, Bool.or_true])
  simp only [AXm] at h
  split at h
  · rename_i hm
    have core : ∀ v, (if m = 1 then lval P F (aeval Γ E) o.op else aval P (aeval Γ E) o.op) = some v → AXm P Γ N ops F L K (updO E o.dst v) s →
        astep P Γ (aeval Γ E) s (fun r s' => (needs L = true → Pres F s') ∧ AXm P Γ N ops F L K (updO E o.dst r) s') o.op := by
      intro v hv hK
      by_cases h1 : m = 1
      · rw [if_pos h1] at hv
        have hP : Pres F s := hp (by rw [needs_cons]; simp [h1])
        cases hop : o.op <;> rw [hop] at hv <;> simp only [lval] at hv <;> try (cases hv; done)
        rename_i T x
        cases hx : aeval Γ E x <;> rw [hx] at hv <;> simp only at hv <;> try (cases hv; done)
        rename_i ob off
        cases hg : fzGet F ob with
        | none => rw [hg] at hv; cases hv
        | some cs =>
          rw [hg] at hv
          simp only at hv
          split at hv
          · cases hv
          · rename_i hc
            have ha : aval P (aeval Γ E) (.load T x) = none := by simp only [aval, hx]
            simp only [astep, ha, aeff_load_eq, hx, fzGet_pres hP hg, hv]
            exact ⟨hc, hp', hK⟩
      · rw [if_neg h1] at hv
        simp only [astep, hv]
        exact ⟨hp', hK⟩
    simp only [AX]
    refine ⟨h.1, ?_⟩
    have h := h.2
    unfold pvalM gval at h
    cases hg : o.guard with
    | none =>
      simp only [hg] at h
      split at h
      · rename_i v hv; exact core v hv h
      · exact h.elim
    | some p =>
      obtain ⟨j, want⟩ := p
      simp only [hg] at h
      cases hj : gdst ops j with
      | none => simp [hj] at h
      | some d =>
        simp only [hj] at h ⊢
        split
        · rename_i t hE
          simp only [hE] at h
          split
          · rename_i ht
            simp only [if_pos ht] at h
            split at h
            · rename_i v hv; exact core v hv h
            · exact h.elim
          · rename_i ht
            simp only [if_neg ht] at h
            exact ⟨hp', h⟩
        · rename_i c hE
          simp only [hE] at h
          exact ⟨hp', h⟩
        · rename_i hne hne2
          split at h
          · rename_i v hv
            split at hv
            · rename_i t hE
              exact absurd hE (hne t)
            · rename_i c hE
              exact absurd hE (hne2 c)
            · cases hv
          · exact h
  · exact AX_mono _ (fun E' s' hE => ⟨fun hn => hE.1 (.inr hn), hE.2⟩) h

/-- A value, further down the list, has that value now. -/
theorem mval_later {F : Fz} {y : Oper} {m : Nat} (hm : m ≤ 1) {L2 : List (Oper × Nat)} {K : Env → AS → Prop} : ∀ (L1 : List (Oper × Nat)) {G : Gh} {E : Env} {s : AS} {a : Act} {w : World}, (∀ x ∈ L1, Apart ops x.1 y) → (needs (L1 ++ (y, m) :: L2) = true → Pres F s) → AXm P Γ N ops F (L1 ++ (y, m) :: L2) K E s → Rel Γ N G E s a w →
    (∀ d, y.dst = some d → d < N) ∧ ∃ v, pvalM P Γ ops F m y E = some v
  | [], G, E, s, a, w, _, hp, h, hr => by
    simp only [List.nil_append, AXm, if_pos hm] at h
    refine ⟨h.1, ?_⟩
    have h := h.2
    split at h
    · rename_i v hv; exact ⟨v, hv⟩
    · exact h.elim
  | (x, ex) :: L1, G, E, s, a, w, hap, hp, h, hr => by
    obtain ⟨G', E', s', a', w', hr', hK, hf⟩ := AX_one_some (AXm_AX hp h) hr
    obtain ⟨h1, v, h2⟩ := mval_later hm L1 (fun x hx => hap x (List.mem_cons_of_mem _ hx)) hK.1 hK.2 hr'
    refine ⟨h1, v, ?_⟩
    rw [← h2]
    refine (pvalM_congr fun d hd => hf d fun e => ?_).symm
    exact (Oper.apart_spec (hap (x, ex) (by simp))).1 d e hd

/-- That value may be put first. -/
theorem AXm_first_pure {F : Fz} {y : Oper} {m : Nat} (hm : m ≤ 1) {L2 : List (Oper × Nat)} {K : Env → AS → Prop} {v : AV} : ∀ (L1 : List (Oper × Nat)) {E : Env} {s : AS}, (∀ x ∈ L1, Apart ops x.1 y) → pvalM P Γ ops F m y E = some v → AXm P Γ N ops F (L1 ++ (y, m) :: L2) K E s →
    AXm P Γ N ops F (L1 ++ L2) K (updO E y.dst v) s
  | [], E, s, _, hv, h => by
    simp only [List.nil_append, AXm, if_pos hm, hv] at h
    exact h.2
  | (x, ex) :: L1, E, s, hap, hv, h => by
    obtain ⟨a1, a2, a3⟩ := Oper.apart_spec (hap (x, ex) (by simp))
    have hap' : ∀ x ∈ L1, Apart ops x.1 y := fun x hx => hap x (List.mem_cons_of_mem _ hx)
    have hv' : ∀ E' : Env, (∀ i, x.dst ≠ some i → E' i = E i) → pvalM P Γ ops F m y E' = some v := fun E' hE => by
      rw [pvalM_congr (E := E) fun d hd => hE d fun e => a1 d e hd, hv]
    simp only [List.cons_append, AXm] at h ⊢
    split at h
    · rename_i he
      rw [if_pos he]
      refine ⟨h.1, ?_⟩
      have h := h.2
      rw [pvalM_congr (E := E) fun d hd => updO_other fun e => a3 d e hd]
      split at h
      · rename_i u hu
        simp only [hu]
        rw [updO_comm (fun d h1 h2 => a2 d h2 h1)]
        exact AXm_first_pure hm L1 hap' (hv' _ fun i hi => updO_other hi) h
      · exact h.elim
    · rename_i he
      rw [if_neg he]
      refine (AX_put (fun d hd => a3 d hd) (fun d hd e => a2 d e hd)).2 ?_
      refine AX_mono _ (fun E' s' hE => ?_) (AX_one_frame h)
      refine ⟨fun hn => hE.1.1 (hn.imp id fun hn => ?_), AXm_first_pure hm L1 hap' (hv' E' hE.2) hE.1.2⟩
      rw [needs_append] at hn ⊢
      rw [needs_cons]
      simp only [Bool.or_eq_true] at hn ⊢
      rcases hn with hn | hn
      · exact .inl hn
      · exact .inr (.inr hn)

/-- A step behind values may be put first. -/
theorem AXm_first_eff {F : Fz} {y : Oper} {m : Nat} (hm : ¬ m ≤ 1) {L2 : List (Oper × Nat)} {K : Env → AS → Prop} : ∀ (L1 : List (Oper × Nat)) {E : Env} {s : AS}, (∀ x ∈ L1, Apart ops x.1 y ∧ x.2 ≤ 1 ∧ (m ≠ 2 → x.2 ≠ 1)) → AXm P Γ N ops F (L1 ++ (y, m) :: L2) K E s →
    AX P Γ N ops [y] (fun E' s' => ((m = 2 ∨ needs (L1 ++ L2) = true) → Pres F s') ∧ AXm P Γ N ops F (L1 ++ L2) K E' s') E s
  | [], E, s, _, h => by simpa only [List.nil_append, AXm, if_neg hm] using h
  | (x, ex) :: L1, E, s, hap, h => by
    obtain ⟨hap0, hex, hl⟩ := hap (x, ex) (by simp)
    simp only at hex hl
    obtain ⟨a1, a2, a3⟩ := Oper.apart_spec hap0
    have hap' : ∀ x ∈ L1, Apart ops x.1 y ∧ x.2 ≤ 1 ∧ (m ≠ 2 → x.2 ≠ 1) := fun x hx => hap x (List.mem_cons_of_mem _ hx)
    simp only [List.cons_append, AXm, if_pos hex] at h
    obtain ⟨h0, h⟩ := h
    split at h
    · rename_i v hv
      have h1 := AXm_first_eff hm L1 hap' h
      have h2 := (AX_put (fun d hd => a1 d hd) (fun d hd => a2 d hd)).1 h1
      refine AX_mono _ (fun E' s' hE => ⟨?_, ?_⟩) (AX_one_frame h2)
      · intro hn
        refine hE.1.1 ?_
        by_cases h2 : m = 2
        · exact .inl h2
        · refine .inr ?_
          rcases hn with hn | hn
          · exact absurd hn h2
          · rw [List.cons_append, needs_cons] at hn
            simpa [hl h2] using hn
      · simp only [List.cons_append, AXm, if_pos hex]
        refine ⟨h0, ?_⟩
        rw [pvalM_congr (E := E) fun d hd => hE.2 d fun e => a3 d e hd, hv]
        exact hE.1.2
    · exact h.elim

def markOf (fl ld lx : List Nat) (i : Nat) : Nat := if ld.contains i then 1 else if fl.contains i then 2 else if lx.contains i then 3 else 0
def pairsOkM (ops : Array Oper) (D : List Nat) (mk : Nat → Nat) : Bool :=
  (List.range ops.size).all fun j => (List.range j).all fun i =>
    match ops[i]?, ops[j]? with
    | some x, some y => (D.getD j 0).testBit i || (x.apart ops y && !(decide (2 ≤ mk i) && decide (2 ≤ mk j)) && !(mk i == 1 && mk j == 3))
    | _, _ => true
def drawOkM (ops : Array Oper) (mk : Nat → Nat) : Bool := depEq ops (Region.before ops).toList && pairsOkM ops (Region.before ops).toList mk
def opAtM (ops : Array Oper) (mk : Nat → Nat) (i : Nat) : Oper × Nat := ((ops[i]?).getD default, mk i)

theorem wpAny_of_AXm {F : Fz} {mk : Nat → Nat} (hmk : ∀ i, mk i ≤ 3) {Q : Exit → Act → World → Prop} {K : Env → AS → Prop} (hok : drawOkM ops mk = true) :
    ∀ (fuel : Nat) (listed : Array Bool) {G : Gh} {E : Env} {s : AS} {a : Act} {w : World}, listed.size = ops.size → (left ops listed).length ≤ fuel →
      (∀ (i : Nat) (o : Oper), ops[i]? = some o → listed.getD i true = true → ∀ e ∈ o.after.toList, Region.binds .any e = true → listed.getD e.on false = true) →
      (needs ((left ops listed).map (opAtM ops mk)) = true → Pres F s) → AXm P Γ N ops F ((left ops listed).map (opAtM ops mk)) K E s → Rel Γ N G E s a w →
      (∀ G' E' s' a' w', G.le G' → Rel Γ N G' E' s' a' w' → K E' s' → Q .normal a' w') → wpAny P .any ops Q fuel listed a w := by
  simp only [drawOkM, Bool.and_eq_true] at hok
  obtain ⟨hdep, hpairs⟩ := hok
  intro fuel
  have hnil : ∀ (listed : Array Bool), Region.ready .any ops listed = [] → left ops listed = [] := by
    intro listed h
    -- the first that is left could go
    cases hl : left ops listed with
    | nil => rfl
    | cons i L =>
      exfalso
      have hi : i ∈ left ops listed := by rw [hl]; simp
      obtain ⟨h1, h2⟩ := mem_left.1 hi
      have hmin : ∀ j, j < i → listed.getD j true = true := by
        intro j hj
        cases hjl : listed.getD j true with
        | true => rfl
        | false =>
          exfalso
          have hjm : j ∈ left ops listed := mem_left.2 ⟨by omega, hjl⟩
          have hs : (left ops listed).Pairwise (· < ·) := by
            unfold left
            exact List.Pairwise.filter _ List.pairwise_lt_range
          rw [hl] at hs hjm
          rcases List.mem_cons.1 hjm with rfl | hjm
          · omega
          · have := (List.pairwise_cons.1 hs).1 j hjm
            omega
      have ho : ops[i]? = some ops[i] := by simp [h1]
      have hr : i ∈ Region.ready .any ops listed := by
        rw [mem_ready]
        refine ⟨h2, _, ho, fun e he hb => ?_⟩
        have hlt := (depEq_spec hdep ho).2 e (by simpa using he) hb
        have := hmin _ hlt
        -- both defaults agree where the place is there
        have hsz : e.on < listed.size := by
          rcases Nat.lt_or_ge e.on listed.size with h' | h'
          · exact h'
          · exfalso
            have : listed.getD i true = true := by
              simp [Array.getElem?_eq_none (show listed.size ≤ i by omega)]
            rw [h2] at this; cases this
        simpa [hsz] using this
      rw [h] at hr
      cases hr
  induction fuel with
  | zero =>
    intro listed G E s a w hsz hlen hcl hP h hr hq
    have hl : left ops listed = [] := List.eq_nil_of_length_eq_zero (by omega)
    have hready : Region.ready .any ops listed = [] := by
      cases hrd : Region.ready .any ops listed with
      | nil => rfl
      | cons i L =>
        exfalso
        have : i ∈ Region.ready .any ops listed := by rw [hrd]; simp
        rw [mem_ready] at this
        obtain ⟨h0, o, ho, _⟩ := this
        have : i ∈ left ops listed := mem_left.2 ⟨(Array.getElem?_eq_some_iff.1 ho).1, h0⟩
        rw [hl] at this
        cases this
    rw [hl] at h
    exact ⟨hready, hq G E s a w (.refl G) hr h⟩
  | succ fuel ih =>
    intro listed G E s a w hsz hlen hcl hP h hr hq
    refine ⟨fun hready => ?_, fun i hi => ?_⟩
    · rw [hnil listed hready] at h
      exact hq G E s a w (.refl G) hr h
    · obtain ⟨h0, o, ho, hall⟩ := mem_ready.1 hi
      have hilt : i < ops.size := (Array.getElem?_eq_some_iff.1 ho).1
      obtain ⟨L1, L2, q1, q2, q3⟩ := left_set hsz hilt h0
      -- what comes before i is done
      have hbefore : ∀ (j : Nat) (oj : Oper), ops[j]? = some oj → (∀ e ∈ oj.after.toList, Region.binds .any e = true → listed.getD e.on false = true) → ∀ l, ((Region.before ops).toList.getD j 0).testBit l = true → listed.getD l false = true := by
        intro j
        induction j using Nat.strongRecOn with
        | _ j ihj =>
          intro oj hoj hj l hl
          obtain ⟨d1, d2⟩ := depEq_spec hdep hoj
          obtain ⟨e, he, hb, h1⟩ := d1 l hl
          have hel := hj e he hb
          rcases h1 with rfl | h1
          · exact hel
          · have hlt := d2 e he hb
            have hon : e.on < ops.size := by
              have := (Array.getElem?_eq_some_iff.1 hoj).1
              omega
            have heon : ops[e.on]? = some ops[e.on] := by simp [hon]
            refine ihj e.on hlt _ heon (hcl e.on _ heon ?_) l h1
            have : e.on < listed.size := by omega
            simpa [this] using hel
      have hpair : ∀ x ∈ L1, Apart ops ((ops[x]?).getD default) o ∧ ¬ (2 ≤ mk x ∧ 2 ≤ mk i) ∧ ¬ (mk x = 1 ∧ mk i = 3) := by
        intro x hx
        obtain ⟨hxi, hxl⟩ := q3 x hx
        unfold pairsOkM at hpairs
        rw [List.all_eq_true] at hpairs
        have h1 := hpairs i (by simpa using hilt)
        rw [List.all_eq_true] at h1
        have h2 := h1 x (by simpa using hxi)
        have hox : ops[x]? = some (ops[x]'(by omega)) := by simp
        rw [hox, ho] at h2
        simp only [Bool.or_eq_true, Bool.and_eq_true, Bool.not_eq_true'] at h2
        rcases h2 with h2 | ⟨⟨h2, h3⟩, h4⟩
        · exfalso
          have := hbefore i o ho (fun e he hb => hall e (by simpa using he) hb) x h2
          have hxs : x < listed.size := by omega
          simp [hxs] at this hxl
          rw [hxl] at this; cases this
        · refine ⟨by rw [hox]; exact h2, fun hc => ?_, fun hc => ?_⟩
          · simp [hc.1, hc.2] at h3
          · simp [hc.1, hc.2] at h4
      have hset : ∀ {G' : Gh} {E' : Env} {s' : AS} {a' : Act} {w' : World}, G.le G' → (needs ((L1 ++ L2).map (opAtM ops mk)) = true → Pres F s') → AXm P Γ N ops F ((L1 ++ L2).map (opAtM ops mk)) K E' s' → Rel Γ N G' E' s' a' w' → wpAny P .any ops Q fuel (listed.setIfInBounds i true) a' w' := by
        intro G' E' s' a' w' hle hP' hA hr'
        refine ih (listed.setIfInBounds i true) (by simpa using hsz) ?_ ?_ (by rw [q2]; exact hP') ?_ hr' (fun G'' E'' s'' a'' w'' k1 k2 k3 => hq G'' E'' s'' a'' w'' (hle.trans k1) k2 k3)
        · rw [q2]
          rw [q1] at hlen
          simp at hlen ⊢
          omega
        · intro j oj hoj hj e he hb
          by_cases hji : j = i
          · subst hji
            rw [ho] at hoj; cases hoj
            exact getD_set_true (hall e (by simpa using he) hb)
          · rw [getD_set_ne true (Ne.symm hji)] at hj
            exact getD_set_true (hcl j oj hoj hj e he hb)
        · rw [q2]; exact hA
      rw [q1] at h hP
      simp only [List.map_append, List.map_cons] at h hset hP
      have hop : opAtM ops mk i = (o, mk i) := by simp [opAtM, ho]
      rw [hop] at h hP
      by_cases hf : mk i ≤ 1
      · have hap : ∀ x ∈ L1.map (opAtM ops mk), Apart ops x.1 o := by
          intro x hx
          obtain ⟨j, hj, rfl⟩ := List.mem_map.1 hx
          exact (hpair j hj).1
        obtain ⟨hd, v, hv⟩ := mval_later hf _ hap hP h hr
        have h1 := AXm_first_pure hf _ hap hv h
        have hX : AXm P Γ N ops F ((o, mk i) :: (L1.map (opAtM ops mk) ++ L2.map (opAtM ops mk))) K E s := by
          simp only [AXm, if_pos hf, hv]
          exact ⟨hd, h1⟩
        have h2 := AXm_AX (fun hn => hP (by
          rw [needs_cons, needs_append] at hn
          rw [needs_append, needs_cons]
          simp only [Bool.or_eq_true] at hn ⊢
          rcases hn with hn | hn | hn
          · exact .inr (.inl hn)
          · exact .inl hn
          · exact .inr (.inr hn))) hX
        exact AX_step (L := []) (K := fun E s => (needs (L1.map (opAtM ops mk) ++ L2.map (opAtM ops mk)) = true → Pres F s) ∧ AXm P Γ N ops F (L1.map (opAtM ops mk) ++ L2.map (opAtM ops mk)) K E s) ho h2 hr (fun G' E' s' a' w' k1 k2 k3 => hset k1 k3.1 k3.2 k2)
      · have hap : ∀ x ∈ L1.map (opAtM ops mk), Apart ops x.1 o ∧ x.2 ≤ 1 ∧ (mk i ≠ 2 → x.2 ≠ 1) := by
          intro x hx
          obtain ⟨j, hj, rfl⟩ := List.mem_map.1 hx
          obtain ⟨p1, p2, p3⟩ := hpair j hj
          have hi3 := hmk i
          refine ⟨p1, ?_, fun h2 h3 => ?_⟩
          · show mk j ≤ 1
            omega
          · have h3 : mk j = 1 := h3
            omega
        have h2 := AXm_first_eff hf _ hap h
        exact AX_step (L := []) (K := fun E s => ((mk i = 2 ∨ needs (L1.map (opAtM ops mk) ++ L2.map (opAtM ops mk)) = true) → Pres F s) ∧ AXm P Γ N ops F (L1.map (opAtM ops mk) ++ L2.map (opAtM ops mk)) K E s) ho h2 hr (fun G' E' s' a' w' k1 k2 k3 => hset k1 (fun hn => k3.1 (.inr hn)) k3.2 k2)


theorem AXm_frame {F : Fz} : ∀ (L : List (Oper × Nat)) {K : Env → AS → Prop} {E : Env} {s : AS}, AXm P Γ N ops F L K E s → AXm P Γ N ops F L (fun E' s' => K E' s' ∧ ∀ i, i ∉ dsts (L.map (·.1)) → E' i = E i) E s
  | [], K, E, s, h => ⟨h, fun _ _ => rfl⟩
  | (o, m) :: L, K, E, s, h => by
    have hmem : ∀ i, i ∉ dsts (((o, m) :: L).map (·.1)) → i ∉ dsts (L.map (·.1)) ∧ o.dst ≠ some i := by
      intro i hi
      simp only [dsts, List.map_cons, List.filterMap_cons] at hi
      refine ⟨fun hm => hi ?_, fun e => hi (by simp [e])⟩
      simp only [dsts] at hm
      split
      · exact hm
      · exact List.mem_cons_of_mem _ hm
    simp only [AXm] at h ⊢
    split at h
    · rename_i he
      rw [if_pos he]
      refine ⟨h.1, ?_⟩
      have h := h.2
      split at h
      · refine AXm_mono L (fun E'' s'' hE' => ⟨hE'.1, fun i hi => ?_⟩) (AXm_frame L h)
        obtain ⟨m1, m2⟩ := hmem i hi
        rw [hE'.2 i m1, updO_other m2]
      · exact h
    · rename_i he
      rw [if_neg he]
      refine AX_mono _ (fun E' s' hE => ⟨hE.1.1, ?_⟩) (AX_one_frame h)
      refine AXm_mono L (fun E'' s'' hE' => ⟨hE'.1, fun i hi => ?_⟩) (AXm_frame L hE.1.2)
      obtain ⟨m1, m2⟩ := hmem i hi
      rw [hE'.2 i m1, hE.2 i m2]

theorem awp_region_mark {E : Env} {Q : Exit → Env → AS → Prop} (hm : P.follows .mixedOrders = true) (F : Fz) (mk : Nat → Nat) (hmk : ∀ i, mk i ≤ 3) {id : Nat} (hok : drawOkM ops mk = true) (hP : Pres F s)
    (h : AXm P Γ N ops F ((List.range ops.size).map (opAtM ops mk)) (fun E' s' => Q .normal E' s') E s) : AWp P Γ N (.region id ops true) Q E s := by
  intro G a w hr
  refine wp_region_any hm ?_
  have hleft : left ops (Array.replicate ops.size false) = List.range ops.size := by
    unfold left
    rw [List.filter_eq_self]
    intro i hi
    have : i < ops.size := by simpa using hi
    simp [this]
  have hr' : Rel Γ N G E s a w.drew := ⟨hr.st.drew, hr.size, hr.tmps, hr.defers⟩
  refine wpAny_of_AXm hmk hok ops.size (Array.replicate ops.size false) (by simp) (by rw [hleft]; simp) ?_ (fun _ => hP) (by rw [hleft]; exact AXm_frame _ h) hr' ?_
  · intro i o ho hl
    have : i < ops.size := (Array.getElem?_eq_some_iff.1 ho).1
    simp [this] at hl
  · intro G' E' s' a' w' h1 h2 h3
    refine ⟨G', E', s', h1, h2, h3.1, fun i hi => h3.2 i fun hm => hi ?_⟩
    have : ((List.range ops.size).map (opAtM ops mk)).map (·.1) = ops.toList := by
      apply List.ext_getElem?
      intro j
      simp only [List.getElem?_map]
      by_cases hj : j < ops.size
      · simp [hj, opAtM]
      · simp [hj]
    have hm' : i ∈ dsts (((List.range ops.size).map (opAtM ops mk)).map (·.1)) := hm
    rw [this] at hm'
    exact hm'

end
end Go.AM
