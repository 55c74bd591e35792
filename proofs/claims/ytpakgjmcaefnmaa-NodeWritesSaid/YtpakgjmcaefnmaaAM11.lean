/- An abstract machine for the model: abstract values, their relation to worlds, and the rules of its walk, each proved sound over the model; no condition. -/
import Derived.Test.YtpakgjmcaefnmaaAM10
set_option linter.unusedSimpArgs false
set_option linter.unusedVariables false
set_option autoImplicit false
namespace Go.AM
open Go Go.RowKit

variable {P : Program} {Γ : Nat → List AV} {G : Gh} {s : AS} {w : World}

theorem aappend_mono {e : TypeId} {x : AV} {m : Nat} {ds : List AV} {K K' : AV → AS → Prop} (hk : ∀ r s', K r s' → K' r s') (h : aappend P e x m ds s K) : aappend P e x m ds s K' := by
  unfold aappend at *
  split at h
  · split at h
    · rename_i hm; rw [if_pos hm]; exact hk _ _ h
    · rename_i hm; rw [if_neg hm]; exact ⟨h.1, h.2.1, fun t ht => hk _ _ (h.2.2 t ht)⟩
  · split at h
    · rename_i hm; simp only [if_pos hm]; exact hk _ _ h
    · rename_i hm
      simp only [if_neg hm]
      obtain ⟨h1, h2, h3, h4, h5⟩ := h
      refine ⟨h1, h2, h3, h4, ?_⟩
      split at h5
      · exact fun t ht => hk _ _ (h5 t ht)
      · exact fun t ht => hk _ _ (h5 t ht)
      · exact ⟨h5.1, hk _ _ h5.2⟩
      · exact h5.elim
      · exact h5.elim
  · exact h

theorem aeff_mono {ρ : Operand → AV} {K K' : AV → AS → Prop} (hk : ∀ r s', K r s' → K' r s') : ∀ {op : Op}, aeff P Γ ρ s K op → aeff P Γ ρ s K' op := by
  intro op h
  cases op <;> try (simp only [aeff] at h; done)
  case load T x =>
    simp only [aeff] at h ⊢
    split at h
    · split at h
      · refine ⟨h.1, ?_⟩
        have h2 := h.2
        split at h2
        · exact hk _ _ h2
        · exact h2
      · exact h
    · exact h
  case store T x y =>
    simp only [aeff] at h ⊢
    split at h
    · split at h
      · exact ⟨h.1, h.2.1, h.2.2.1, h.2.2.2.1, hk _ _ h.2.2.2.2⟩
      · exact h
    · exact h
  case alloc T =>
    simp only [aeff] at h ⊢
    split at h
    · exact fun o ho => hk _ _ (h o ho)
    · exact h
  case box T x =>
    simp only [aeff] at h ⊢
    exact fun o ho => hk _ _ (h o ho)
  case makeSlice T x y =>
    simp only [aeff] at h ⊢
    split at h
    · split at h
      · obtain ⟨h1, h2, h3, h4, h5, h6, h7⟩ := h
        exact ⟨h1, h2, h3, h4, h5, h6, fun o ho => hk _ _ (h7 o ho)⟩
      · exact h
    · exact h
  case call c =>
    obtain ⟨callee, args, argTypes⟩ := c
    cases callee with
    | value f =>
      simp only [aeff] at h ⊢
      split at h
      · exact ⟨h.1, h.2.1, h.2.2.1, h.2.2.2.mono hk⟩
      · exact ⟨h.1, h.2.mono hk⟩
      · exact h
    | invoke r m => simp only [aeff] at h
    | builtin b =>
      cases b <;> try (simp only [aeff] at h; done)
      case append =>
        simp only [aeff] at h ⊢
        split at h
        · split at h
          · split at h
            · exact ⟨h.1, h.2.1, h.2.2.1, aappend_mono hk h.2.2.2⟩
            · exact h
          · exact h
        · exact h
      case copy =>
        simp only [aeff] at h ⊢
        split at h
        · split at h
          · split at h
            · split at h
              · exact ⟨h.1, h.2.1, h.2.2.1, hk _ _ h.2.2.2⟩
              · exact h
            · exact h
          · exact h
        · exact h

theorem astep_mono {ρ : Operand → AV} {K K' : AV → AS → Prop} (hk : ∀ r s', K r s' → K' r s') {op : Op} (h : astep P Γ ρ s K op) : astep P Γ ρ s K' op := by
  unfold astep at *
  split at h
  · exact hk _ _ h
  · exact aeff_mono hk h

/-- The slot whose test guards an operation. -/
def gdst (ops : Array Oper) (j : Nat) : Option Tmp := (ops[j]?).bind (·.dst)

/-- A region's operations, one after the other. -/
def AX (P : Program) (Γ : Nat → List AV) (N : Nat) (ops : Array Oper) : List Oper → (Env → AS → Prop) → Env → AS → Prop
  | [], K, E, s => K E s
  | o :: rest, K, E, s =>
    (∀ d, o.dst = some d → d < N) ∧
    match o.guard with
    | none => astep P Γ (aeval Γ E) s (fun r s' => AX P Γ N ops rest K (updO E o.dst r) s') o.op
    | some (j, want) =>
      match gdst ops j with
      | none => False
      | some d =>
        match E d with
        | .v (.bool t) =>
          if t = want then astep P Γ (aeval Γ E) s (fun r s' => AX P Γ N ops rest K (updO E o.dst r) s') o.op
          else AX P Γ N ops rest K (updO E o.dst (.v undef)) s
        | .v (.tuple _) => AX P Γ N ops rest K (updO E o.dst (.v undef)) s
        | _ => False

theorem AX_mono {N : Nat} {ops : Array Oper} : ∀ (L : List Oper) {K K' : Env → AS → Prop} {E : Env} {s : AS}, (∀ E s, K E s → K' E s) → AX P Γ N ops L K E s → AX P Γ N ops L K' E s
  | [], K, K', E, s, hk, h => hk _ _ h
  | o :: L, K, K', E, s, hk, h => by
    simp only [AX] at h ⊢
    refine ⟨h.1, ?_⟩
    have h := h.2
    split at h
    · exact astep_mono (fun r s' h => AX_mono L hk h) h
    · split at h
      · exact h
      · split at h
        · split at h
          · rename_i ht; rw [if_pos ht]; exact astep_mono (fun r s' h => AX_mono L hk h) h
          · rename_i ht; rw [if_neg ht]; exact AX_mono L hk h
        · exact AX_mono L hk h
        · exact h

def dsts (L : List Oper) : List Nat := L.filterMap (·.dst)

theorem updO_other {E : Env} {dst : Option Tmp} {r : AV} {i : Nat} (h : dst ≠ some i) : updO E dst r i = E i := by
  cases dst with
  | none => rfl
  | some d =>
    have : i ≠ d := fun e => h (by rw [e])
    simp [updO, upd, this]

/-- What a region does not write stays. -/
theorem AX_frame {N : Nat} {ops : Array Oper} : ∀ (L : List Oper) {K : Env → AS → Prop} {E : Env} {s : AS}, AX P Γ N ops L K E s → AX P Γ N ops L (fun E' s' => K E' s' ∧ ∀ i, i ∉ dsts L → E' i = E i) E s
  | [], K, E, s, h => ⟨h, fun _ _ => rfl⟩
  | o :: L, K, E, s, h => by
    simp only [AX] at h ⊢
    refine ⟨h.1, ?_⟩
    have h := h.2
    have step : ∀ (r : AV) (s' : AS), AX P Γ N ops L K (updO E o.dst r) s' → AX P Γ N ops L (fun E' s' => K E' s' ∧ ∀ i, i ∉ dsts (o :: L) → E' i = E i) (updO E o.dst r) s' := by
      intro r s' h
      refine AX_mono L (fun E' s' hE => ⟨hE.1, fun i hi => ?_⟩) (AX_frame L h)
      have h1 : i ∉ dsts L := fun hm => hi (by
        simp only [dsts, List.filterMap_cons] at hm ⊢
        split
        · exact hm
        · exact List.mem_cons_of_mem _ hm)
      have h2 : o.dst ≠ some i := fun e => hi (by simp [dsts, List.filterMap_cons, e])
      rw [hE.2 i h1, updO_other h2]
    split at h
    · exact astep_mono step h
    · split at h
      · exact h
      · split at h
        · split at h
          · rename_i ht; rw [if_pos ht]; exact astep_mono step h
          · rename_i ht; rw [if_neg ht]; exact step _ _ h
        · exact step _ _ h
        · exact h

/-- One operation that is wanted, in the model. -/
theorem Oper.wp_of_res {N : Nat} {E : Env} {a : Act} {o : Oper} {K : AV → AS → Prop} {next : Act → World → Prop} {Q : Exit → Act → World → Prop} (hr : Rel Γ N G E s a w) (hd : ∀ d, o.dst = some d → d < N)
    (h : OpRes P Γ G K ((execOp a.eval o).run P w)) (hn : ∀ G' r s' a' w', G.le G' → Rel Γ N G' (updO E o.dst r) s' a' w' → K r s' → next a' w') : o.wp P a w next Q := by
  unfold Oper.wp
  generalize (execOp a.eval o).run P w = R at h
  cases R with
  | ok n w' =>
    cases n <;> simp only [OpRes] at h
    case value v =>
      obtain ⟨G', r, s', h1, h2, h3, h4⟩ := h
      simp only [Oper.upon]
      exact hn G' r s' _ _ h1 (hr.put h1 h2 h3 hd) h4
    case skip =>
      obtain ⟨G', s', h1, h2, h3⟩ := h
      simp only [Oper.upon]
      exact hn G' (.v undef) s' _ _ h1 (hr.put h1 h2 (by simp [VRel]) hd) h3
    case enter f args =>
      simp only [Oper.upon]
      refine Calls.mono h ?_
      rintro e w'' ⟨G', r, v, s', rfl, h1, h2, h3, h4⟩
      exact hn G' r s' _ _ h1 (hr.put h1 h2 h3 hd) h4
  | halt x w' => simp only [OpRes] at h

theorem wanted_none {o : Oper} {y : Nat → Option Bool} (h : o.guard = none) : Region.wanted o y = true := by simp [Region.wanted, h]

theorem yielded_of {N : Nat} {E : Env} {a : Act} {ops : Array Oper} {j d : Nat} {t : Bool} (hr : Rel Γ N G E s a w) (hj : gdst ops j = some d) (hE : E d = .v (.bool t)) : yielded ops a.tmps j = some t := by
  have := hr.tmps d
  rw [hE] at this
  simp only [VRel] at this
  unfold gdst at hj
  simp only [yielded, hj, Option.bind_some]
  rw [Array.getD_eq_getD_getElem?] at this
  cases hh : a.tmps[d]? with
  | none => rw [hh] at this; simp [undef] at this
  | some v => rw [hh] at this; simp at this; rw [this]

theorem yielded_none {N : Nat} {E : Env} {a : Act} {ops : Array Oper} {j d : Nat} {c : Array Value} (hr : Rel Γ N G E s a w) (hj : gdst ops j = some d) (hE : E d = .v (.tuple c)) : yielded ops a.tmps j = none := by
  have := hr.tmps d
  rw [hE] at this
  simp only [VRel] at this
  unfold gdst at hj
  simp only [yielded, hj, Option.bind_some]
  rw [Array.getD_eq_getD_getElem?] at this
  cases hh : a.tmps[d]? with
  | none => rfl
  | some v => rw [hh] at this; simp at this; rw [this]

/-- One operation, wanted or not. -/
theorem AX_step {N : Nat} {E : Env} {a : Act} {ops : Array Oper} {i : Nat} {o : Oper} {L : List Oper} {K : Env → AS → Prop} {Q : Exit → Act → World → Prop} {next : Act → World → Prop} (ho : ops[i]? = some o)
    (h : AX P Γ N ops (o :: L) K E s) (hr : Rel Γ N G E s a w) (hn : ∀ G' E' s' a' w', G.le G' → Rel Γ N G' E' s' a' w' → AX P Γ N ops L K E' s' → next a' w') : wpOp P ops Q i next a w := by
  simp only [AX] at h
  obtain ⟨hd, h⟩ := h
  simp only [wpOp, ho]
  split at h
  · rename_i hg
    rw [if_pos (wanted_none hg)]
    exact .inl (Oper.wp_of_res hr hd (astep_sound o h hr.eval hr.st) fun G' r s' a' w' h1 h2 h3 => hn G' _ s' a' w' h1 h2 h3)
  · rename_i j want hg
    split at h
    · exact h.elim
    · rename_i d hj
      split at h
      · rename_i t hE
        have hy := yielded_of hr hj hE
        have hw : Region.wanted o (yielded ops a.tmps) = (t == want) := by simp [Region.wanted, hg, hy]
        split at h
        · rename_i ht
          rw [if_pos (by rw [hw]; simpa using ht)]
          exact .inl (Oper.wp_of_res hr hd (astep_sound o h hr.eval hr.st) fun G' r s' a' w' h1 h2 h3 => hn G' _ s' a' w' h1 h2 h3)
        · rename_i ht
          rw [if_neg (by rw [hw]; simpa using ht)]
          exact hn G _ s _ _ (.refl G) (hr.put (.refl G) hr.st (by simp [VRel]) hd) h
      · rename_i c hE
        have hy := yielded_none hr hj hE
        have hw : Region.wanted o (yielded ops a.tmps) = false := by simp [Region.wanted, hg, hy]
        rw [if_neg (by rw [hw]; simp)]
        exact hn G _ s _ _ (.refl G) (hr.put (.refl G) hr.st (by simp [VRel]) hd) h
      · exact h.elim

theorem AX_wpOps {N : Nat} {ops : Array Oper} {Q : Exit → Act → World → Prop} {K : Env → AS → Prop} : ∀ (L : List Oper) (I : List Nat) {G : Gh} {E : Env} {s : AS} {a : Act} {w : World}, I.map (ops[·]?) = L.map some → AX P Γ N ops L K E s → Rel Γ N G E s a w →
    (∀ G' E' s' a' w', G.le G' → Rel Γ N G' E' s' a' w' → K E' s' → Q .normal a' w') → wpOps P ops Q I a w
  | [], I, G, E, s, a, w, hI, h, hr, hq => by
    have : I = [] := by simpa using hI
    subst this
    exact hq G E s a w (.refl G) hr h
  | o :: L, I, G, E, s, a, w, hI, h, hr, hq => by
    cases I with
    | nil => simp at hI
    | cons i I =>
      simp only [List.map_cons, List.cons.injEq] at hI
      rw [wpOps_cons]
      exact AX_step hI.1 h hr fun G' E' s' a' w' h1 h2 h3 => AX_wpOps L I hI.2 h3 h2 fun G'' E'' s'' a'' w'' k1 k2 k3 => hq G'' E'' s'' a'' w'' (h1.trans k1) k2 k3

def writes : Code → List Nat
  | .region _ ops _ => dsts ops.toList
  | .seq a b => writes a ++ writes b
  | .cond _ a b => writes a ++ writes b
  | .block _ a => writes a
  | .loop a => writes a
  | .scope a => writes a
  | .rangeFunc _ ps a b => ps.toList ++ writes a ++ writes b
  | _ => []

/-- Code, from slots and memory that read as E and s. -/
def AWp (P : Program) (Γ : Nat → List AV) (N : Nat) (c : Code) (Q : Exit → Env → AS → Prop) (E : Env) (s : AS) : Prop :=
  ∀ (G : Gh) (a : Act) (w : World), Rel Γ N G E s a w →
    c.wp P (fun e a' w' => ∃ G' E' s', G.le G' ∧ Rel Γ N G' E' s' a' w' ∧ Q e E' s' ∧ ∀ i, i ∉ writes c → E' i = E i) a w

section rules
variable {N : Nat} {E : Env} {Q : Exit → Env → AS → Prop}

theorem AWp.mono {c : Code} {Q' : Exit → Env → AS → Prop} (h : AWp P Γ N c Q E s) (k : ∀ e E' s', (∀ i, i ∉ writes c → E' i = E i) → Q e E' s' → Q' e E' s') : AWp P Γ N c Q' E s :=
  fun G a w hr => wp_mono (h G a w hr) fun e a' w' ⟨G', E', s', h1, h2, h3, h4⟩ => ⟨G', E', s', h1, h2, k e E' s' h4 h3, h4⟩

theorem awp_skip (h : Q .normal E s) : AWp P Γ N .skip Q E s := fun G a w hr => wp_skip ⟨G, E, s, .refl G, hr, h, fun _ _ => rfl⟩
theorem awp_exit {id : Nat} (h : Q (.exit id) E s) : AWp P Γ N (.exit id) Q E s := fun G a w hr => wp_exit ⟨G, E, s, .refl G, hr, h, fun _ _ => rfl⟩
theorem awp_ret (h : Q .ret E s) : AWp P Γ N .ret Q E s := fun G a w hr => wp_ret ⟨G, E, s, .refl G, hr, h, fun _ _ => rfl⟩

/-- What follows in sequence. -/
def thenQ (next : Env → AS → Prop) (Q : Exit → Env → AS → Prop) : Exit → Env → AS → Prop
  | .normal, E, s => next E s
  | e, E, s => Q e E s

theorem awp_seq {x y : Code} (h : AWp P Γ N x (thenQ (AWp P Γ N y Q) Q) E s) : AWp P Γ N (.seq x y) Q E s := by
  intro G a w hr
  refine wp_seq (wp_mono (h G a w hr) ?_)
  rintro e a' w' ⟨G', E', s', h1, h2, h3, h4⟩
  have hw : ∀ i, i ∉ writes (.seq x y) → E' i = E i := fun i hi => h4 i (fun hm => hi (by simp [writes, hm]))
  cases e <;> simp only [Exit.then, thenQ] at h3 ⊢
  case normal =>
    refine wp_mono (h3 G' a' w' h2) ?_
    rintro e a'' w'' ⟨G'', E'', s'', k1, k2, k3, k4⟩
    exact ⟨G'', E'', s'', h1.trans k1, k2, k3, fun i hi => by rw [k4 i (fun hm => hi (by simp [writes, hm])), hw i hi]⟩
  all_goals exact ⟨G', E', s', h1, h2, h3, hw⟩

theorem awp_cond {c : Operand} {x y : Code} {t : Bool} (hc : aeval Γ E c = .v (.bool t)) (h : AWp P Γ N (if t = true then x else y) Q E s) : AWp P Γ N (.cond c x y) Q E s := by
  intro G a w hr
  have := hr.eval c
  rw [hc] at this
  simp only [VRel] at this
  refine wp_cond this ?_
  cases t
  · refine wp_mono (h G a w hr) ?_
    rintro e a' w' ⟨G', E', s', h1, h2, h3, h4⟩
    exact ⟨G', E', s', h1, h2, h3, fun i hi => h4 i (fun hm => hi (by simp at hm; simp [writes, hm]))⟩
  · refine wp_mono (h G a w hr) ?_
    rintro e a' w' ⟨G', E', s', h1, h2, h3, h4⟩
    exact ⟨G', E', s', h1, h2, h3, fun i hi => h4 i (fun hm => hi (by simp at hm; simp [writes, hm]))⟩

theorem awp_cond_true {c : Operand} {x y : Code} (hc : aeval Γ E c = .v (.bool true)) (h : AWp P Γ N x Q E s) : AWp P Γ N (.cond c x y) Q E s := awp_cond hc h
theorem awp_cond_false {c : Operand} {x y : Code} (hc : aeval Γ E c = .v (.bool false)) (h : AWp P Γ N y Q E s) : AWp P Γ N (.cond c x y) Q E s := awp_cond hc h
theorem awp_cond_split {c : Operand} {x y : Code} {t : Bool} (hc : aeval Γ E c = .v (.bool t)) (h1 : t = true → AWp P Γ N x Q E s) (h2 : t = false → AWp P Γ N y Q E s) : AWp P Γ N (.cond c x y) Q E s := by
  cases t
  · exact awp_cond hc (h2 rfl)
  · exact awp_cond hc (h1 rfl)

/-- A block's own exit ends it. -/
def blockQ (id : Nat) (Q : Exit → Env → AS → Prop) : Exit → Env → AS → Prop
  | .exit id', E, s => if id' = id then Q .normal E s else Q (.exit id') E s
  | e, E, s => Q e E s

theorem awp_block {id : Nat} {c : Code} (h : AWp P Γ N c (blockQ id Q) E s) : AWp P Γ N (.block id c) Q E s := by
  intro G a w hr
  refine wp_block (wp_mono (h G a w hr) ?_)
  rintro e a' w' ⟨G', E', s', h1, h2, h3, h4⟩
  cases e <;> simp only [Exit.inBlock, blockQ] at h3 ⊢
  case exit id' =>
    split at h3
    · rename_i hid; rw [if_pos hid]; exact ⟨G', E', s', h1, h2, h3, h4⟩
    · rename_i hid; rw [if_neg hid]; exact ⟨G', E', s', h1, h2, h3, h4⟩
  all_goals exact ⟨G', E', s', h1, h2, h3, h4⟩

theorem awp_region {id : Nat} {ops : Array Oper} (h : AX P Γ N ops ops.toList (fun E' s' => Q .normal E' s') E s) : AWp P Γ N (.region id ops false) Q E s := by
  intro G a w hr
  refine wp_region (AX_wpOps ops.toList _ ?_ (AX_frame _ h) hr ?_)
  · apply List.ext_getElem?
    intro i
    simp only [List.getElem?_map]
    by_cases hi : i < ops.size
    · simp [hi]
    · simp [hi]
  · intro G' E' s' a' w' h1 h2 h3
    exact ⟨G', E', s', h1, h2, h3.1, h3.2⟩

theorem exists_least (p : Nat → Prop) (h : ∃ n, p n) : ∃ n, p n ∧ ∀ m, p m → n ≤ m := by
  obtain ⟨n, hn⟩ := h
  induction n using Nat.strongRecOn with
  | _ n ih =>
    by_cases hm : ∃ m, m < n ∧ p m
    · obtain ⟨m, h1, h2⟩ := hm
      exact ih m h1 h2
    · exact ⟨n, hn, fun m h => Nat.le_of_not_lt fun hlt => hm ⟨m, hlt, h⟩⟩

/-- A loop: what holds at every round's head, and a number that every round lowers. -/
theorem awp_loop {c : Code} (I : Env → AS → Prop) (μ : Env → AS → Nat) (h0 : I E s)
    (round : ∀ E' s', I E' s' → (∀ i, i ∉ writes c → E' i = E i) → AWp P Γ N c (thenQ (fun E'' s'' => I E'' s'' ∧ μ E'' s'' < μ E' s') Q) E' s') : AWp P Γ N (.loop c) Q E s := by
  intro G a w hr
  let Φ : Act → World → Gh → Env → AS → Prop := fun a w G' E' s' => G.le G' ∧ Rel Γ N G' E' s' a w ∧ I E' s' ∧ ∀ i, i ∉ writes c → E' i = E i
  let C : Act → World → Nat → Prop := fun a w n => ∃ G' E' s', Φ a w G' E' s' ∧ μ E' s' = n
  open Classical in
  let ν : Act → World → Nat := fun a w => if h : ∃ n, C a w n then Classical.choose (exists_least _ h) else 0
  refine wp_loop (fun a w => ∃ n, C a w n) ν ⟨_, G, E, s, ⟨.refl G, hr, h0, fun _ _ => rfl⟩, rfl⟩ ?_
  intro a1 w1 hI
  have hν : ν a1 w1 = Classical.choose (exists_least _ hI) := by simp only [ν]; rw [dif_pos hI]
  obtain ⟨G1, E1, s1, ⟨g1, g2, g3, g4⟩, g5⟩ := (Classical.choose_spec (exists_least _ hI)).1
  refine wp_mono (round E1 s1 g3 g4 G1 a1 w1 g2) ?_
  rintro e a' w' ⟨G', E', s', h1, h2, h3, h4⟩
  have hw : ∀ i, i ∉ writes c → E' i = E i := fun i hi => by rw [h4 i hi, g4 i hi]
  cases e <;> simp only [Exit.then, thenQ] at h3 ⊢
  case normal =>
    have hC : ∃ n, C a' w' n := ⟨_, G', E', s', ⟨g1.trans h1, h2, h3.1, hw⟩, rfl⟩
    refine ⟨hC, ?_⟩
    have : ν a' w' = Classical.choose (exists_least _ hC) := by simp only [ν]; rw [dif_pos hC]
    rw [this, hν, ← g5]
    exact Nat.lt_of_le_of_lt ((Classical.choose_spec (exists_least _ hC)).2 _ ⟨G', E', s', ⟨g1.trans h1, h2, h3.1, hw⟩, rfl⟩) h3.2
  all_goals exact ⟨G', E', s', g1.trans h1, h2, h3, hw⟩

end rules

end Go.AM
