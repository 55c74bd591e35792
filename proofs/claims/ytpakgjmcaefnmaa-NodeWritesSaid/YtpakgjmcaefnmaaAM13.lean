/- An abstract machine for the model: abstract values, their relation to worlds, and the rules of its walk, each proved sound over the model; no condition. -/
import Derived.Test.YtpakgjmcaefnmaaAM12
set_option linter.unusedSimpArgs false
set_option linter.unusedVariables false
set_option autoImplicit false
namespace Go.AM
open Go Go.RowKit

variable {P : Program} {Γ : Nat → List AV} {G : Gh} {s : AS} {w : World}

/-- The operations that must come before, as bits. -/
def depMask (ops : Array Oper) (D : List Nat) (o : Oper) : Nat :=
  o.after.toList.foldl (fun m e => if Region.binds .any e then m ||| 2 ^ e.on ||| D.getD e.on 0 else m) 0

def depEq (ops : Array Oper) (D : List Nat) : Bool :=
  (List.range ops.size).all fun i =>
    match ops[i]? with
    | some o => D.getD i 0 == depMask ops D o && o.after.toList.all fun e => !Region.binds .any e || decide (e.on < i)
    | none => true

def pairsOk (ops : Array Oper) (D : List Nat) (fl : List Nat) : Bool :=
  (List.range ops.size).all fun j => (List.range j).all fun i =>
    match ops[i]?, ops[j]? with
    | some x, some y => (D.getD j 0).testBit i || (x.apart ops y && !(fl.contains i && fl.contains j))
    | _, _ => true

/-- In whatever order such a region is run, it comes to what the order of the text comes to; 'fl': the operations that may look at objects. -/
def drawOk (ops : Array Oper) (fl : List Nat) : Bool :=
  depEq ops (Region.before ops).toList && pairsOk ops (Region.before ops).toList fl

theorem testBit_mask (D : List Nat) (l : Nat) : ∀ (es : List Edge) (m : Nat), (es.foldl (fun m e => if Region.binds .any e then m ||| 2 ^ e.on ||| D.getD e.on 0 else m) m).testBit l = true →
    m.testBit l = true ∨ ∃ e ∈ es, Region.binds .any e = true ∧ (l = e.on ∨ (D.getD e.on 0).testBit l = true)
  | [], m, h => .inl h
  | e :: es, m, h => by
    simp only [List.foldl_cons] at h
    rcases testBit_mask D l es _ h with h1 | ⟨e', h1, h2⟩
    · split at h1
      · rename_i hb
        rw [Nat.testBit_or, Nat.testBit_or] at h1
        simp only [Bool.or_eq_true] at h1
        rcases h1 with (h1 | h1) | h1
        · exact .inl h1
        · rw [Nat.testBit_two_pow] at h1
          exact .inr ⟨e, by simp, hb, .inl (of_decide_eq_true h1).symm⟩
        · exact .inr ⟨e, by simp, hb, .inr h1⟩
      · exact .inl h1
    · exact .inr ⟨e', by simp [h1], h2⟩

theorem depEq_spec {ops : Array Oper} {D : List Nat} (h : depEq ops D = true) {i : Nat} {o : Oper} (ho : ops[i]? = some o) :
    (∀ l, (D.getD i 0).testBit l = true → ∃ e ∈ o.after.toList, Region.binds .any e = true ∧ (l = e.on ∨ (D.getD e.on 0).testBit l = true)) ∧ ∀ e ∈ o.after.toList, Region.binds .any e = true → e.on < i := by
  unfold depEq at h
  rw [List.all_eq_true] at h
  have hi : i < ops.size := by
    rcases Nat.lt_or_ge i ops.size with h' | h'
    · exact h'
    · simp [Array.getElem?_eq_none h'] at ho
  have := h i (by simpa using hi)
  simp only [ho, Bool.and_eq_true, beq_iff_eq, List.all_eq_true] at this
  refine ⟨fun l hl => ?_, fun e he hb => ?_⟩
  · rw [this.1] at hl
    rcases testBit_mask D l _ _ hl with h1 | h1
    · simp at h1
    · exact h1
  · have := this.2 e he
    simpa [hb] using this

section
variable {N : Nat} {ops : Array Oper}

/-- The operations that are still to come. -/
def left (ops : Array Oper) (listed : Array Bool) : List Nat := (List.range ops.size).filter fun i => !listed.getD i true

theorem mem_left {listed : Array Bool} {i : Nat} : i ∈ left ops listed ↔ i < ops.size ∧ listed.getD i true = false := by
  simp [left]

def opAt (ops : Array Oper) (fl : List Nat) (i : Nat) : Oper × Bool := ((ops[i]?).getD default, fl.contains i)

theorem left_set {listed : Array Bool} {i : Nat} (hl : listed.size = ops.size) (hi : i < ops.size) (h0 : listed.getD i true = false) :
    ∃ L1 L2, left ops listed = L1 ++ i :: L2 ∧ left ops (listed.setIfInBounds i true) = L1 ++ L2 ∧ (∀ x ∈ L1, x < i ∧ listed.getD x true = false) := by
  have key : ∀ (n k : Nat), k ≤ i → i < k + n →
      ∃ L1 L2, (List.range' k n).filter (fun i => !listed.getD i true) = L1 ++ i :: L2 ∧ (List.range' k n).filter (fun j => !(listed.setIfInBounds i true).getD j true) = L1 ++ L2 ∧ (∀ x ∈ L1, x < i ∧ listed.getD x true = false) := by
    intro n
    induction n with
    | zero => intro k h1 h2; omega
    | succ n ih =>
      intro k h1 h2
      rw [List.range'_succ]
      by_cases hk : k = i
      · subst hk
        refine ⟨[], (List.range' (k + 1) n).filter (fun i => !listed.getD i true), ?_, ?_, by simp⟩
        · rw [List.filter_cons_of_pos (by simpa using h0)]; rfl
        · rw [List.filter_cons_of_neg (by simp [hl, hi])]
          simp only [List.nil_append]
          apply List.filter_congr
          intro x hx
          rw [getD_set_ne true (by simp at hx; omega)]
      · obtain ⟨L1, L2, q1, q2, q3⟩ := ih (k + 1) (by omega) (by omega)
        have hne : (listed.setIfInBounds i true).getD k true = listed.getD k true := getD_set_ne true (by omega)
        by_cases hb : listed.getD k true = false
        · refine ⟨k :: L1, L2, ?_, ?_, ?_⟩
          · rw [List.filter_cons_of_pos (by simpa using hb), q1]; rfl
          · rw [List.filter_cons_of_pos (by rw [hne]; simpa using hb), q2]; rfl
          · intro x hx
            rcases List.mem_cons.1 hx with rfl | hx
            · exact ⟨by omega, hb⟩
            · exact q3 x hx
        · refine ⟨L1, L2, ?_, ?_, q3⟩
          · rw [List.filter_cons_of_neg (by simpa using hb), q1]
          · rw [List.filter_cons_of_neg (by rw [hne]; simpa using hb), q2]
  have := key ops.size 0 (by omega) (by omega)
  simpa [left, List.range_eq_range'] using this

theorem wpAny_of_AXp {fl : List Nat} {Q : Exit → Act → World → Prop} {K : Env → AS → Prop} (hok : drawOk ops fl = true) :
    ∀ (fuel : Nat) (listed : Array Bool) {G : Gh} {E : Env} {s : AS} {a : Act} {w : World}, listed.size = ops.size → (left ops listed).length ≤ fuel →
      (∀ (i : Nat) (o : Oper), ops[i]? = some o → listed.getD i true = true → ∀ e ∈ o.after.toList, Region.binds .any e = true → listed.getD e.on false = true) →
      AXp P Γ N ops ((left ops listed).map (opAt ops fl)) K E s → Rel Γ N G E s a w →
      (∀ G' E' s' a' w', G.le G' → Rel Γ N G' E' s' a' w' → K E' s' → Q .normal a' w') → wpAny P .any ops Q fuel listed a w := by
  simp only [drawOk, Bool.and_eq_true] at hok
  obtain ⟨hdep, hpairs⟩ := hok
  intro fuel
  have hnil : ∀ (listed : Array Bool), Region.ready .any ops listed = [] → left ops listed = [] := by
    intro listed h
    -- the first that is left could go
    cases hl : left ops listed with
    | nil => rfl
    | cons i L =>
      exfalso
      have hi : i ∈ left ops listed := by rw [hl]; simp
      obtain ⟨h1, h2⟩ := mem_left.1 hi
      have hmin : ∀ j, j < i → listed.getD j true = true := by
        intro j hj
        cases hjl : listed.getD j true with
        | true => rfl
        | false =>
          exfalso
          have hjm : j ∈ left ops listed := mem_left.2 ⟨by omega, hjl⟩
          have hs : (left ops listed).Pairwise (· < ·) := by
            unfold left
            exact List.Pairwise.filter _ List.pairwise_lt_range
          rw [hl] at hs hjm
          rcases List.mem_cons.1 hjm with rfl | hjm
          · omega
          · have := (List.pairwise_cons.1 hs).1 j hjm
            omega
      have ho : ops[i]? = some ops[i] := by simp [h1]
      have hr : i ∈ Region.ready .any ops listed := by
        rw [mem_ready]
        refine ⟨h2, _, ho, fun e he hb => ?_⟩
        have hlt := (depEq_spec hdep ho).2 e (by simpa using he) hb
        have := hmin _ hlt
        -- both defaults agree where the place is there
        have hsz : e.on < listed.size := by
          rcases Nat.lt_or_ge e.on listed.size with h' | h'
          · exact h'
          · exfalso
            have : listed.getD i true = true := by
              simp [Array.getElem?_eq_none (show listed.size ≤ i by omega)]
            rw [h2] at this; cases this
        simpa [hsz] using this
      rw [h] at hr
      cases hr
  induction fuel with
  | zero =>
    intro listed G E s a w hsz hlen hcl h hr hq
    have hl : left ops listed = [] := List.eq_nil_of_length_eq_zero (by omega)
    have hready : Region.ready .any ops listed = [] := by
      cases hrd : Region.ready .any ops listed with
      | nil => rfl
      | cons i L =>
        exfalso
        have : i ∈ Region.ready .any ops listed := by rw [hrd]; simp
        rw [mem_ready] at this
        obtain ⟨h0, o, ho, _⟩ := this
        have : i ∈ left ops listed := mem_left.2 ⟨(Array.getElem?_eq_some_iff.1 ho).1, h0⟩
        rw [hl] at this
        cases this
    rw [hl] at h
    exact ⟨hready, hq G E s a w (.refl G) hr h⟩
  | succ fuel ih =>
    intro listed G E s a w hsz hlen hcl h hr hq
    refine ⟨fun hready => ?_, fun i hi => ?_⟩
    · rw [hnil listed hready] at h
      exact hq G E s a w (.refl G) hr h
    · obtain ⟨h0, o, ho, hall⟩ := mem_ready.1 hi
      have hilt : i < ops.size := (Array.getElem?_eq_some_iff.1 ho).1
      obtain ⟨L1, L2, q1, q2, q3⟩ := left_set hsz hilt h0
      -- what comes before i is done
      have hbefore : ∀ (j : Nat) (oj : Oper), ops[j]? = some oj → (∀ e ∈ oj.after.toList, Region.binds .any e = true → listed.getD e.on false = true) → ∀ l, ((Region.before ops).toList.getD j 0).testBit l = true → listed.getD l false = true := by
        intro j
        induction j using Nat.strongRecOn with
        | _ j ihj =>
          intro oj hoj hj l hl
          obtain ⟨d1, d2⟩ := depEq_spec hdep hoj
          obtain ⟨e, he, hb, h1⟩ := d1 l hl
          have hel := hj e he hb
          rcases h1 with rfl | h1
          · exact hel
          · have hlt := d2 e he hb
            have hon : e.on < ops.size := by
              have := (Array.getElem?_eq_some_iff.1 hoj).1
              omega
            have heon : ops[e.on]? = some ops[e.on] := by simp [hon]
            refine ihj e.on hlt _ heon (hcl e.on _ heon ?_) l h1
            have : e.on < listed.size := by omega
            simpa [this] using hel
      have hpair : ∀ x ∈ L1, Apart ops ((ops[x]?).getD default) o ∧ ¬ (fl.contains x = true ∧ fl.contains i = true) := by
        intro x hx
        obtain ⟨hxi, hxl⟩ := q3 x hx
        unfold pairsOk at hpairs
        rw [List.all_eq_true] at hpairs
        have h1 := hpairs i (by simpa using hilt)
        rw [List.all_eq_true] at h1
        have h2 := h1 x (by simpa using hxi)
        have hox : ops[x]? = some (ops[x]'(by omega)) := by simp
        rw [hox, ho] at h2
        simp only [Bool.or_eq_true, Bool.and_eq_true, Bool.not_eq_true'] at h2
        rcases h2 with h2 | ⟨h2, h3⟩
        · exfalso
          have := hbefore i o ho (fun e he hb => hall e (by simpa using he) hb) x h2
          have hxs : x < listed.size := by omega
          simp [hxs] at this hxl
          rw [hxl] at this; cases this
        · refine ⟨by rw [hox]; exact h2, fun hc => ?_⟩
          rw [hc.1, hc.2] at h3
          cases h3
      have hset : ∀ {G' : Gh} {E' : Env} {s' : AS} {a' : Act} {w' : World}, G.le G' → AXp P Γ N ops ((L1 ++ L2).map (opAt ops fl)) K E' s' → Rel Γ N G' E' s' a' w' → wpAny P .any ops Q fuel (listed.setIfInBounds i true) a' w' := by
        intro G' E' s' a' w' hle hA hr'
        refine ih (listed.setIfInBounds i true) (by simpa using hsz) ?_ ?_ ?_ hr' (fun G'' E'' s'' a'' w'' k1 k2 k3 => hq G'' E'' s'' a'' w'' (hle.trans k1) k2 k3)
        · rw [q2]
          rw [q1] at hlen
          simp at hlen ⊢
          omega
        · intro j oj hoj hj e he hb
          by_cases hji : j = i
          · subst hji
            rw [ho] at hoj; cases hoj
            exact getD_set_true (hall e (by simpa using he) hb)
          · rw [getD_set_ne true (Ne.symm hji)] at hj
            exact getD_set_true (hcl j oj hoj hj e he hb)
        · rw [q2]; exact hA
      rw [q1] at h
      simp only [List.map_append, List.map_cons] at h hset
      have hop : opAt ops fl i = (o, fl.contains i) := by simp [opAt, ho]
      rw [hop] at h
      cases hf : fl.contains i with
      | false =>
        rw [hf] at h
        have hap : ∀ x ∈ L1.map (opAt ops fl), Apart ops x.1 o := by
          intro x hx
          obtain ⟨j, hj, rfl⟩ := List.mem_map.1 hx
          exact (hpair j hj).1
        obtain ⟨hd, v, hv⟩ := pval_later _ hap h hr
        have h1 := AXp_first_pure _ hap hv h
        have hX : AXp P Γ N ops ((o, false) :: (L1.map (opAt ops fl) ++ L2.map (opAt ops fl))) K E s := by
          simp only [AXp, Bool.false_eq_true, if_false, hv]
          exact ⟨hd, h1⟩
        have h2 := AXp_AX hX
        exact AX_step (L := []) (K := fun E s => AXp P Γ N ops (L1.map (opAt ops fl) ++ L2.map (opAt ops fl)) K E s) ho h2 hr (fun G' E' s' a' w' k1 k2 k3 => hset k1 k3 k2)
      | true =>
        rw [hf] at h
        have hap : ∀ x ∈ L1.map (opAt ops fl), Apart ops x.1 o ∧ x.2 = false := by
          intro x hx
          obtain ⟨j, hj, rfl⟩ := List.mem_map.1 hx
          refine ⟨(hpair j hj).1, ?_⟩
          cases hc : fl.contains j with
          | false => exact hc
          | true => exact absurd ⟨hc, hf⟩ (hpair j hj).2
        have h2 := AXp_first_eff _ hap h
        exact AX_step (L := []) (K := fun E s => AXp P Γ N ops (L1.map (opAt ops fl) ++ L2.map (opAt ops fl)) K E s) ho h2 hr (fun G' E' s' a' w' k1 k2 k3 => hset k1 k3 k2)

/-- The region's operations with their marks. -/
def marked (ops : Array Oper) (fl : List Nat) : List (Oper × Bool) := (List.range ops.size).map (opAt ops fl)

theorem AXp_frame : ∀ (L : List (Oper × Bool)) {K : Env → AS → Prop} {E : Env} {s : AS}, AXp P Γ N ops L K E s → AXp P Γ N ops L (fun E' s' => K E' s' ∧ ∀ i, i ∉ dsts (L.map (·.1)) → E' i = E i) E s
  | [], K, E, s, h => ⟨h, fun _ _ => rfl⟩
  | (o, eff) :: L, K, E, s, h => by
    have hmem : ∀ i, i ∉ dsts (((o, eff) :: L).map (·.1)) → i ∉ dsts (L.map (·.1)) ∧ o.dst ≠ some i := by
      intro i hi
      simp only [dsts, List.map_cons, List.filterMap_cons] at hi
      refine ⟨fun hm => hi ?_, fun e => hi (by simp [e])⟩
      simp only [dsts] at hm
      split
      · exact hm
      · exact List.mem_cons_of_mem _ hm
    simp only [AXp] at h ⊢
    split at h
    · rename_i he
      rw [if_pos he]
      refine AX_mono _ (fun E' s' hE => ?_) (AX_one_frame h)
      refine AXp_mono L (fun E'' s'' hE' => ⟨hE'.1, fun i hi => ?_⟩) (AXp_frame L hE.1)
      obtain ⟨m1, m2⟩ := hmem i hi
      rw [hE'.2 i m1, hE.2 i m2]
    · rename_i he
      rw [if_neg he]
      refine ⟨h.1, ?_⟩
      have h := h.2
      split at h
      · refine AXp_mono L (fun E'' s'' hE' => ⟨hE'.1, fun i hi => ?_⟩) (AXp_frame L h)
        obtain ⟨m1, m2⟩ := hmem i hi
        rw [hE'.2 i m1, updO_other m2]
      · exact h

theorem awp_region_draw {E : Env} {Q : Exit → Env → AS → Prop} (hm : P.follows .mixedOrders = true) (fl : List Nat) {id : Nat} (hok : drawOk ops fl = true) (h : AXp P Γ N ops (marked ops fl) (fun E' s' => Q .normal E' s') E s) :
    AWp P Γ N (.region id ops true) Q E s := by
  intro G a w hr
  refine wp_region_any hm ?_
  have hleft : left ops (Array.replicate ops.size false) = List.range ops.size := by
    unfold left
    rw [List.filter_eq_self]
    intro i hi
    have : i < ops.size := by simpa using hi
    simp [this]
  have hr' : Rel Γ N G E s a w.drew := ⟨hr.st.drew, hr.size, hr.tmps, hr.defers⟩
  refine wpAny_of_AXp hok ops.size (Array.replicate ops.size false) (by simp) (by rw [hleft]; simp) ?_ (by rw [hleft]; exact AXp_frame _ h) hr' ?_
  · intro i o ho hl
    have : i < ops.size := (Array.getElem?_eq_some_iff.1 ho).1
    simp [this] at hl
  · intro G' E' s' a' w' h1 h2 h3
    refine ⟨G', E', s', h1, h2, h3.1, fun i hi => h3.2 i fun hm => hi ?_⟩
    have : (marked ops fl).map (·.1) = ops.toList := by
      apply List.ext_getElem?
      intro j
      simp only [marked, List.getElem?_map]
      by_cases hj : j < ops.size
      · simp [hj, opAt]
      · simp [hj]
    have hm' : i ∈ dsts ((marked ops fl).map (·.1)) := hm
    rw [this] at hm'
    exact hm'

end
end Go.AM
