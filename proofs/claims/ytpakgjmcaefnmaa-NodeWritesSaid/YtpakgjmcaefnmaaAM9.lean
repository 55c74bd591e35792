/- An abstract machine for the model: abstract values, their relation to worlds, and the rules of its walk, each proved sound over the model; no condition. -/
import Derived.Test.YtpakgjmcaefnmaaAM8
import Derived.IntWalk
set_option linter.unusedSimpArgs false
set_option linter.unusedVariables false
set_option autoImplicit false
namespace Go.AM
open Go Go.RowKit

variable {P : Program} {Γ : Nat → List AV} {G : Gh} {s : AS} {w : World}

/-- A function's contract: called with values that read as args, in a memory that reads as s, it returns; Post speaks of what it returns and of the memory behind. -/
def ACalls (P : Program) (Γ : Nat → List AV) (f : FuncId) (args : List AV) (s : AS) (Post : AV → AS → Prop) : Prop :=
  ∀ (G : Gh) (w : World) (vs : List Value), SRel Γ G s w → VRels G args vs →
    Calls P f vs.toArray w fun e w' => ∃ G' r v s', e = .returned v ∧ G.le G' ∧ SRel Γ G' s' w' ∧ VRel G' r v ∧ Post r s'

theorem ACalls.mono {f : FuncId} {args : List AV} {s : AS} {Q R : AV → AS → Prop} (h : ACalls P Γ f args s Q) (k : ∀ r s', Q r s' → R r s') : ACalls P Γ f args s R :=
  fun G w vs hs hv => (h G w vs hs hv).mono fun _ _ ⟨G', r, v, s', h1, h2, h3, h4, h5⟩ => ⟨G', r, v, s', h1, h2, h3, h4, k r s' h5⟩

/-- Weaker knowledge of a value. -/
def AV.weak (a b : AV) : Prop := ∀ G v, VRel G a v → VRel G b v
theorem AV.weak.refl (a : AV) : a.weak a := fun _ _ h => h
theorem AV.weak_any {sz n : Nat} {cs : List AV} {sp : Sp} : (AV.sl sz n cs sp).weak (.sl sz n cs .any) := by
  intro G v h
  simp only [VRel] at h ⊢
  rcases h with ⟨b, off, cap, vs, h1, h2, h3, h4, h5, _⟩ | ⟨h1, h2, a, cap, h3, _⟩ | ⟨h1, h2, _, h3⟩
  · exact .inl ⟨b, off, cap, vs, h1, h2, h3, h4, h5, trivial⟩
  · exact .inr (.inl ⟨h1, h2, a, cap, h3, by simp⟩)
  · exact .inr (.inr ⟨h1, h2, by simp, h3⟩)
theorem AV.weak_nil {sz : Nat} : (AV.v (.slice none 0 0)).weak (.sl sz 0 [] .any) := by
  intro G v h
  simp only [VRel] at h ⊢
  exact .inr (.inr ⟨by simp, by simp, by simp, h⟩)
theorem AV.weak_sl {sz n : Nat} {cs : List AV} {sp : Sp} (ha : sp.isAny = false) : (AV.sl sz n cs sp).weak (.sl sz n cs .no) := by
  intro G v h
  simp only [VRel] at h ⊢
  rcases h with ⟨b, off, cap, vs, h1, h2, h3, h4, h5, _⟩ | ⟨h1, h2, a, cap, h3, _⟩ | ⟨h1, h2, h3, _⟩
  · exact .inl ⟨b, off, cap, vs, h1, h2, h3, h4, h5, trivial⟩
  · exact .inr (.inl ⟨h1, h2, a, cap, h3, by simp⟩)
  · subst h3; cases ha
/-- What may be nil: nil, or not. -/
theorem VRel.any {G : Gh} {sz n : Nat} {cs : List AV} {v : Value} (h : VRel G (.sl sz n cs .any) v) : (n = 0 ∧ cs = [] ∧ VRel G (.v (.slice none 0 0)) v) ∨ VRel G (.sl sz n cs .no) v := by
  simp only [VRel] at h ⊢
  rcases h with ⟨b, off, cap, vs, h1, h2, h3, h4, h5, _⟩ | ⟨h1, h2, a, cap, h3, _⟩ | ⟨h1, h2, _, h3⟩
  · exact .inr (.inl ⟨b, off, cap, vs, h1, h2, h3, h4, h5, trivial⟩)
  · exact .inr (.inr (.inl ⟨h1, h2, a, cap, h3, by simp⟩))
  · exact .inl ⟨h1, h2, h3⟩

theorem AS.le.refl (s : AS) : s.le s := ⟨fun _ _ h => h, fun _ _ h => h⟩
theorem AS.le.trans {a b c : AS} (h : a.le b) (k : b.le c) : a.le c := ⟨fun o cs x => k.objs o cs (h.objs o cs x), fun t e x => k.own t e (h.own t e x)⟩
theorem AS.le_set {s s' : AS} (h : s.le s') {o : Nat} (ho : s.objs o = none) (cs : List AV) : s.le (s'.set o cs) := by
  refine ⟨fun o' cs' hc => ?_, h.own⟩
  by_cases e : o' = o
  · subst e; rw [ho] at hc; cases hc
  · simp [AS.set, upd, e]; exact h.objs o' cs' hc
theorem AS.le_gain {s s' : AS} (h : s.le s') {t : Nat} (ht : s.own t = none) (g : Nat) : s.le (s'.gain t g) := by
  refine ⟨h.objs, fun t' e' he => ?_⟩
  by_cases e : t' = t
  · subst e; rw [ht] at he; cases he
  · simp [AS.gain, upd, e]; exact h.own t' e' he
theorem AS.le_drop {s s' : AS} (h : s.le s') {o : Nat} (ho : s.objs o = none) : s.le (s'.drop o) := by
  refine ⟨fun o' cs' hc => ?_, h.own⟩
  by_cases e : o' = o
  · subst e; rw [ho] at hc; cases hc
  · simp [AS.drop, upd, e]; exact h.objs o' cs' hc

/-- May the model enter it? -/
def callable (P : Program) (k : FuncId) : Bool :=
  match P.funcs[k]? with
  | some fn => fn.name != "runtime.NumGoroutine" && fn.body.isSome
  | none => false

/-- What an operation comes to that looks at objects, makes some, or calls. -/
def aeff (P : Program) (Γ : Nat → List AV) (ρ : Operand → AV) (s : AS) (K : AV → AS → Prop) : Op → Prop
  | .load T x =>
    match ρ x with
    | .ptr o off =>
      match s.objs o with
      | some cs => P.cellsOf T ≠ 0 ∧ (match aload P T (cs.drop off) with | some v => K v s | none => False)
      | none => False
    | _ => False
  | .store T a x =>
    match ρ a with
    | .ptr o off =>
      match s.objs o with
      | some cs => P.cellsOf T ≠ 0 ∧ (ρ x).cells.length = P.cellsOf T ∧ off + (ρ x).cells.length ≤ cs.length ∧ (ρ x).cells.all AV.one = true ∧ K (.v undef) (s.set o (asetAll cs off (ρ x).cells))
      | none => False
    | _ => False
  | .alloc T => match zcells P T with | some z => ∀ o, s.objs o = none → K (.ptr o 0) (s.set o z) | none => False
  | .box _ x => ∀ o, s.objs o = none → K (.ptr o 0) (s.set o (ρ x).cells)
  | .makeSlice T l c =>
    match P.underlying T, ρ l, ρ c with
    | some (.slice e), .v (.int _ n), .v (.int _ m) =>
      match zcells P e with
      | some z => 0 ≤ n ∧ m = n ∧ P.bytesOf e * n ≤ 2 ^ 46 ∧ n ≤ 2 ^ 46 ∧ P.cellsOf e ≠ 0 ∧ z.length = P.cellsOf e ∧
          ∀ o, s.objs o = none → K (.osl o 0 (P.cellsOf e) n.toNat n.toNat) (s.set o (zrow (n.toNat * P.cellsOf e) z))
      | none => False
    | _, _, _ => False
  | .call { callee := .builtin .append, args, argTypes } =>
    match args.toList, argTypes.toList with
    | [x, y], [T, xT] =>
      match P.underlying T with
      | some (.slice e) =>
        match zcells P e, asrc (P.cellsOf e) s (ρ y) with
        | some z, some (m, ds) => srcOk P (some xT) = true ∧ P.cellsOf e ≠ 0 ∧ z.length = P.cellsOf e ∧ aappend P e (ρ x) m ds s K
        | _, _ => False
      | _ => False
    | _, _ => False
  | .call { callee := .builtin .copy, args, argTypes } =>
    match args.toList, argTypes.toList with
    | [x, y], [T, _] =>
      match P.underlying T with
      | some (.slice e) =>
        match asrc (P.cellsOf e) s (ρ y), ρ x with
        | some (m, ds), .osl o off _ n _ =>
          match s.objs o with
          | some cs => P.cellsOf e ≠ 0 ∧ ds.all AV.one = true ∧ off + min m n * P.cellsOf e ≤ cs.length ∧
              K (.v (.int .i64 ((min m n : Nat) : Int))) (s.set o (asetAll cs off (ds.take (min m n * P.cellsOf e))))
          | none => False
        | _, _ => False
      | _ => False
    | _, _ => False
  | .call { callee := .value f, args, .. } =>
    match ρ f with
    | .v (.func (.func k) first caps) => first.isEmpty = true ∧ caps.isEmpty = true ∧ callable P k = true ∧ ACalls P Γ k (args.toList.map ρ) s K
    | .clo k caps => callable P k = true ∧ ACalls P Γ k (args.toList.map ρ ++ caps) s K
    | _ => False
  | _ => False

def astep (P : Program) (Γ : Nat → List AV) (ρ : Operand → AV) (s : AS) (K : AV → AS → Prop) (op : Op) : Prop :=
  match aval P ρ op with
  | some r => K r s
  | none => aeff P Γ ρ s K op

/-- What an operation leaves, whatever it was. -/
def OpRes (P : Program) (Γ : Nat → List AV) (G : Gh) (K : AV → AS → Prop) : Result Next → Prop
  | .ok (.value v) w' => ∃ G' r s', G.le G' ∧ SRel Γ G' s' w' ∧ VRel G' r v ∧ K r s'
  | .ok .skip w' => ∃ G' s', G.le G' ∧ SRel Γ G' s' w' ∧ K (.v undef) s'
  | .ok (.enter f args) w' => Calls P f args w' fun e w'' => ∃ G' r v s', e = .returned v ∧ G.le G' ∧ SRel Γ G' s' w'' ∧ VRel G' r v ∧ K r s'
  | _ => False

theorem run_callFunc {k : FuncId} (h : callable P k = true) (args : Array Value) : (callFunc k args).run P w = .ok (.enter k args) w := by
  unfold callable at h
  split at h
  · rename_i fn hf
    simp only [Bool.and_eq_true, bne_iff_ne, ne_eq] at h
    obtain ⟨h1, h2⟩ := h
    have h3 : fn.body.isNone = false := by cases hb : fn.body <;> simp [hb] at h2 ⊢
    have h4 : fn.body ≠ none := by intro e; simp [e] at h2
    simp [callFunc, hf, h1, h4]
  · cases h

theorem setCells_obj (h : SRel Γ G s w) {o b off : Nat} {cs ds : List AV} {us : List Value} (ho : s.objs o = some cs) (hb : G.obj o = some b) (hle : off + ds.length ≤ cs.length) (hd : VRels G ds us) :
    (∀ j, j < us.length → (w.cell? ⟨b, off + j, none⟩).isSome = true) ∧ (∀ j, j < us.length → w.frozen? ⟨b, off + j, none⟩ = false) ∧
      SRel Γ G (s.set o (asetAll cs off ds)) (w.setCells b off us) := by
  have hdl := hd.length
  have hfirst : (∀ j, j < us.length → (w.cell? ⟨b, off + j, none⟩).isSome = true) ∧ (∀ j, j < us.length → w.frozen? ⟨b, off + j, none⟩ = false) := by
    obtain ⟨b', vs, h1, h2, h3, h4⟩ := h.objs o cs ho
    rw [hb] at h1; cases h1
    have hl := h2.length
    refine ⟨fun j hj => ?_, fun j hj => ?_⟩
    · have := (h4 (off + j) (vs[off + j]'(by omega)) (by simp)).1
      simp [this]
    · exact (h4 (off + j) (vs[off + j]'(by omega)) (by simp)).2.1
  refine ⟨hfirst.1, hfirst.2, ?_⟩
  clear hfirst
  induction ds generalizing us s w cs off with
  | nil =>
    simp only [VRels] at hd
    subst hd
    simp only [asetAll, World.setCells]
    have : s.set o cs = s := by
      cases s with
      | mk objs own =>
        simp only [AS.set, AS.mk.injEq, and_true]
        funext i
        simp only [upd]
        split
        · rename_i e; subst e; exact ho.symm
        · rfl
    rw [this]; exact h
  | cons d ds ih =>
    simp only [VRels] at hd
    obtain ⟨u, us', rfl, hu, hds⟩ := hd
    simp only [List.length_cons] at hle
    obtain ⟨_, _, h1⟩ := h.setCell ho hb (i := off) (by omega) hu
    simp only [asetAll, World.setCells]
    have := ih (s := s.set o (cs.set off d)) (w := w.setCell ⟨b, off, none⟩ u) (cs := cs.set off d) (off := off + 1) (us := us') h1 (by simp [AS.set]) (by simp; omega) hds hds.length
    have e : (s.set o (cs.set off d)).set o (asetAll (cs.set off d) (off + 1) ds) = s.set o (asetAll (cs.set off d) (off + 1) ds) := by
      simp only [AS.set, AS.mk.injEq, and_true]
      funext i
      simp only [upd]
      split <;> rfl
    rw [e] at this
    exact this

theorem run_store_obj (h : SRel Γ G s w) {T : TypeId} {o off : Nat} {cs : List AV} {x : AV} {u a : Value} (ho : s.objs o = some cs) (ha : VRel G (.ptr o off) a) (hz : P.cellsOf T ≠ 0) (hsz : x.cells.length = P.cellsOf T)
    (hle : off + x.cells.length ≤ cs.length) (h1 : x.cells.all AV.one = true) (hx : VRel G x u) :
    ∃ w', (Instr.storeAt T a u).run P w = .ok () w' ∧ SRel Γ G (s.set o (asetAll cs off x.cells)) w' := by
  simp only [VRel] at ha
  obtain ⟨b, hb, rfl⟩ := ha
  have hv := VRels_of_cells hx
  have hl := hv.length
  obtain ⟨f1, f2, f3⟩ := setCells_obj h ho hb hle hv
  have hst := run_storeCells_cells (P := P) b off u.cells.toList 0 w (by simpa using f1) (by simpa using f2) (one_of_all hv h1)
  refine ⟨_, ?_, f3⟩
  simp only [Nat.add_zero] at hst
  have hsz' : u.cells.size = P.cellsOf T := by simp at hl; omega
  simp [Instr.storeAt, Instr.sureAddr, storeVar, run_sizeOf' hz, hsz', hst]

theorem opres_value {K : AV → AS → Prop} {x : Sem Value} (h : ∃ G' v w' r s', x.run P w = .ok v w' ∧ G.le G' ∧ SRel Γ G' s' w' ∧ VRel G' r v ∧ K r s') :
    OpRes P Γ G K ((do pure (.value (← x)) : Sem Next).run P w) := by
  obtain ⟨G', v, w', r, s', h1, h2, h3, h4, h5⟩ := h
  simp only [Sem.run_bind, h1, Result.andThen_ok, Sem.run_pure, OpRes]
  exact ⟨G', r, s', h2, h3, h4, h5⟩

theorem opres_call {K : AV → AS → Prop} {k : FuncId} {as : List AV} {vs : List Value} (hc : callable P k = true) (h : ACalls P Γ k as s K) (hs : SRel Γ G s w) (hv : VRels G as vs) :
    OpRes P Γ G K ((callFunc k vs.toArray).run P w) := by
  rw [run_callFunc hc]
  exact h G w vs hs hv

theorem aeff_load {ρ : Operand → AV} {ρ' : Operand → Value} {K : AV → AS → Prop} {T : TypeId} {x : Operand} {o : Oper} (ho : o.op = .load T x) (h : aeff P Γ ρ s K (.load T x)) (hρ : ∀ x, VRel G (ρ x) (ρ' x)) (hs : SRel Γ G s w) :
    OpRes P Γ G K ((execOp ρ' o).run P w) := by
  simp only [aeff] at h
  have hx := hρ x
  split at h
  · rename_i ob off hc
    rw [hc] at hx
    split at h
    · rename_i cs hcs
      obtain ⟨hz, h⟩ := h
      split at h
      · rename_i v hl
        simp only [VRel] at hx
        obtain ⟨b, hb, hu⟩ := hx
        obtain ⟨b', vs, h1, h2, h3, h4⟩ := hs.objs ob cs hcs
        rw [hb] at h1; cases h1
        obtain ⟨z, q1, q2⟩ := run_loadVar' (w := w) hl hz (h2.drop off) (b := b) (off := off) (fun j u hj => by
          rw [add_spot]
          rw [List.getElem?_drop] at hj
          exact (h4 _ _ hj).1)
        have e : execOp ρ' o = (do pure (.value (← Instr.loadAt T (ρ' x)))) := by simp only [execOp, ho]
        rw [e]
        exact opres_value ⟨G, z, w, v, s, by simp only [hu, Instr.loadAt, Instr.sureAddr, Sem.run_bind, Sem.run_pure, Result.andThen_ok, q1], .refl G, hs, q2, h⟩
      · exact h.elim
    · exact h.elim
  · exact h.elim

theorem aeff_store {ρ : Operand → AV} {ρ' : Operand → Value} {K : AV → AS → Prop} {T : TypeId} {x y : Operand} {o : Oper} (ho : o.op = .store T x y) (h : aeff P Γ ρ s K (.store T x y)) (hρ : ∀ x, VRel G (ρ x) (ρ' x)) (hs : SRel Γ G s w) :
    OpRes P Γ G K ((execOp ρ' o).run P w) := by
  simp only [aeff] at h
  have hx := hρ x
  split at h
  · rename_i ob off hc
    rw [hc] at hx
    split at h
    · rename_i cs hcs
      obtain ⟨hz, h1, h2, h3, h4⟩ := h
      obtain ⟨w', q1, q2⟩ := run_store_obj (P := P) hs hcs hx hz h1 h2 h3 (hρ y)
      have e : execOp ρ' o = (do Instr.storeAt T (ρ' x) (ρ' y); pure .skip) := by simp only [execOp, ho]
      rw [e]
      simp only [Sem.run_bind, q1, Result.andThen_ok, Sem.run_pure, OpRes]
      exact ⟨G, _, .refl G, q2, h4⟩
    · exact h.elim
  · exact h.elim

theorem aeff_new {K : AV → AS → Prop} {cs : List AV} {T : TypeId} {v : Value} (h : ∀ o, s.objs o = none → K (.ptr o 0) (s.set o cs)) (hv : VRels G cs v.cells.toList) (hs : SRel Γ G s w) :
    OpRes P Γ G K ((do pure (.value (← (do pure (.pointer (some (← newVar T v))) : Sem Value))) : Sem Next).run P w) := by
  obtain ⟨o, h1, h2, h3, h4⟩ := hs.newObj hv T
  refine opres_value ⟨_, .pointer (some ⟨w.heap.size, 0, none⟩), _, _, _, ?_, h2, h3, ?_, h o h1⟩
  · simp [newVar, newRow]
  · simp only [VRel]
    exact ⟨_, h4, rfl⟩

theorem aeff_alloc {ρ : Operand → AV} {ρ' : Operand → Value} {K : AV → AS → Prop} {T : TypeId} {o : Oper} (ho : o.op = .alloc T) (h : aeff P Γ ρ s K (.alloc T)) (hs : SRel Γ G s w) :
    OpRes P Γ G K ((execOp ρ' o).run P w) := by
  simp only [aeff] at h
  split at h
  · rename_i z hz
    obtain ⟨v, hv, rfl⟩ := zcells_some hz
    have := aeff_new (P := P) (T := T) (v := v) h (VRels.vals _) hs
    have e : (execOp ρ' o).run P w = (do pure (.value (← (do pure (.pointer (some (← newVar T v))) : Sem Value))) : Sem Next).run P w := by
      simp [execOp, ho, Instr.alloc, hv]
    rw [e]; exact this
  · exact h.elim

theorem aeff_box {ρ : Operand → AV} {ρ' : Operand → Value} {K : AV → AS → Prop} {T : TypeId} {x : Operand} {o : Oper} (ho : o.op = .box T x) (h : aeff P Γ ρ s K (.box T x)) (hρ : ∀ x, VRel G (ρ x) (ρ' x)) (hs : SRel Γ G s w) :
    OpRes P Γ G K ((execOp ρ' o).run P w) := by
  simp only [aeff] at h
  have := aeff_new (P := P) (T := T) (v := ρ' x) h (VRels_of_cells (hρ x)) hs
  have e : (execOp ρ' o).run P w = (do pure (.value (← (do pure (.pointer (some (← newVar T (ρ' x)))) : Sem Value))) : Sem Next).run P w := by
    simp [execOp, ho, Instr.box]
  rw [e]; exact this

theorem aeff_makeSlice {ρ : Operand → AV} {ρ' : Operand → Value} {K : AV → AS → Prop} {T : TypeId} {x y : Operand} {o : Oper} (ho : o.op = .makeSlice T x y) (h : aeff P Γ ρ s K (.makeSlice T x y)) (hρ : ∀ x, VRel G (ρ x) (ρ' x)) (hs : SRel Γ G s w) :
    OpRes P Γ G K ((execOp ρ' o).run P w) := by
  simp only [aeff] at h
  have hx := hρ x
  have hy := hρ y
  split at h
  · rename_i e k n k' m hu hc hc'
    rw [hc] at hx
    rw [hc'] at hy
    simp only [VRel] at hx hy
    split at h
    · rename_i z hz
      obtain ⟨v, hv, rfl⟩ := zcells_some hz
      obtain ⟨h0, rfl, h1, h2, h3, h4, h5⟩ := h
      have hsz : v.cells.size = P.cellsOf e := by simpa using h4
      have hne : v.cells.toList ≠ [] := by
        intro e'
        rw [e'] at h4
        simp at h4
        omega
      obtain ⟨ob, q1, q2, q3, q4⟩ := hs.newObj (VRels_zrow (G := G) (m.toNat * P.cellsOf e) hne) e
      obtain ⟨i, hi⟩ := info_of_cells h3
      have hb : P.bytesOf e = i.bytes := by simp [Program.bytesOf, hi]
      rw [hb] at h1
      have hw : IntKind.i64.wrap m = m := IntWalk.i64_in m (by omega)
      refine (show execOp ρ' o = (do pure (.value (← Instr.makeSlice T (ρ' x) (ρ' y)))) by simp only [execOp, ho]) ▸ opres_value ⟨_, .slice (some ⟨w.heap.size, 0, none⟩) m.toNat m.toNat, _, _, _, ?_, q2, q3, ?_, h5 ob q1⟩
      · have c1 : ¬ (m < 0) := by omega
        have c2 : ¬ (281474976710656 < (i.bytes : Int) * m) := by omega
        have hr0 : Array.range 0 = #[] := rfl
        have hcells : (Array.range (m.toNat * P.cellsOf e)).map (fun j => v.cells[j % v.cells.size]!) = ((List.range (m.toNat * P.cellsOf e)).map fun i => v.cells.toList.toArray[i % v.cells.toList.toArray.size]!).toArray := by
          apply Array.ext'
          simp
        by_cases hm0 : m.toNat * P.cellsOf e = 0
        · have hcells0 : (Array.range (m.toNat * P.cellsOf e)).map (fun j => (#[] : Array Value)[j % (#[] : Array Value).size]!) = ((List.range (m.toNat * P.cellsOf e)).map fun i => v.cells.toList.toArray[i % v.cells.toList.toArray.size]!).toArray := by
            rw [hm0]; simp
          have hti : (typeInfo e).run P w = .ok i w := by simp [typeInfo, hi]
          simp only [Instr.makeSlice, Sem.run_bind, run_underlying hu, hx, hy, asInt, asIntOf, Sem.run_pure, Result.andThen_ok, hti, hw]
          simp [c1, c2, run_sizeOf' h3, hm0, newRow, hr0]
        · have hti : (typeInfo e).run P w = .ok i w := by simp [typeInfo, hi]
          simp only [Instr.makeSlice, Sem.run_bind, run_underlying hu, hx, hy, asInt, asIntOf, Sem.run_pure, Result.andThen_ok, hti, hw]
          simp only [c1, c2, run_sizeOf' h3, hm0, newRow, hv, hcells, decide_false, Bool.false_or, Bool.false_eq_true, if_false, Sem.run_bind, Sem.run_pure, Result.andThen_ok, run_askRoom, run_newObj_alloc, gt_iff_lt, Int.lt_irrefl, show ((2 : Int) ^ 48) = 281474976710656 from rfl, decide_true, Bool.true_or]
      · simp only [VRel]
        exact ⟨_, q4, rfl, Nat.le_refl _⟩
    · exact h.elim
  · exact h.elim

end Go.AM
