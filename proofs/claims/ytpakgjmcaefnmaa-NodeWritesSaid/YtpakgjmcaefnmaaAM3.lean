/- An abstract machine for the model: abstract values, their relation to worlds, and the rules of its walk, each proved sound over the model; no condition. -/
import Derived.Test.YtpakgjmcaefnmaaAM2
import Derived.Laws.Append
import Derived.Laws.BytesArg
import Derived.Laws.NewFold
set_option linter.unusedSimpArgs false
set_option linter.unusedVariables false
set_option autoImplicit false
namespace Go.AM
open Go Go.RowKit

variable {P : Program} {Γ : Nat → List AV} {G : Gh} {s : AS} {w : World}

theorem info_of_cells {t : TypeId} (h : P.cellsOf t ≠ 0) : ∃ i, P.info? t = some i := by
  cases hi : P.info? t with
  | some i => exact ⟨i, rfl⟩
  | none => simp [Program.cellsOf, hi] at h

theorem run_sizeOf' {t : TypeId} (h : P.cellsOf t ≠ 0) (w : World) : (sizeOf t).run P w = .ok (P.cellsOf t) w := by
  obtain ⟨i, hi⟩ := info_of_cells h
  simp [sizeOf, typeInfo, hi, Program.cellsOf]

theorem run_sizeOf_some {t : TypeId} (h : (P.info? t).isSome = true) (w : World) : (sizeOf t).run P w = .ok (P.cellsOf t) w := by
  obtain ⟨i, hi⟩ := Option.isSome_iff_exists.1 h
  simp [sizeOf, typeInfo, hi, Program.cellsOf]

theorem run_isAgg' {t : TypeId} {b : Bool} (h : isAggT P t = some b) (w : World) : (isAgg t).run P w = .ok b w := by
  unfold isAggT at h
  cases hu : P.underlying t with
  | none => simp [hu] at h
  | some d => cases d <;> simp [hu] at h <;> simp [isAgg, run_underlying hu, ← h]

theorem add_spot (b o j : Nat) : (⟨b, o, none⟩ : Addr).add j = ⟨b, o + j, none⟩ := by unfold Addr.add; split <;> simp_all

/-- Claims on cells are what the world holds. -/
theorem SRel.roAt (h : SRel Γ G s w) {b off : Nat} {vs : List Value} (k : RoAt G b off vs) : ∀ (j : Nat) (u : Value), vs[j]? = some u → w.cell? ((⟨b, off, none⟩ : Addr).add j) = some u := by
  intro j u hj
  rw [add_spot]
  exact h.ro _ _ _ (k j u hj)

theorem run_loadVar' {t : TypeId} {b off : Nat} {cs : List AV} {vs : List Value} {r : AV} (hl : aload P t cs = some r) (hz : P.cellsOf t ≠ 0) (hv : VRels G cs vs)
    (hc : ∀ (j : Nat) (u : Value), vs[j]? = some u → w.cell? ((⟨b, off, none⟩ : Addr).add j) = some u) :
    ∃ v, (loadVar t ⟨b, off, none⟩).run P w = .ok v w ∧ VRel G r v := by
  unfold aload at hl
  cases hA : isAggT P t with
  | none => simp [hA] at hl
  | some b0 =>
    cases b0 with
    | true =>
      simp only [hA] at hl
      split at hl
      · rename_i hle
        simp at hl
        subst hl
        have hlen := hv.length
        refine ⟨.agg (vs.take (P.cellsOf t)).toArray, ?_, by simp only [VRel]; exact ⟨_, rfl, hv.take _⟩⟩
        simp only [loadVar, Sem.run_bind, run_isAgg' hA, Result.andThen_ok, if_true, run_sizeOf' hz]
        have := run_loadCells_list (P := P) w ⟨b, off, none⟩ (vs.take (P.cellsOf t)) (fun j u hj => hc j u (by
          rw [List.getElem?_take] at hj
          split at hj
          · exact hj
          · cases hj))
        have hl2 : (vs.take (P.cellsOf t)).length = P.cellsOf t := by simp; omega
        rw [hl2] at this
        simp [this]
      · cases hl
    | false =>
      simp only [hA] at hl
      obtain ⟨u, h1, h2⟩ := hv.get 0 r hl
      refine ⟨u, ?_, h2⟩
      have := hc 0 u h1
      simp only [Addr.add_zero'] at this
      simp [loadVar, run_isAgg' hA, this]

theorem VRels_of_cells {r : AV} {v : Value} (h : VRel G r v) : VRels G r.cells v.cells.toList := by
  cases r with
  | agg cs =>
    simp only [VRel] at h
    obtain ⟨vs, rfl, h2⟩ := h
    simpa [AV.cells, Value.cells] using h2
  | v x =>
    simp only [VRel] at h
    subst h
    cases v <;> first
      | (simp only [AV.cells, Value.cells, VRels]; exact ⟨_, [], rfl, by simp [VRel], rfl⟩)
      | (simp only [AV.cells, Value.cells]; exact VRels.vals _)
  | sl sz n cs sp =>
    have h' := h
    simp only [VRel] at h'
    rcases h' with ⟨b, off, cap, vs, rfl, _⟩ | ⟨rfl, rfl, a, cap, rfl, _⟩ | ⟨rfl, rfl, rfl, rfl⟩ <;>
      (simp only [AV.cells, Value.cells, VRels]; exact ⟨_, [], rfl, h, rfl⟩)
  | rop cs =>
    have h' := h
    simp only [VRel] at h'
    obtain ⟨b, off, vs, rfl, _⟩ := h'
    simp only [AV.cells, Value.cells, VRels]
    exact ⟨_, [], rfl, h, rfl⟩
  | ptr o off =>
    have h' := h
    simp only [VRel] at h'
    obtain ⟨b, _, rfl⟩ := h'
    simp only [AV.cells, Value.cells, VRels]
    exact ⟨_, [], rfl, h, rfl⟩
  | osl o off sz n cap =>
    have h' := h
    simp only [VRel] at h'
    obtain ⟨b, _, rfl, _⟩ := h'
    simp only [AV.cells, Value.cells, VRels]
    exact ⟨_, [], rfl, h, rfl⟩
  | tup cs =>
    have h' := h
    simp only [VRel] at h'
    obtain ⟨vs, rfl, _⟩ := h'
    simp only [AV.cells, Value.cells, VRels]
    exact ⟨_, [], rfl, h, rfl⟩
  | clo f cs =>
    have h' := h
    simp only [VRel] at h'
    obtain ⟨vs, rfl, _⟩ := h'
    simp only [AV.cells, Value.cells, VRels]
    exact ⟨_, [], rfl, h, rfl⟩

theorem run_part' {t : TypeId} {cs : List AV} {vs : List Value} {off : Nat} {r : AV} (h : apart P t cs off = some r) (hz : P.cellsOf t ≠ 0) (hv : VRels G cs vs) :
    ∃ v, (part t vs.toArray off).run P w = .ok v w ∧ VRel G r v := by
  unfold apart at h
  cases hA : isAggT P t with
  | none => simp [hA] at h
  | some b0 =>
    cases b0 with
    | true =>
      simp only [hA] at h
      simp at h
      subst h
      refine ⟨.agg ((vs.drop off).take (P.cellsOf t)).toArray, ?_, by simp only [VRel]; exact ⟨_, rfl, (hv.drop _).take _⟩⟩
      simp only [part, Sem.run_bind, run_isAgg' hA, Result.andThen_ok, if_true, run_sizeOf' hz]
      simp [List.extract_eq_take_drop]
    | false =>
      simp only [hA] at h
      obtain ⟨u, h1, h2⟩ := hv.get off r h
      refine ⟨u, ?_, h2⟩
      simp [part, run_isAgg' hA, h1]

/-- Slots and world stay, one value comes out. -/
def Gives (Γ : Nat → List AV) (G : Gh) (s : AS) (r : AV) (R : Result Next) : Prop :=
  ∃ G' v w', R = .ok (.value v) w' ∧ G.le G' ∧ SRel Γ G' s w' ∧ VRel G' r v

theorem Gives.same {r : AV} {v : Value} {R : Result Next} (hs : SRel Γ G s w) (h1 : R = .ok (.value v) w) (h2 : VRel G r v) : Gives Γ G s r R :=
  ⟨G, v, w, h1, .refl G, hs, h2⟩

section binops

theorem run_intOp (op : BinOp) (k : IntKind) (a b : Int) (r : AV) (h : aint op k a b = some r) (T : TypeId) (hne : op ≠ .shl ∧ op ≠ .shr) :
    ∃ v, (binOp op T (.int k a) (.int k b)).run P w = .ok v w ∧ VRel G r v := by
  cases op <;> simp [aint] at h hne <;> first
    | (subst h; exact ⟨_, by simp [binOp, Op.intArith, Op.intBits, Op.intCmp]; rfl, by simp [VRel, iadd, isub, imul, iand, ior, ixor, iandnot]⟩)
    | (obtain ⟨h1, h2⟩ := h; subst h2; exact ⟨_, by simp [binOp, Op.intDiv, h1]; rfl, by simp [VRel, iquo, irem]⟩)

theorem run_shiftOp (op : BinOp) (k k' : IntKind) (a b : Int) (r : AV) (h : ashift op k a b = some r) (T : TypeId) :
    ∃ v, (binOp op T (.int k a) (.int k' b)).run P w = .ok v w ∧ VRel G r v := by
  unfold ashift at h
  split at h
  · cases h
  · rename_i hb
    cases op <;> simp at h <;>
      (subst h; exact ⟨_, by simp only [binOp, Op.shift]; rw [if_neg hb]; rfl, by simp [VRel, ishl, ishr]⟩)

end binops

theorem eqGuard_int (op : BinOp) (t : TypeId) (x y : Operand) (k k' : IntKind) (a b : Int) (w : World) : (eqGuard op t x y (.int k a) (.int k' b)).run P w = .ok () w := by
  cases op <;> simp [eqGuard]
theorem eqGuard_bool (op : BinOp) (t : TypeId) (x y : Operand) (a b : Bool) (w : World) : (eqGuard op t x y (.bool a) (.bool b)).run P w = .ok () w := by
  cases op <;> simp [eqGuard]
theorem eqGuard_string (op : BinOp) (t : TypeId) (x y : Operand) (a b : ByteArray) (w : World) : (eqGuard op t x y (.string a) (.string b)).run P w = .ok () w := by
  cases op <;> simp [eqGuard]
theorem eqGuard_slice (op : BinOp) (t : TypeId) (x y : Operand) (a b : Option Addr) (n c n' c' : Nat) (w : World) : (eqGuard op t x y (.slice a n c) (.slice b n' c')).run P w = .ok () w := by
  cases op <;> simp [eqGuard]
theorem eqGuard_pointer (op : BinOp) (t : TypeId) (x y : Operand) (a b : Option Addr) (w : World) : (eqGuard op t x y (.pointer a) (.pointer b)).run P w = .ok () w := by
  cases op <;> simp [eqGuard]

theorem run_strOp (op : BinOp) (x y : ByteArray) (r : AV) (h : astr op x y = some r) (T : TypeId) :
    ∃ v, (binOp op T (.string x) (.string y)).run P w = .ok v w ∧ VRel G r v := by
  cases op <;> simp [astr] at h
  case add =>
    obtain ⟨h1, h2⟩ := h
    subst h2
    refine ⟨_, ?_, by simp [VRel]; rfl⟩
    have : ¬ (((x.size + y.size : Nat) : Int) > IntKind.i64.max) := by
      have e : IntKind.i64.max = 9223372036854775807 := rfl
      rw [e]; push_cast; omega
    simp only [binOp, Op.stringOp]
    rw [if_neg this]
    rfl
  all_goals (subst h; exact ⟨_, by simp [binOp, Op.stringOp]; rfl, by simp [VRel]⟩)

theorem run_equal_of {T : TypeId} {x y : Value} {r : Result Bool} (h : ∀ d, (Op.equalIn (d + 1) T x y).run P w = r) : (Op.equal T x y).run P w = r := h 9999

theorem run_equal_slice {T : TypeId} (hT : isSliceT P T = true) (a b : Option Addr) (n c n' c' : Nat) (hab : a = none ∨ b = none) :
    (Op.equal T (.slice a n c) (.slice b n' c')).run P w = .ok (a.isNone && b.isNone) w := by
  unfold isSliceT at hT
  cases hu : P.underlying T with
  | none => simp [hu] at hT
  | some d =>
    cases d <;> simp [hu] at hT
    refine run_equal_of fun d => ?_
    rcases hab with rfl | rfl
    · cases b <;> simp [Op.equalIn, run_underlying hu]
    · cases a <;> simp [Op.equalIn, run_underlying hu]

theorem run_equal_ptr {T : TypeId} (hT : isPtrT P T = true) (a : Option Addr) :
    (Op.equal T (.pointer a) (.pointer none)).run P w = .ok a.isNone w := by
  unfold isPtrT at hT
  cases hu : P.underlying T with
  | none => simp [hu] at hT
  | some d =>
    cases d <;> simp [hu] at hT
    refine run_equal_of fun d => ?_
    cases a <;> simp [Op.equalIn, run_underlying hu]

theorem run_sliceNil {op : BinOp} {T : TypeId} {a b : Option Addr} {n c n' c' : Nat} {r : AV} {t : Bool} (hT : isSliceT P T = true) (h : anil op t = some r)
    (hab : a = none ∨ b = none) (ht : (a.isNone && b.isNone) = t) :
    ∃ v, (binOp op T (.slice a n c) (.slice b n' c')).run P w = .ok v w ∧ VRel G r v := by
  cases op <;> simp [anil] at h <;> subst h
  · exact ⟨.bool t, by simp [binOp, run_equal_slice hT a b n c n' c' hab, ht], by simp [VRel]⟩
  · exact ⟨.bool !t, by simp [binOp, run_equal_slice hT a b n c n' c' hab, ← ht], by simp [VRel]⟩

theorem run_ptrNil {op : BinOp} {T : TypeId} {a : Option Addr} {r : AV} {t : Bool} (hT : isPtrT P T = true) (h : anil op t = some r) (hab : a.isNone = t) :
    ∃ v, (binOp op T (.pointer a) (.pointer none)).run P w = .ok v w ∧ VRel G r v := by
  cases op <;> simp [anil] at h <;> subst h
  · exact ⟨.bool t, by simp [binOp, run_equal_ptr hT a, hab], by simp [VRel]⟩
  · exact ⟨.bool !t, by simp [binOp, run_equal_ptr hT a, hab], by simp [VRel]⟩

theorem run_abin {op : BinOp} {T : TypeId} {x y : AV} {u v : Value} {r : AV} (ox oy : Operand) (h : abin P op T x y = some r) (hx : VRel G x u) (hy : VRel G y v) :
    (eqGuard op T ox oy u v).run P w = .ok () w ∧ ∃ z, (binOp op T u v).run P w = .ok z w ∧ VRel G r z := by
  unfold abin at h
  split at h
  · rename_i k a k' b
    simp only [VRel] at hx hy
    subst hx hy
    refine ⟨eqGuard_int .., ?_⟩
    split at h
    · exact run_shiftOp _ _ _ _ _ _ h T
    · exact run_shiftOp _ _ _ _ _ _ h T
    · rename_i op h1 h2
      split at h
      · rename_i hk
        subst hk
        exact run_intOp _ _ _ _ _ h T ⟨h1, h2⟩
      · cases h
  · rename_i a b
    simp only [VRel] at hx hy
    subst hx hy
    refine ⟨eqGuard_bool .., ?_⟩
    unfold abool at h
    split at h
    · rename_i hu
      simp at h; subst h
      exact ⟨_, by simp only [binOp, Sem.run_bind, run_equal_of (P := P) (w := w) (T := T) (x := .bool a) (y := .bool b) (r := .ok (a == b) w) (fun d => by simp [Op.equalIn, run_underlying hu])]; rfl, by simp [VRel]⟩
    · rename_i hu
      simp at h; subst h
      exact ⟨_, by simp only [binOp, Sem.run_bind, run_equal_of (P := P) (w := w) (T := T) (x := .bool a) (y := .bool b) (r := .ok (a == b) w) (fun d => by simp [Op.equalIn, run_underlying hu])]; rfl, by simp [VRel]⟩
    · cases h
  · simp only [VRel] at hx hy
    subst hx hy
    exact ⟨eqGuard_string .., run_strOp _ _ _ _ h T⟩
  · simp only [VRel] at hx hy
    subst hx hy
    split at h
    · rename_i hT
      exact ⟨eqGuard_slice .., run_sliceNil hT h (.inl rfl) rfl⟩
    · cases h
  · simp only [VRel] at hx hy
    subst hy
    rcases hx with ⟨b, off, cap, vs, rfl, _⟩ | ⟨rfl, rfl, a, cap, rfl, _⟩ | ⟨rfl, rfl, rfl, rfl⟩
    · split at h
      · rename_i hT
        exact ⟨eqGuard_slice .., run_sliceNil hT.1 h (.inr rfl) rfl⟩
      · cases h
    · split at h
      · rename_i hT
        exact ⟨eqGuard_slice .., run_sliceNil hT.1 h (.inr rfl) rfl⟩
      · cases h
    · rw [if_neg (by simp [Sp.isAny])] at h
      cases h
  · simp only [VRel] at hx hy
    obtain ⟨b, _, rfl, _⟩ := hx
    subst hy
    split at h
    · rename_i hT
      exact ⟨eqGuard_slice .., run_sliceNil hT h (.inr rfl) rfl⟩
    · cases h
  · simp only [VRel] at hx hy
    subst hx hy
    split at h
    · rename_i hT
      exact ⟨eqGuard_pointer .., run_ptrNil hT h rfl⟩
    · cases h
  · simp only [VRel] at hx hy
    obtain ⟨b, _, rfl⟩ := hx
    subst hy
    split at h
    · rename_i hT
      exact ⟨eqGuard_pointer .., run_ptrNil hT h rfl⟩
    · cases h
  · cases h

theorem run_aun {op : UnOp} {x : AV} {u : Value} {r : AV} (h : aun op x = some r) (hx : VRel G x u) : ∃ z, (Op.unary op u).run P w = .ok z w ∧ VRel G r z := by
  unfold aun at h
  split at h
  · simp only [VRel] at hx; subst hx
    cases op <;> simp at h <;> subst h
    · exact ⟨_, by simp [Op.unary, Op.intArith]; rfl, by simp [VRel, ineg]⟩
    · exact ⟨_, by simp only [Op.unary, Op.intBits]; rfl, by simp [VRel, inot]⟩
  · simp only [VRel] at hx; subst hx
    cases op <;> simp at h
    subst h
    exact ⟨_, by simp [Op.unary]; rfl, by simp [VRel]⟩
  · cases h

theorem bytes_of_cells : ∀ {cs : List AV} {vs : List Value}, VRels G cs vs → cs.all isByte = true →
    ∃ xs : List Int, vs = xs.map (Value.int .u8) ∧ cs.map byteOf = xs.map (fun n => UInt8.ofNat n.toNat)
  | [], vs, h, _ => by simp only [VRels] at h; subst h; exact ⟨[], rfl, rfl⟩
  | c :: cs, vs, h, ha => by
    simp only [VRels] at h
    obtain ⟨u, us, rfl, h2, h3⟩ := h
    simp only [List.all_cons, Bool.and_eq_true] at ha
    obtain ⟨xs, rfl, h5⟩ := bytes_of_cells h3 ha.2
    have h1 := ha.1
    unfold isByte at h1
    split at h1
    · rename_i n
      simp only [VRel] at h2
      subst h2
      exact ⟨n :: xs, rfl, by simp [byteOf, h5]⟩
    · cases h1

theorem SRel.worldEq {w' : World} (h : SRel Γ G s w) (hc : ∀ b j, w'.cell? ⟨b, j, none⟩ = w.cell? ⟨b, j, none⟩)
    (hf : ∀ b j, ((∃ o, G.obj o = some b) ∨ (∃ t e r, G.tok t e = some (b, r))) → w.cell? ⟨b, j, none⟩ ≠ none → w'.frozen? ⟨b, j, none⟩ = w.frozen? ⟨b, j, none⟩)
    (hsz : w.heap.size = w'.heap.size) (hb : Below G.B w w') (hsoft : ∀ b c T lo hi, G.B ≤ b → w'.heap[b]? = some (.cells c T (lo, hi)) → lo = hi ∨ c.size ≤ lo) : SRel Γ G s w' where
  ro b j u hu := by rw [hc]; exact h.ro b j u hu
  objs o cs ho := by
    obtain ⟨b, vs, h1, h2, h3, h4⟩ := h.objs o cs ho
    refine ⟨b, vs, h1, h2, h3, fun j u hu => ?_⟩
    obtain ⟨k1, k2, k3⟩ := h4 j u hu
    exact ⟨by rw [hc]; exact k1, by rw [hf b j (.inl ⟨o, h1⟩) (by rw [k1]; simp)]; exact k2, k3⟩
  objLt o b hb := by rw [← hsz]; exact h.objLt o b hb
  inj := h.inj
  own t e he := by
    obtain ⟨b, st, en, h1, h2, h3, h4, h5, h6⟩ := h.own t e he
    refine ⟨b, st, en, h1, h2, h3, fun j hj hj' => ?_, h5, by omega⟩
    obtain ⟨⟨u, k1⟩, k2, k3⟩ := h4 j hj hj'
    exact ⟨⟨u, by rw [hc]; exact k1⟩, by rw [hf b j (.inr ⟨t, e, _, h1⟩) (by rw [k1]; simp)]; exact k2, k3⟩
  ownInj := h.ownInj
  ownLast := h.ownLast
  freshO := h.freshO
  freshT := h.freshT
  below := h.below.trans hb
  base := by have := h.base; omega
  glob := h.glob
  soft := hsoft

theorem cell_freeze (w : World) (a : Addr) (n b j : Nat) : (w.freeze a n).cell? ⟨b, j, none⟩ = w.cell? ⟨b, j, none⟩ := by
  unfold World.freeze
  split
  · rfl
  · simp only [World.cell?, Array.getElem?_modify]
    by_cases hb : a.block = b
    · simp only [hb, if_true]
      cases hh : w.heap[b]? with
      | none => simp
      | some x => cases x <;> simp
    · simp [hb]

theorem frozen_freeze_other (w : World) (a : Addr) (n b j : Nat) (h : a.block ≠ b) : (w.freeze a n).frozen? ⟨b, j, none⟩ = w.frozen? ⟨b, j, none⟩ := by
  unfold World.freeze
  split
  · rfl
  · simp only [World.frozen?, Array.getElem?_modify]
    rw [if_neg h]

/-- Freezing what lies just behind a new block's cells. -/
theorem frozen_freeze_end (w : World) (c : Array Value) (T : TypeId) (j : Nat) (hj : j < c.size) :
    ((w.alloc (.cells c T)).freeze ⟨w.heap.size, c.size, none⟩ 1).frozen? ⟨w.heap.size, j, none⟩ = false := by
  unfold World.freeze
  rw [if_neg (by omega)]
  simp only [World.frozen?, Array.getElem?_modify, if_true]
  have : (w.alloc (.cells c T)).heap[w.heap.size]? = some (.cells c T) := by
    show (w.heap.push _)[w.heap.size]? = _
    rw [Array.getElem?_push_size]
  rw [this]
  simp
  omega

theorem size_freeze (w : World) (a : Addr) (n : Nat) : (w.freeze a n).heap.size = w.heap.size := by
  unfold World.freeze; split <;> simp

theorem below_freeze {B : Nat} (w : World) (a : Addr) (n : Nat) (h : B ≤ a.block) : Below B w (w.freeze a n) := by
  unfold World.freeze
  split
  · exact Below.refl _ _
  · refine ⟨rfl, rfl, rfl, by simp, fun k hk => ?_⟩
    rw [Array.getElem?_modify, if_neg (by omega)]

theorem soft_freeze {B : Nat} {w : World} (h : ∀ b c T lo hi, B ≤ b → w.heap[b]? = some (.cells c T (lo, hi)) → lo = hi ∨ c.size ≤ lo) {b n : Nat} (hn : ∀ c T fr, w.heap[b]? = some (.cells c T fr) → c.size ≤ n) :
    ∀ b' c T lo hi, B ≤ b' → (w.freeze ⟨b, n, none⟩ 1).heap[b']? = some (.cells c T (lo, hi)) → lo = hi ∨ c.size ≤ lo := by
  intro b' c T lo hi hB hc
  unfold World.freeze at hc
  rw [if_neg (by omega)] at hc
  simp only [Array.getElem?_modify] at hc
  split at hc
  · rename_i hbb
    cases hh : w.heap[b']? with
    | none => simp [hh] at hc
    | some o =>
      simp only [hh, Option.map_some, Option.some.injEq] at hc
      cases o with
      | cells c' T' fr =>
        obtain ⟨lo', hi'⟩ := fr
        simp only [Obj.cells.injEq] at hc
        obtain ⟨rfl, rfl, h3⟩ := hc
        have h1 := h b' c' T' lo' hi' hB hh
        have h2 := hn c' T' _ (hbb ▸ hh)
        split at h3
        · simp only [Prod.mk.injEq] at h3
          obtain ⟨rfl, rfl⟩ := h3
          exact .inr h2
        · rename_i hne
          simp only [beq_iff_eq] at hne
          simp only [Prod.mk.injEq] at h3
          obtain ⟨rfl, rfl⟩ := h3
          have : c'.size ≤ lo' := h1.resolve_left hne
          exact .inr (by omega)
      | _ => cases hc
  · exact h b' c T lo hi hB hc

/-- The run-time's mark behind a new row changes nothing that the relation tells. -/
theorem SRel.markEnd (h : SRel Γ G s w) {b off : Nat} (hB : G.B ≤ b) : ∃ w', (markStringish ⟨b, off, none⟩).run P w = .ok () w' ∧ SRel Γ G s w' := by
  cases hh : w.heap[b]? with
  | none => exact ⟨w, by simp [markStringish, run_shape, World.shape?, hh], h⟩
  | some o =>
    cases o with
    | cells c T fr =>
      obtain ⟨lo, hi⟩ := fr
      refine ⟨w.freeze ⟨b, c.size, none⟩ 1, by simp [markStringish, run_shape, World.shape?, hh], ?_⟩
      have hs := h.soft b c T lo hi hB hh
      refine h.worldEq (fun b j => cell_freeze ..) (fun b' j _ hc => ?_) (size_freeze ..).symm (below_freeze _ _ _ hB) (soft_freeze h.soft (fun c' T' fr' h' => by rw [hh] at h'; cases h'; exact Nat.le_refl _))
      by_cases e : b = b'
      · subst e
        have hj : j < c.size := by
          rcases Nat.lt_or_ge j c.size with h' | h'
          · exact h'
          · exact absurd (by simp [World.cell?, hh, Array.getElem?_eq_none h']) hc
        unfold World.freeze
        rw [if_neg (by omega)]
        simp only [World.frozen?, Array.getElem?_modify, if_true, hh, Option.map_some]
        by_cases hl : lo = hi
        · subst hl
          simp only [beq_self_eq_true, if_true]
          rw [Bool.eq_iff_iff]
          simp only [Bool.and_eq_true, decide_eq_true_eq]
          omega
        · have : c.size ≤ lo := hs.resolve_left hl
          rw [if_neg (by simpa using hl)]
          rw [Bool.eq_iff_iff]
          simp only [Bool.and_eq_true, decide_eq_true_eq]
          omega
      · exact frozen_freeze_other _ _ _ _ _ e
    | _ => exact ⟨w, by simp [markStringish, run_shape, World.shape?, hh], h⟩

/-- A new block: its first cells are read-only, what lies behind them is the right's. -/
theorem SRel.newRoTok (h : SRel Γ G s w) (vs us : List Value) (T : TypeId) (t e : Nat) (ht : ∀ e', e ≤ e' → G.tok t e' = none) :
    ∃ G', G.le G' ∧ SRel Γ G' (s.gain t e) (w.alloc (.cells (vs ++ us).toArray T)) ∧ RoAt G' w.heap.size 0 vs ∧ G'.tok t e = some (w.heap.size, vs.length, (vs ++ us).length) ∧ (∀ o, G'.obj o = G.obj o) ∧ G.B = G'.B := by
  obtain ⟨hle, hS⟩ := h.newRo vs (vs ++ us).toArray T (fun j u hu => by
    have : j < vs.length := by
      rcases Nat.lt_or_ge j vs.length with h | h
      · exact h
      · simp [List.getElem?_eq_none h] at hu
    simp [List.getElem?_append_left this, hu])
  have hg := hS.gain (t := t) (e := e) (b := w.heap.size) (st := vs.length) (en := (vs ++ us).length) (ht e (Nat.le_refl _)) (fun e' he' => ht e' (by omega)) (by simp) h.base
    (fun j hj hj' => by
      refine ⟨⟨(vs ++ us)[j]'hj', by rw [World.cell?_alloc_new]; simp⟩, World.frozen?_alloc_new .., ?_⟩
      simp only [Gh.addRo]
      rw [if_neg (by omega)]
      exact not_ro_new h j)
    (fun o ho => absurd (h.objLt o _ ho) (Nat.lt_irrefl _)) (by simp)
    (fun t' e' st' en' hne ho hk => by
      obtain ⟨b1, st1, en1, k1, _, _, _, _, k6⟩ := h.own t' e' ho
      have : G.tok t' e' = some (w.heap.size, st', en') := hk
      rw [k1] at this
      simp at this
      omega)
  exact ⟨_, hle.trans hg.1, hg.2, (RoAt.added G w.heap.size 0 vs).mono hg.1, by simp [Gh.addTok], fun _ => rfl, rfl⟩

/-- Bytes as they lie in memory. -/
def bvals (l : List UInt8) : List Value := l.map fun b => Value.int .u8 b.toNat
def zvals (n : Nat) : List Value := List.replicate n (Value.int .u8 0)
theorem VRels_bytes (l : List UInt8) : VRels G (l.map byteV) (bvals l) := by
  unfold bvals
  induction l with
  | nil => simp [VRels]
  | cons b l ih => simp only [List.map_cons, VRels]; exact ⟨_, _, rfl, by simp [byteV, VRel], ih⟩

theorem cut_appendCap (need old : Nat) (e : TypeId) (x : Nat) : need ≤ (Question.appendCap need old e).cut x := by simp [Question.cut]

/-- The bytes of a string, in new memory. -/
theorem run_stringToBytes (e : TypeId) (b : ByteArray) (w : World) : ∃ cap : Nat, b.size ≤ cap ∧
    (Conv.stringToBytes e b).run P w = .ok (.slice (some ⟨w.heap.size, 0, none⟩) b.size cap)
      ((w.drew.alloc (.cells (bvals b.data.toList ++ zvals (cap - b.size)).toArray e)).freeze ⟨w.heap.size, cap, none⟩ 1) := by
  refine ⟨_, cut_appendCap b.size 0 e (w.tape w.drawn (.appendCap b.size 0 e)), ?_⟩
  generalize hcap : (Question.appendCap b.size 0 e).cut (w.tape w.drawn (.appendCap b.size 0 e)) = cap
  have hle : b.size ≤ cap := by rw [← hcap]; exact cut_appendCap ..
  have hf : (Question.appendCap b.size 0 e).forced = false := rfl
  have harr : (b.data.map fun b => Value.int .u8 b.toNat) ++ Array.replicate (cap - b.size) (Value.int .u8 0) = (bvals b.data.toList ++ zvals (cap - b.size)).toArray := by
    apply Array.ext'
    simp [bvals, zvals]
  have hsz : (bvals b.data.toList ++ zvals (cap - b.size)).toArray.size = cap := by
    have : b.data.size = b.size := rfl
    simp [bvals, zvals]
    omega
  have hshape : (World.alloc w.drew (.cells (bvals b.data.toList ++ zvals (cap - b.size)).toArray e)).shape? w.heap.size = some (e, cap) := by
    have : (World.alloc w.drew (.cells (bvals b.data.toList ++ zvals (cap - b.size)).toArray e)).heap[w.heap.size]? = some (.cells (bvals b.data.toList ++ zvals (cap - b.size)).toArray e) := by
      show (w.heap.push _)[w.heap.size]? = _
      rw [Array.getElem?_push_size]
    simp only [World.shape?, this]
    rw [hsz]
  simp only [Conv.stringToBytes, Sem.run_bind, run_choose, hf, Bool.false_eq_true, if_false, Result.andThen_ok, hcap, newRow, run_newObj_alloc, Sem.run_pure, harr, markStringish, run_shape, World.drew_eq]
  rw [show w.drew.heap.size = w.heap.size from rfl, hshape]
  simp

theorem SRel.stringToBytes (h : SRel Γ G s w) (e : TypeId) (l : List UInt8) (k cap : Nat) (hk : l.length + k = cap) (t g : Nat) (ht : ∀ e', g ≤ e' → G.tok t e' = none) :
    ∃ G', G.le G' ∧ SRel Γ G' (s.gain t g) ((w.drew.alloc (.cells (bvals l ++ zvals k).toArray e)).freeze ⟨w.heap.size, cap, none⟩ 1) ∧ RoAt G' w.heap.size 0 (bvals l) ∧ G'.tok t g = some (w.heap.size, l.length, cap) := by
  obtain ⟨G', h1, h2, h3, h4, h5, h6⟩ := h.drew.newRoTok (bvals l) (zvals k) e t g ht
  have hsz : (bvals l ++ zvals k).toArray.size = cap := by simp [bvals, zvals]; omega
  have hcell : ∀ c T fr, (w.drew.alloc (.cells (bvals l ++ zvals k).toArray e)).heap[w.heap.size]? = some (.cells c T fr) → c.size ≤ cap := by
    intro c T fr hc
    have : (w.drew.alloc (.cells (bvals l ++ zvals k).toArray e)).heap[w.heap.size]? = some (.cells (bvals l ++ zvals k).toArray e) := by
      show (w.drew.heap.push _)[w.drew.heap.size]? = _
      rw [Array.getElem?_push_size]
    rw [this] at hc
    cases hc
    omega
  refine ⟨G', h1, h2.worldEq (fun b j => cell_freeze ..) (fun b j hb hc => ?_) (size_freeze ..).symm (below_freeze _ _ _ (by rw [← h6]; exact h.base)) (soft_freeze h2.soft hcell), h3, ?_⟩
  · by_cases e' : w.heap.size = b
    · subst e'
      have hj : j < (bvals l ++ zvals k).toArray.size := by
        rcases Nat.lt_or_ge j (bvals l ++ zvals k).toArray.size with h | h
        · exact h
        · exact absurd (by
            have := World.cell?_alloc_new w.drew (bvals l ++ zvals k).toArray e j
            rw [show w.drew.heap.size = w.heap.size from rfl] at this
            rw [this, Array.getElem?_eq_none h]) hc
      have := frozen_freeze_end w.drew (bvals l ++ zvals k).toArray e j hj
      rw [hsz] at this
      have k2 := World.frozen?_alloc_new w.drew (bvals l ++ zvals k).toArray e j
      rw [show w.drew.heap.size = w.heap.size from rfl] at this k2
      rw [this, k2]
    · exact frozen_freeze_other _ _ _ _ _ e'
  · rw [h4]
    simp [bvals, zvals, hk]

theorem toBytes_eq (cs : List AV) : toBytes cs = ⟨(cs.map byteOf).toArray⟩ := rfl

theorem run_aconv {src dst : TypeId} {x r : AV} {u : Value} (h : aconv P src dst x = some r) (hx : VRel G x u) (hs : SRel Γ G s w) :
    ∃ G' v w', (convert src dst u).run P w = .ok v w' ∧ G.le G' ∧ SRel Γ G' s w' ∧ VRel G' r v := by
  unfold aconv at h
  split at h
  · rename_i k k' hu1 hu2
    simp only [VRel] at hx; subst hx
    cases h
    exact ⟨G, _, w, by simp [convert, run_underlying hu1, run_underlying hu2, Conv.intToInt]; rfl, .refl G, hs, by simp [VRel, iconv]⟩
  · rename_i hu1 hu2
    simp only [VRel] at hx; subst hx
    cases h
    exact ⟨G, _, w, by simp [convert, run_underlying hu1, run_underlying hu2]; rfl, .refl G, hs, by simp [VRel]⟩
  · rename_i e sz n cs sp hu1 hu2
    simp only [VRel] at hx
    rcases hx with ⟨b, off, cap, vs, rfl, hl, _, hv, hro, _⟩ | ⟨rfl, rfl, a, cap, rfl, _⟩ | ⟨rfl, rfl, rfl, rfl⟩
    case inr.inl =>
      split at h
      · rename_i he
        split at h
        · cases h
          refine ⟨G, .string (toBytes []), w, ?_, .refl G, hs, by simp only [VRel]⟩
          rw [run_convert_bytes_string w src dst e (some a) 0 cap hu1 he hu2]
          have hl : (loadCells a 0).run P w = .ok #[] w := run_loadCells_list (P := P) w a [] (by simp)
          simp [Conv.bytesToString, hl, toBytes]
          rfl
        · cases h
      · cases h
    case inr.inr =>
      split at h
      · rename_i he
        split at h
        · cases h
          exact ⟨G, _, w, run_convert_bytes_nil w src e hu1 he _ _ dst hu2, .refl G, hs, by simp only [VRel]; rfl⟩
        · cases h
      · cases h
    split at h
    · rename_i he
      split at h
      · rename_i hc
        obtain ⟨rfl, hall⟩ := hc
        cases h
        obtain ⟨xs, rfl, hb⟩ := bytes_of_cells hv hall
        have hlen := hv.length
        refine ⟨G, _, w, run_convert_bytes_arg w src e hu1 he b off n cap xs (by simp at hlen; omega) (fun i hi => ?_) dst hu2, .refl G, hs, ?_⟩
        · have hi' : i < xs.length := by simp at hlen; omega
          exact hs.ro _ _ _ (hro i _ (by simp [hi', List.getD]))
        · simp only [VRel, strOfNums, toBytes, hb]
      · cases h
    · cases h
  · rename_i e _ _ hu1 hu2
    simp only [VRel] at hx; subst hx
    split at h
    · rename_i he
      cases h
      exact ⟨G, _, w, run_convert_bytes_nil w src e hu1 he _ _ dst hu2, .refl G, hs, by simp only [VRel]⟩
    · cases h
  · rename_i e b hu1 hu2
    simp only [VRel] at hx; subst hx
    split at h
    · rename_i he
      cases h
      obtain ⟨cap, hle, hrun⟩ := run_stringToBytes (P := P) e b w
      obtain ⟨G', h1, h2, h3, _⟩ := hs.stringToBytes e b.data.toList (cap - b.size) cap (by have : b.data.size = b.size := rfl; simp; omega) G.nt 0 (fun e' _ => hs.freshT _ (Nat.le_refl _) e')
      refine ⟨G', .slice (some ⟨w.heap.size, 0, none⟩) b.size cap, _, ?_, h1, h2.mono ⟨fun _ _ h => h, fun t e he => ?_⟩, ?_⟩
      · have : (convert src dst (.string b)).run P w = (Conv.stringToBytes e b).run P w := by
          simp [convert, run_underlying hu1, run_underlying hu2, run_underlying he]
        rw [this, hrun]
      · have : t ≠ G.nt := fun e' => by subst e'; rw [hs.own_isNone (Nat.le_refl _)] at he; cases he
        simpa [AS.gain, upd, this] using he
      · simp only [VRel]
        exact .inl ⟨w.heap.size, 0, cap, bvals b.data.toList, rfl, by have : b.data.size = b.size := rfl; simp [this], hle, VRels_bytes _, h3, trivial⟩
    · cases h
  · rename_i e0 e sz n cs hu1 hu2
    simp only [VRel] at hx
    rcases hx with ⟨b, off, cap, vs, rfl, hl, hn, hv, hro, hcap, hB⟩ | ⟨_, _, a, cap, _, hm⟩ | ⟨_, _, hm, _⟩
    case inr.inl => rcases hm with hm | hm | ⟨hm, _⟩ <;> cases hm
    case inr.inr => cases hm
    split at h
    · rename_i he
      split at h
      · rename_i hsd
        subst hsd
        rw [hu1] at hu2
        cases hu2
        cases h
        obtain ⟨w', q1, q2⟩ := hs.markEnd (P := P) (b := b) (off := off) hB
        refine ⟨G, .slice (some ⟨b, off, none⟩) n cap, w', ?_, .refl G, q2, ?_⟩
        · simp [convert, run_underlying hu1, run_underlying he, q1]
        · simp only [VRel]
          exact .inl ⟨b, off, cap, vs, rfl, hl, hn, hv, hro, hcap, hB⟩
      · cases h
    · cases h
  · cases h

end Go.AM
