/- An abstract machine for the model: abstract values, their relation to worlds, and the rules of its walk, each proved sound over the model; no condition. -/
import Derived.Test.YtpakgjmcaefnmaaAM5
set_option linter.unusedSimpArgs false
set_option linter.unusedVariables false
set_option autoImplicit false
namespace Go.AM
open Go Go.RowKit

variable {P : Program} {Γ : Nat → List AV} {G : Gh} {s : AS} {w : World}

def vsetAll (cells : List Value) (off : Nat) : List Value → List Value
  | [] => cells
  | x :: xs => vsetAll (cells.set off x) (off + 1) xs

theorem length_vsetAll : ∀ (xs cells : List Value) (off : Nat), (vsetAll cells off xs).length = cells.length
  | [], _, _ => rfl
  | x :: xs, cells, off => by simp [vsetAll, length_vsetAll xs]

theorem length_asetAll : ∀ (xs cells : List AV) (off : Nat), (asetAll cells off xs).length = cells.length
  | [], _, _ => rfl
  | x :: xs, cells, off => by simp [asetAll, length_asetAll xs]

theorem foldl_set : ∀ (us : List Value) (cells : Array Value) (off k : Nat),
    (us.zipIdx k).foldl (fun cs (p : Value × Nat) => cs.setIfInBounds (off + p.2) p.1) cells = (vsetAll cells.toList (off + k) us).toArray
  | [], cells, off, k => by simp [vsetAll]
  | u :: us, cells, off, k => by
    simp only [List.zipIdx_cons, List.foldl_cons, vsetAll]
    rw [foldl_set us]
    simp [Nat.add_assoc]

theorem VRels.setAll : ∀ {ds : List AV} {us : List Value} {cs : List AV} {vs : List Value} (off : Nat), VRels G cs vs → VRels G ds us → VRels G (asetAll cs off ds) (vsetAll vs off us)
  | [], us, cs, vs, off, h, k => by simp only [VRels] at k; subst k; simpa [asetAll, vsetAll] using h
  | d :: ds, us, cs, vs, off, h, k => by
    simp only [VRels] at k
    obtain ⟨u, us', rfl, h2, h3⟩ := k
    simp only [asetAll, vsetAll]
    exact VRels.setAll (off + 1) (h.set off h2) h3

/-- Parts, each with its place's number. -/
inductive PartsRel (G : Gh) : List (Nat × AV) → List (Nat × Value) → Prop
  | nil : PartsRel G [] []
  | cons (i : Nat) {a : AV} {v : Value} {as : List (Nat × AV)} {vs : List (Nat × Value)} : VRel G a v → PartsRel G as vs → PartsRel G ((i, a) :: as) ((i, v) :: vs)

theorem PartsRel.of_map {ρ : Operand → AV} {ρ' : Operand → Value} (h : ∀ x, VRel G (ρ x) (ρ' x)) : ∀ (l : List (Nat × Operand)), PartsRel G (l.map fun p => (p.1, ρ p.2)) (l.map fun p => (p.1, ρ' p.2))
  | [] => .nil
  | (i, x) :: l => .cons _ (h x) (PartsRel.of_map h l)

theorem afill_sound (place : Nat → Option (Nat × Nat)) : ∀ {ps : List (Nat × AV)} {qs : List (Nat × Value)} {cs cs' : List AV} {vs : List Value}, afill place cs ps = some cs' → PartsRel G ps qs → VRels G cs vs →
    ∃ vs' : List Value, Instr.fill place vs.toArray qs = some vs'.toArray ∧ VRels G cs' vs'
  | [], qs, cs, cs', vs, h, hp, hv => by
    cases hp
    simp [afill] at h
    subst h
    exact ⟨vs, by simp [Instr.fill], hv⟩
  | (_, a) :: ps, qs, cs, cs', vs, h, hp, hv => by
    cases hp with
    | cons _ ha hp =>
      rename_i v qs
      unfold afill at h
      split at h
      · cases h
      · rename_i off size hpl
        split at h
        · cases h
        · rename_i hc
          have hcells := VRels_of_cells ha
          have hl1 := hcells.length
          have hl2 := hv.length
          have hl3 : v.cells.toList.length = v.cells.size := by simp
          obtain ⟨vs', h1, h2⟩ := afill_sound place h hp (hv.setAll off hcells)
          refine ⟨vs', ?_, h2⟩
          simp only [Instr.fill, hpl]
          rw [if_neg]
          · rw [← h1]
            congr 1
            have := foldl_set v.cells.toList vs.toArray off 0
            rw [← Array.foldl_toList, Array.toList_zipIdx]
            exact this
          · simp only [not_or, Nat.not_lt, ne_eq, Classical.not_not, Bool.or_eq_true, decide_eq_true_eq] at hc ⊢
            refine ⟨by omega, ?_⟩
            simp only [List.size_toArray]
            omega

theorem zcells_some {t : TypeId} {z : List AV} (h : zcells P t = some z) : ∃ v, (∀ w, (zeroValue t).run P w = .ok v w) ∧ z = v.cells.toList.map .v := by
  unfold zcells at h
  cases hi : P.info? t with
  | none => simp [hi] at h
  | some i =>
    simp [hi] at h
    obtain ⟨v, h1, h2⟩ := h
    exact ⟨v, fun w => by simp [zeroValue, typeInfo, hi, h1], h2.symm⟩

theorem run_mapM_fields (fs : Array Field) (hall : fs.all (fun f => (P.info? f.type).isSome) = true) (w : World) :
    (fs.mapM fun f => (do pure (f.offset, ← sizeOf f.type) : Sem (Nat × Nat))).run P w = .ok (fs.map fun f => (f.offset, P.cellsOf f.type)) w := by
  have key : ∀ (l : List Field), (∀ f ∈ l, (P.info? f.type).isSome = true) → (l.mapM fun f => (do pure (f.offset, ← sizeOf f.type) : Sem (Nat × Nat))).run P w = .ok (l.map fun f => (f.offset, P.cellsOf f.type)) w := by
    intro l
    induction l with
    | nil => intro _; simp
    | cons f l ih =>
      intro hl
      simp only [List.mapM_cons, Sem.run_bind, run_sizeOf_some (hl f (by simp)), Result.andThen_ok, Sem.run_pure, ih (fun g hg => hl g (by simp [hg]))]
      simp
  rw [Array.mapM_eq_mapM_toList]
  simp only [Sem.run_map]
  rw [key fs.toList (fun f hf => by
    rw [Array.all_eq_true_iff_forall_mem] at hall
    exact hall f (by simpa using hf))]
  simp only [Result.andThen_ok]
  congr 1
  apply Array.ext'
  simp

theorem run_build {T : TypeId} {parts : List (Nat × AV)} {qs : Array (Nat × Value)} {r : AV}
    (h : (match P.underlying T, zcells P T with
      | some (.struct _), some z =>
        if fieldsOk P T = true then (afill (placeOf P T) z parts).map .agg else none
      | some (.array _ e), some z => if P.cellsOf e = 0 then none else (afill (fun i => some (i * P.cellsOf e, P.cellsOf e)) z parts).map .agg
      | _, _ => none) = some r) (hp : PartsRel G parts qs.toList) :
    ∃ v, (Instr.build T qs).run P w = .ok v w ∧ VRel G r v := by
  split at h
  · rename_i fs z hu hz
    obtain ⟨v, hv, rfl⟩ := zcells_some hz
    split at h
    · rename_i hall
      have hall : fs.all (fun f => (P.info? f.type).isSome) = true := by simpa [fieldsOk, hu] using hall
      have hplace : placeOf P T = fun (i : Nat) => (fs[i]?).map fun (f : Field) => (f.offset, P.cellsOf f.type) := by
        funext i
        simp only [placeOf, fieldOf, hu]
        cases fs[i]? <;> rfl
      rw [hplace] at h
      simp only [Option.map_eq_some_iff] at h
      obtain ⟨cs, h1, rfl⟩ := h
      obtain ⟨vs, h2, h3⟩ := afill_sound _ h1 hp (VRels.vals (G := G) v.cells.toList)
      refine ⟨.agg vs.toArray, ?_, by simp only [VRel]; exact ⟨vs, rfl, h3⟩⟩
      have e : (fun (i : Nat) => (fs.map fun (f : Field) => (f.offset, P.cellsOf f.type))[i]?) = fun (i : Nat) => (fs[i]?).map fun (f : Field) => (f.offset, P.cellsOf f.type) := by
        funext i; simp
      simp only [Instr.build, Sem.run_bind, hv, Result.andThen_ok, run_underlying hu, run_mapM_fields fs hall]
      simp only [Array.toArray_toList] at h2
      simp only [e, h2]
      rfl
    · cases h
  · rename_i n e z hu hz
    obtain ⟨v, hv, rfl⟩ := zcells_some hz
    split at h
    · cases h
    · rename_i hne
      simp only [Option.map_eq_some_iff] at h
      obtain ⟨cs, h1, rfl⟩ := h
      obtain ⟨vs, h2, h3⟩ := afill_sound _ h1 hp (VRels.vals (G := G) v.cells.toList)
      refine ⟨.agg vs.toArray, ?_, by simp only [VRel]; exact ⟨vs, rfl, h3⟩⟩
      simp only [Array.toArray_toList] at h2
      simp [Instr.build, hv, run_underlying hu, run_sizeOf' hne, h2]
  · cases h

theorem VRels_zrow {z : List Value} (n : Nat) (hz : z ≠ []) : VRels G (zrow n (z.map .v)) ((List.range n).map fun i => z.toArray[i % z.toArray.size]!) := by
  have key : ∀ (l : List Nat), VRels G (l.map fun i => (z.map AV.v).getD (i % (z.map AV.v).length) (.v default)) (l.map fun i => z.toArray[i % z.toArray.size]!) := by
    intro l
    induction l with
    | nil => simp [VRels]
    | cons i l ih =>
      simp only [List.map_cons, VRels]
      refine ⟨_, _, rfl, ?_, ih⟩
      have hlt : i % z.length < z.length := Nat.mod_lt _ (List.length_pos_iff.2 hz)
      simp [VRel, hlt, List.getD]
  exact key _

theorem run_buildSlice' (hs : SRel Γ G s w) {T : TypeId} {len : Nat} {parts : List (Nat × AV)} {qs : Array (Nat × Value)} {r : AV}
    (h : (match P.underlying T with
      | some (.slice e) =>
        match zcells P e with
        | some z =>
          if P.cellsOf e = 0 ∨ len * P.cellsOf e > 2 ^ 24 ∨ z.length ≠ P.cellsOf e then none else
          (afill (fun i => some (i * P.cellsOf e, P.cellsOf e)) (zrow (len * P.cellsOf e) z) parts).map fun cs => .sl (P.cellsOf e) len cs .new
        | none => none
      | _ => none) = some r) (hp : PartsRel G parts qs.toList) :
    ∃ G' v w', (Instr.buildSlice T len qs).run P w = .ok v w' ∧ G.le G' ∧ SRel Γ G' s w' ∧ VRel G' r v := by
  split at h
  · rename_i e hu
    split at h
    · rename_i z hz
      obtain ⟨v, hv, rfl⟩ := zcells_some hz
      split at h
      · cases h
      · rename_i hc
        simp only [not_or, ne_eq, Classical.not_not, Nat.not_lt, gt_iff_lt] at hc
        obtain ⟨c1, c2, c3⟩ := hc
        simp only [Option.map_eq_some_iff] at h
        obtain ⟨cs, h1, rfl⟩ := h
        have hne : v.cells.toList ≠ [] := by
          intro e'
          rw [e'] at c3
          simp at c3
          omega
        obtain ⟨vs, h2, h3⟩ := afill_sound (G := G) _ h1 hp (VRels_zrow (len * P.cellsOf e) hne)
        have hlen : cs.length = len * P.cellsOf e := by
          have : ∀ {place : Nat → Option (Nat × Nat)} {ps : List (Nat × AV)} {cs cs' : List AV}, afill place cs ps = some cs' → cs'.length = cs.length := by
            intro place ps
            induction ps with
            | nil => intro cs cs' h; simp [afill] at h; simp [h]
            | cons p ps ih =>
              obtain ⟨i, a⟩ := p
              intro cs cs' h
              unfold afill at h
              split at h
              · cases h
              · split at h
                · cases h
                · rw [ih h, length_asetAll]
          rw [this h1]
          simp [zrow]
        obtain ⟨hle, hS⟩ := hs.newRo vs vs.toArray e (fun j u hj => by simpa using hj)
        refine ⟨_, .slice (some ⟨w.heap.size, 0, none⟩) len len, _, ?_, hle, hS, ?_⟩
        · simp only [Instr.buildSlice, Sem.run_bind, run_underlying hu, Result.andThen_ok, run_sizeOf' c1]
          rw [if_neg (by omega)]
          by_cases h0 : len * P.cellsOf e = 0
          · have hcells : (Array.range (len * P.cellsOf e)).map (fun i => (#[] : Array Value)[i % (#[] : Array Value).size]!) = ((List.range (len * P.cellsOf e)).map fun i => v.cells.toList.toArray[i % v.cells.toList.toArray.size]!).toArray := by
              rw [h0]; simp
            rw [if_pos h0]
            simp only [Sem.run_bind, Sem.run_pure, Result.andThen_ok, hcells, h2]
            simp [newRow]
          · have hcells : (Array.range (len * P.cellsOf e)).map (fun i => v.cells[i % v.cells.size]!) = ((List.range (len * P.cellsOf e)).map fun i => v.cells.toList.toArray[i % v.cells.toList.toArray.size]!).toArray := by
              apply Array.ext'
              simp
            rw [if_neg h0]
            simp only [Sem.run_bind, hv, Sem.run_pure, Result.andThen_ok, hcells, h2]
            simp [newRow]
        · simp only [VRel]
          exact .inl ⟨w.heap.size, 0, len, vs, rfl, hlen, Nat.le_refl _, VRels.mono hle _ _ h3, RoAt.added G w.heap.size 0 vs, rfl, hs.base⟩
    · cases h
  · cases h

end Go.AM
