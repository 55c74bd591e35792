/- An abstract machine for the model: abstract values, their relation to worlds, and the rules of its walk, each proved sound over the model; no condition. -/
import Derived.Test.YtpakgjmcaefnmaaAM4
set_option linter.unusedSimpArgs false
set_option linter.unusedVariables false
set_option autoImplicit false
namespace Go.AM
open Go Go.RowKit

variable {P : Program} {Γ : Nat → List AV} {G : Gh} {s : AS} {w : World}

theorem slice_addr (b off l sz : Nat) (m : Nat) (hml : m = l ∨ m ≠ l) : (if m = l then (some ⟨b, off, none⟩ : Option Addr) else (some ⟨b, off, none⟩ : Option Addr).map (·.add (l * sz))) = some ⟨b, if m = l then off else off + l * sz, none⟩ := by
  rcases hml with h | h <;> simp [h, add_spot]

theorem run_aslice {T : TypeId} {x r : AV} {u : Value} {lo hi mx : Option AV} {lo' hi' mx' : Option Value} (h : aslice P T x lo hi mx = some r) (hx : VRel G x u)
    (hlo : OptRel G lo lo') (hhi : OptRel G hi hi') (hmx : OptRel G mx mx') :
    ∃ z, (Instr.sliceAt T u lo' hi' mx').run P w = .ok z w ∧ VRel G r z := by
  unfold aslice at h
  split at h
  · -- a read-only slice
    rename_i e sz n cs sp hu
    simp only [VRel] at hx
    rcases hx with ⟨b, off, cap, vs, rfl, hl, hnc, hv, hro, hsp⟩ | ⟨rfl, rfl, a, cap, rfl, hsp⟩ | ⟨rfl, rfl, rfl, rfl⟩
    case inr.inl =>
      split at h
      · rename_i l h' m o1 o2 o3
        split at h
        · rename_i hc
          obtain ⟨c0, c1, c2, c3, c4, c5, c6⟩ := hc
          have hl0 : l = 0 := by omega
          have hh0 : h' = 0 := by omega
          subst hl0 hh0
          cases h
          subst c5
          have q1 := optInt_some o1 hlo
          have q2 := optInt_some o2 hhi
          rw [sliceAt_slice hu]
          cases hmx with
          | none =>
            have hb := run_sliceBounds (P := P) (isSlice := true) (len := 0) (cap := cap) q1 q2 (Int.le_refl 0) (Int.le_refl 0) (by omega) w
            refine ⟨.slice (some a) 0 cap, ?_, ?_⟩
            · simp [Instr.slice, run_underlying hu, hb, run_sizeOf' c6, Addr.add]
            · simp only [VRel]
              refine .inr (.inl ⟨by simp, by simp, a, cap, rfl, ?_⟩)
              rcases hsp with rfl | rfl | ⟨rfl, rfl⟩ <;> simp
          | some hm =>
            rename_i ma mv
            have q3 := optInt_some o3 (OptRel.some hm)
            obtain ⟨k2, hk2⟩ : ∃ k, some mv = some (.int k m) := by
              rcases q3 with ⟨q, _⟩ | q
              · cases q
              · exact q
            have hm0 : m = 0 := by have := c3 rfl; omega
            subst hm0
            cases hk2
            have hi2 : ∃ k1, hi' = some (.int k1 0) := by
              rcases q2 with ⟨q, q'⟩ | q
              · subst q
                cases hhi
                exact absurd (c4 rfl) (by simp)
              · exact q
            obtain ⟨k1, rfl⟩ := hi2
            have hb := run_sliceBounds3 (P := P) (isSlice := true) (len := 0) (cap := cap) (k1 := k1) (k2 := k2) q1 (Int.le_refl 0) (Int.le_refl 0) (Int.le_refl 0) (by omega) w
            refine ⟨.slice (some a) 0 0, ?_, ?_⟩
            · simp [Instr.slice, run_underlying hu, hb, run_sizeOf' c6, Addr.add]
            · simp only [VRel]
              refine .inr (.inl ⟨by simp, by simp, a, 0, rfl, ?_⟩)
              rcases hsp with rfl | rfl | ⟨rfl, rfl⟩ <;> simp
        · cases h
      · cases h
    case inr.inr =>
      split at h
      · rename_i l h' m o1 o2 o3
        split at h
        · rename_i hc
          obtain ⟨c0, c1, c2, c3, c4, c5, c6⟩ := hc
          have hl0 : l = 0 := by omega
          have hh0 : h' = 0 := by omega
          subst hl0 hh0
          cases h
          subst c5
          have q1 := optInt_some o1 hlo
          have q2 := optInt_some o2 hhi
          rw [sliceAt_slice hu]
          refine ⟨.slice none 0 0, ?_, by simp only [VRel]; exact .inr (.inr ⟨by simp, by simp, by simp, by simp⟩)⟩
          cases hmx with
          | none =>
            have hb := run_sliceBounds (P := P) (isSlice := true) (len := 0) (cap := 0) q1 q2 (Int.le_refl 0) (Int.le_refl 0) (Int.le_refl 0) w
            simp [Instr.slice, run_underlying hu, hb, run_sizeOf' c6]
          | some hm =>
            rename_i ma mv
            have q3 := optInt_some o3 (OptRel.some hm)
            obtain ⟨k2, hk2⟩ : ∃ k, some mv = some (.int k m) := by
              rcases q3 with ⟨q, _⟩ | q
              · cases q
              · exact q
            have hm0 : m = 0 := by have := c3 rfl; omega
            subst hm0
            cases hk2
            have hi2 : ∃ k1, hi' = some (.int k1 0) := by
              rcases q2 with ⟨q, q'⟩ | q
              · subst q
                cases hhi
                exact absurd (c4 rfl) (by simp)
              · exact q
            obtain ⟨k1, rfl⟩ := hi2
            have hb := run_sliceBounds3 (P := P) (isSlice := true) (len := 0) (cap := 0) (k1 := k1) (k2 := k2) q1 (Int.le_refl 0) (Int.le_refl 0) (Int.le_refl 0) (Int.le_refl 0) w
            simp [Instr.slice, run_underlying hu, hb, run_sizeOf' c6]
        · cases h
      · cases h
    split at h
    · rename_i l h' m o1 o2 o3
      split at h
      · rename_i hc
        obtain ⟨c0, c1, c2, c3, c4, c5, c6⟩ := hc
        cases h
        subst c5
        have q1 := optInt_some o1 hlo
        have q2 := optInt_some o2 hhi
        have hlen := hv.length
        have hcl : ((cs.take (h'.toNat * P.cellsOf e)).drop (l.toNat * P.cellsOf e)).length = (h'.toNat - l.toNat) * P.cellsOf e := by
          have : h'.toNat * P.cellsOf e ≤ n * P.cellsOf e := Nat.mul_le_mul_right _ (by omega)
          simp only [List.length_drop, List.length_take, hl, Nat.sub_mul]
          omega
        have hle' : l.toNat ≤ h'.toNat := by omega
        rw [sliceAt_slice hu]
        cases hmx with
        | none =>
          have hb := run_sliceBounds (P := P) (isSlice := true) (len := n) (cap := cap) q1 q2 c0 c1 (by omega) w
          refine ⟨.slice (some ⟨b, if cap = l.toNat then off else off + l.toNat * P.cellsOf e, none⟩) (h'.toNat - l.toNat) (cap - l.toNat), ?_, ?_⟩
          · simp only [Instr.slice, Sem.run_bind, run_underlying hu, Result.andThen_ok, hb, run_sizeOf' c6, Sem.run_pure]
            rw [slice_addr _ _ _ _ _ (Decidable.em _)]
          · simp only [VRel]
            refine .inl ⟨b, _, _, (vs.take (h'.toNat * P.cellsOf e)).drop (l.toNat * P.cellsOf e), rfl, hcl, by omega, (hv.take _).drop _, ?_, ?_⟩
            · by_cases hcap : cap = l.toNat
              · rw [if_pos hcap]
                have : (vs.take (h'.toNat * P.cellsOf e)).drop (l.toNat * P.cellsOf e) = [] := by
                  apply List.drop_eq_nil_of_le
                  have : h'.toNat * P.cellsOf e ≤ l.toNat * P.cellsOf e := Nat.mul_le_mul_right _ (by omega)
                  simp only [List.length_take]; omega
                rw [this]
                intro j u hj; simp at hj
              · rw [if_neg hcap]; exact (hro.take _).drop _
            · simp only [Option.isSome_none, Bool.false_eq_true, if_false]
              by_cases hn : h' = (n : Int)
              · have hn' : h'.toNat = n := by omega
                cases sp with
                | no => exact True.intro
                | any => exact True.intro
                | full => simp only [if_pos hn]; simp only [SpRel] at hsp ⊢; omega
                | new => simp only [if_pos hn]; simp only [SpRel] at hsp ⊢; exact ⟨by omega, hsp.2⟩
                | own t g =>
                  simp only [if_pos hn]
                  by_cases hl0 : l = 0
                  · subst hl0
                    rw [if_pos rfl]
                    simp only [SpRel] at hsp ⊢
                    rw [hn', hsp]
                    by_cases hc0 : cap = (0 : Int).toNat <;> simp [hc0]
                  · rw [if_neg hl0]; exact True.intro
              · cases sp <;> first | exact True.intro | (simp only [if_neg hn]; exact True.intro)
        | some hm =>
          rename_i ma mv
          have q3 := optInt_some o3 (OptRel.some hm)
          have hhm : h' = m := c3 rfl
          subst hhm
          obtain ⟨k2, hk2⟩ : ∃ k, some mv = some (.int k h') := by
            rcases q3 with ⟨q, _⟩ | q
            · cases q
            · exact q
          cases hk2
          have hi2 : ∃ k1, hi' = some (.int k1 h') := by
            rcases q2 with ⟨q, q'⟩ | q
            · subst q
              cases hhi
              exact absurd (c4 rfl) (by simp)
            · exact q
          obtain ⟨k1, rfl⟩ := hi2
          have hb := run_sliceBounds3 (P := P) (isSlice := true) (len := n) (cap := cap) (k1 := k1) (k2 := k2) q1 c0 c1 (Int.le_refl h') (by omega) w
          refine ⟨.slice (some ⟨b, if h'.toNat = l.toNat then off else off + l.toNat * P.cellsOf e, none⟩) (h'.toNat - l.toNat) (h'.toNat - l.toNat), ?_, ?_⟩
          · simp only [Instr.slice, Sem.run_bind, run_underlying hu, Result.andThen_ok, hb, run_sizeOf' c6, Sem.run_pure]
            rw [slice_addr _ _ _ _ _ (Decidable.em _)]
          · simp only [VRel]
            refine .inl ⟨b, _, _, (vs.take (h'.toNat * P.cellsOf e)).drop (l.toNat * P.cellsOf e), rfl, hcl, by omega, (hv.take _).drop _, ?_, ?_⟩
            · by_cases hcap : h'.toNat = l.toNat
              · rw [if_pos hcap]
                have : (vs.take (h'.toNat * P.cellsOf e)).drop (l.toNat * P.cellsOf e) = [] := by
                  apply List.drop_eq_nil_of_le
                  simp only [List.length_take, hcap]; omega
                rw [this]
                intro j u hj; simp at hj
              · rw [if_neg hcap]; exact (hro.take _).drop _
            · cases sp <;> simp [SpRel]
      · cases h
    · cases h
  · -- nil
    rename_i e hu
    simp only [VRel] at hx
    subst hx
    split at h
    · rename_i l h' m o1 o2 o3
      split at h
      · rename_i hc
        obtain ⟨rfl, rfl, rfl, c6, c4⟩ := hc
        cases h
        have q1 := optInt_some o1 hlo
        have q2 := optInt_some o2 hhi
        rw [sliceAt_slice hu]
        refine ⟨.slice none 0 0, ?_, by simp [VRel]⟩
        cases hmx with
        | none =>
          have hb := run_sliceBounds (P := P) (isSlice := true) (len := 0) (cap := 0) q1 (by simpa using q2) (Int.le_refl 0) (Int.le_refl 0) (Int.le_refl 0) w
          simp [Instr.slice, run_underlying hu, hb, run_sizeOf' c6]
        | some hm =>
          rename_i ma mv
          have q3 := optInt_some o3 (OptRel.some hm)
          obtain ⟨k2, hk2⟩ : ∃ k, some mv = some (.int k 0) := by
            rcases q3 with ⟨q, _⟩ | q
            · cases q
            · exact q
          cases hk2
          have hi2 : ∃ k1, hi' = some (.int k1 0) := by
            rcases q2 with ⟨q, q'⟩ | q
            · subst q
              cases hhi
              exact absurd (c4 rfl) (by simp)
            · exact q
          obtain ⟨k1, rfl⟩ := hi2
          have hb := run_sliceBounds3 (P := P) (isSlice := true) (len := 0) (cap := 0) (k1 := k1) (k2 := k2) q1 (Int.le_refl 0) (Int.le_refl 0) (Int.le_refl 0) (Int.le_refl 0) w
          simp [Instr.slice, run_underlying hu, hb, run_sizeOf' c6]
      · cases h
    · cases h
  · -- a slice of an object
    rename_i e o off sz n cap hu
    simp only [VRel] at hx
    obtain ⟨b, ho, rfl, hnc⟩ := hx
    split at h
    · rename_i l h' o1 o2
      cases hmx
      split at h
      · rename_i hc
        obtain ⟨c0, c1, c2, rfl, c6⟩ := hc
        cases h
        have q1 := optInt_some o1 hlo
        have q2 := optInt_some o2 hhi
        rw [sliceAt_slice hu]
        have hb := run_sliceBounds (P := P) (isSlice := true) (len := n) (cap := cap) q1 q2 c0 c1 c2 w
        refine ⟨.slice (some ⟨b, if cap = l.toNat then off else off + l.toNat * P.cellsOf e, none⟩) (h'.toNat - l.toNat) (cap - l.toNat), ?_, ?_⟩
        · simp only [Instr.slice, Sem.run_bind, run_underlying hu, Result.andThen_ok, hb, run_sizeOf' c6, Sem.run_pure]
          rw [slice_addr _ _ _ _ _ (Decidable.em _)]
        · simp only [VRel]
          refine ⟨b, ho, ?_, by omega⟩
          by_cases hcap : cap = l.toNat
          · rw [if_pos hcap, if_pos (by omega)]
          · rw [if_neg hcap, if_neg (by omega)]
      · cases h
    · cases h
  · -- an array's address
    rename_i n e o off hu
    simp only [VRel] at hx
    obtain ⟨b, ho, rfl⟩ := hx
    split at h
    · rename_i l h' o1 o2
      cases hmx
      split at h
      · rename_i hc
        obtain ⟨c0, c1, c2, c6⟩ := hc
        cases h
        have q1 := optInt_some o1 hlo
        have q2 := optInt_some o2 hhi
        have hb := run_sliceBounds (P := P) (isSlice := false) (len := n) (cap := n) q1 q2 c0 c1 c2 w
        refine ⟨.slice (some ⟨b, if n = l.toNat then off else off + l.toNat * P.cellsOf e, none⟩) (h'.toNat - l.toNat) (n - l.toNat), ?_, ?_⟩
        · simp only [Instr.sliceAt, Sem.run_bind, run_underlying hu, Result.andThen_ok, Instr.sureAddr, Sem.run_pure, hb, run_sizeOf' c6]
          by_cases hcap : n = l.toNat
          · simp [hcap]
          · simp [hcap, add_spot]
        · simp only [VRel]
          refine ⟨b, ho, ?_, by omega⟩
          by_cases hcap : n = l.toNat
          · rw [if_pos hcap, if_pos (by omega)]
          · rw [if_neg hcap, if_neg (by omega)]
      · cases h
    · cases h
  · -- a string
    rename_i b hu
    simp only [VRel] at hx
    subst hx
    split at h
    · rename_i l h' o1 o2
      cases hmx
      split at h
      · rename_i hc
        obtain ⟨c0, c1, c2⟩ := hc
        cases h
        have q1 := optInt_some o1 hlo
        have q2 := optInt_some o2 hhi
        rw [sliceAt_string hu]
        have hb := run_sliceBounds (P := P) (isSlice := false) (len := b.size) (cap := b.size) q1 q2 c0 c1 c2 w
        exact ⟨.string (b.extract l.toNat h'.toNat), by simp [Instr.slice, run_underlying hu, hb], by simp [VRel]⟩
      · cases h
    · cases h
  · cases h

theorem run_abuiltin {b : Builtin} {argTypes : Array TypeId} {args : List AV} {vs : List Value} {T : TypeId} {consts : Array Bool} {r : AV} (h : abuiltin P b argTypes args = some r) (hv : VRels G args vs) :
    ∃ z, (builtin b argTypes T consts vs.toArray).run P w = .ok (.value z) w ∧ VRel G r z := by
  unfold abuiltin at h
  split at h
  · rename_i x
    simp only [VRels] at hv
    obtain ⟨u, us, rfl, hx, rfl⟩ := hv
    split at h
    · rename_i e sz n cs sp hu
      obtain ⟨t, ht, hu⟩ := Option.bind_eq_some_iff.1 hu
      simp only [VRel] at hx
      cases h
      rcases hx with ⟨b, off, cap, vs, rfl, _⟩ | ⟨rfl, rfl, a, cap, rfl, _⟩ | ⟨rfl, rfl, rfl, rfl⟩
      · exact ⟨.int .i64 n, by simp [builtin, Builtin.len_, ht, run_underlying hu, goInt], by simp [VRel]⟩
      · exact ⟨.int .i64 0, by simp [builtin, Builtin.len_, ht, run_underlying hu, goInt], by simp [VRel]⟩
      · exact ⟨.int .i64 0, by simp [builtin, Builtin.len_, ht, run_underlying hu, goInt], by simp [VRel]⟩
    · rename_i e o off sz n cap hu
      obtain ⟨t, ht, hu⟩ := Option.bind_eq_some_iff.1 hu
      simp only [VRel] at hx
      obtain ⟨b, _, rfl, _⟩ := hx
      cases h
      exact ⟨.int .i64 n, by simp [builtin, Builtin.len_, ht, run_underlying hu, goInt], by simp [VRel]⟩
    · rename_i e n cap hu
      obtain ⟨t, ht, hu⟩ := Option.bind_eq_some_iff.1 hu
      simp only [VRel] at hx
      subst hx
      cases h
      exact ⟨.int .i64 n, by simp [builtin, Builtin.len_, ht, run_underlying hu, goInt], by simp [VRel]⟩
    · rename_i b hu
      obtain ⟨t, ht, hu⟩ := Option.bind_eq_some_iff.1 hu
      simp only [VRel] at hx
      subst hx
      cases h
      exact ⟨.int .i64 b.size, by simp [builtin, Builtin.len_, ht, run_underlying hu, goInt], by simp [VRel]⟩
    · rename_i n e hu
      obtain ⟨t, ht, hu⟩ := Option.bind_eq_some_iff.1 hu
      cases h
      exact ⟨.int .i64 n, by simp [builtin, Builtin.len_, ht, run_underlying hu, goInt], by simp [VRel]⟩
    · cases h
  · rename_i x
    simp only [VRels] at hv
    obtain ⟨u, us, rfl, hx, rfl⟩ := hv
    split at h
    · rename_i e o off sz n cap hu
      obtain ⟨t, ht, hu⟩ := Option.bind_eq_some_iff.1 hu
      simp only [VRel] at hx
      obtain ⟨b, _, rfl, _⟩ := hx
      cases h
      exact ⟨.int .i64 cap, by simp [builtin, Builtin.cap_, ht, run_underlying hu, goInt], by simp [VRel]⟩
    · rename_i e n cap hu
      obtain ⟨t, ht, hu⟩ := Option.bind_eq_some_iff.1 hu
      simp only [VRel] at hx
      subst hx
      cases h
      exact ⟨.int .i64 cap, by simp [builtin, Builtin.cap_, ht, run_underlying hu, goInt], by simp [VRel]⟩
    · rename_i e sz n cs hu
      obtain ⟨t, ht, hu⟩ := Option.bind_eq_some_iff.1 hu
      simp only [VRel, SpRel] at hx
      cases h
      rcases hx with ⟨b, off, cap, vs, rfl, _, _, _, _, rfl⟩ | ⟨rfl, rfl, a, cap, rfl, hsp⟩ | ⟨_, _, hsp, _⟩
      · exact ⟨.int .i64 _, by simp [builtin, Builtin.cap_, ht, run_underlying hu, goInt]; rfl, by simp [VRel]⟩
      · obtain rfl : cap = 0 := by simpa using hsp
        exact ⟨.int .i64 0, by simp [builtin, Builtin.cap_, ht, run_underlying hu, goInt], by simp [VRel]⟩
      · simp at hsp
    · rename_i e sz n cs hu
      obtain ⟨t, ht, hu⟩ := Option.bind_eq_some_iff.1 hu
      simp only [VRel, SpRel] at hx
      rcases hx with ⟨b, off, cap, vs, rfl, _, _, _, _, rfl, _⟩ | ⟨_, _, a, cap, _, hm⟩ | ⟨_, _, hm, _⟩
      case inr.inl => rcases hm with hm | hm | ⟨hm, _⟩ <;> cases hm
      case inr.inr => cases hm
      cases h
      exact ⟨.int .i64 _, by simp [builtin, Builtin.cap_, ht, run_underlying hu, goInt]; rfl, by simp [VRel]⟩
    · cases h
  · rename_i k x k' y
    simp only [VRels, VRel] at hv
    obtain ⟨u, us, rfl, rfl, v, us', rfl, rfl, rfl⟩ := hv
    split at h
    · rename_i hk
      cases h
      exact ⟨_, by simp [builtin, Builtin.min_, Builtin.min2]; rfl, by simp [VRel]⟩
    · cases h
  · rename_i k x k' y
    simp only [VRels, VRel] at hv
    obtain ⟨u, us, rfl, rfl, v, us', rfl, rfl, rfl⟩ := hv
    split at h
    · rename_i hk
      cases h
      exact ⟨_, by simp [builtin, Builtin.max_, Builtin.max2]; rfl, by simp [VRel]⟩
    · cases h
  · cases h

end Go.AM
