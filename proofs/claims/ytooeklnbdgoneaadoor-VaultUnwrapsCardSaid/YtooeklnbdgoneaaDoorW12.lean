/- Contracts of the program's functions, each walked once; the conditions stand in each theorem. -/
import Derived.Test.YtooeklnbdgoneaaDoorAMp6
import Derived.Test.YtooeklnbdgoneaaDoorW11
import Derived.Test.YtooeklnbdgoneaaDoorAMp5
import Derived.Test.YtooeklnbdgoneaaDoorRows
import Derived.Test.YtooeklnbdgoneaaDoorW1
import Derived.ProofKit
import Derived.LaidMore
import Derived.MakeChecks
import Derived.OpenShut
set_option linter.unusedSimpArgs false
set_option linter.unusedVariables false
open Nat renaming reduceLT → nLT, reduceLeDiff → nLE, reduceEqDiff → nEQ, reduceAdd → nAdd, reduceMul → nMul, reducePow → nPow, reduceSub → nSub
open Int renaming reduceLT → zLT, reduceLE → zLE, reduceToNat → zNat
set_option autoImplicit false
namespace Go.Proofs.YtooeklnbdgoneaaDoor
open Go Go.AM Go.Proofs

theorem RVau316 : type_of% (And.intro (And.intro (And.intro (And.intro (And.intro @Tryd.underlying3 T.c3) (And.intro T.g3 T.b3)) (And.intro (And.intro T.z3 @Tryd.underlying5) (And.intro T.c5 (And.intro T.g5 T.b5)))) (And.intro (And.intro (And.intro T.z5 @Tryd.underlying22) (And.intro T.c22 (And.intro T.g22 T.b22))) (And.intro (And.intro T.z22 T.s22) (And.intro T.k50 (And.intro T.k51 T.k20))))) Tryd.ntmps16) :=
  (And.intro (And.intro (And.intro (And.intro (And.intro @Tryd.underlying3 T.c3) (And.intro T.g3 T.b3)) (And.intro (And.intro T.z3 @Tryd.underlying5) (And.intro T.c5 (And.intro T.g5 T.b5)))) (And.intro (And.intro (And.intro T.z5 @Tryd.underlying22) (And.intro T.c22 (And.intro T.g22 T.b22))) (And.intro (And.intro T.z22 T.s22) (And.intro T.k50 (And.intro T.k51 T.k20))))) Tryd.ntmps16)
theorem RVau318 : type_of% (And.intro (And.intro (And.intro (And.intro (And.intro @Tryd.underlying3 T.c3) (And.intro T.g3 T.b3)) (And.intro (And.intro T.z3 @Tryd.underlying5) (And.intro T.c5 (And.intro T.g5 T.b5)))) (And.intro (And.intro (And.intro T.z5 @Tryd.underlying22) (And.intro T.c22 (And.intro T.g22 T.b22))) (And.intro (And.intro T.z22 T.s22) (And.intro T.k50 (And.intro T.k54 T.k20))))) Tryd.ntmps18) :=
  (And.intro (And.intro (And.intro (And.intro (And.intro @Tryd.underlying3 T.c3) (And.intro T.g3 T.b3)) (And.intro (And.intro T.z3 @Tryd.underlying5) (And.intro T.c5 (And.intro T.g5 T.b5)))) (And.intro (And.intro (And.intro T.z5 @Tryd.underlying22) (And.intro T.c22 (And.intro T.g22 T.b22))) (And.intro (And.intro T.z22 T.s22) (And.intro T.k50 (And.intro T.k54 T.k20))))) Tryd.ntmps18)
theorem RVau319 : type_of% (And.intro (And.intro (And.intro (And.intro (And.intro @Tryd.underlying3 T.c3) (And.intro T.g3 T.b3)) (And.intro (And.intro T.z3 @Tryd.underlying4) (And.intro T.c4 (And.intro T.g4 T.b4)))) (And.intro (And.intro (And.intro T.z4 @Tryd.underlying9) (And.intro T.c9 (And.intro T.g9 T.b9))) (And.intro (And.intro T.z9 T.k21) (And.intro T.k24 (And.intro T.k53 T.k55))))) Tryd.ntmps19) :=
  (And.intro (And.intro (And.intro (And.intro (And.intro @Tryd.underlying3 T.c3) (And.intro T.g3 T.b3)) (And.intro (And.intro T.z3 @Tryd.underlying4) (And.intro T.c4 (And.intro T.g4 T.b4)))) (And.intro (And.intro (And.intro T.z4 @Tryd.underlying9) (And.intro T.c9 (And.intro T.g9 T.b9))) (And.intro (And.intro T.z9 T.k21) (And.intro T.k24 (And.intro T.k53 T.k55))))) Tryd.ntmps19)

variable {Γ : Nat → List AV}

theorem len32 {n : Nat} (h : n = 32) : ((n : Int) != 32) = false := by subst h; rfl
theorem len32T {n : Nat} (h : n ≠ 32) : ((n : Int) != 32) = true := by simp only [bne_iff_ne, ne_eq]; omega

set_option maxHeartbeats 1000000 in
theorem wrap_ok (hG0 : Γ 0 = stC Sha.H0) (hG : Γ 1 = Sha.K.map wV) (key g t : List UInt8) (e : Nat) (hg : g.length ≤ 16) (he : e ≤ 1048576) (hk : key.length = 32) (ht : t.length = 32) (s : AS) :
    ACalls Tryd.prog Γ 16 [bytesV key .any, bytesV g .any, .v (.int .i64 e), bytesV t .any] s (fun r s' => r = .tup [bytesV (Aes.sealed (Vault.vk key) (Vault.vn key (Vault.ctx g e)) (Vault.ctx g e) t) .any, .v (.int .i64 ((0 : Nat) : Int))] ∧ s' = s) := by
  refine acalls_body Tryd.func16 rfl Tryd.ntmps16 Tryd.results16 (by simp) ?_
  have hc := fun s => context_ok (Γ := Γ) g e hg he s
  have hcl := ctx_len g e
  have hkl := vk_len key
  have hnl := vn_len key (Vault.ctx g e) (by omega)
  have hks := fun s => vkeys_calls (Γ := Γ) hG0 hG key (Vault.ctx g e) (by omega) (by omega) s
  have hs := fun s => seal_calls (Γ := Γ) hG0 hG (Vault.vk key) (Vault.vn key (Vault.ctx g e)) (Vault.ctx g e) t (by omega) (by omega) s
  simp only [show sealT (Vault.vk key) (Vault.vn key (Vault.ctx g e)) (Vault.ctx g e) t = Aes.sealed (Vault.vk key) (Vault.vn key (Vault.ctx g e)) (Vault.ctx g e) t from by unfold sealT; rw [if_pos ⟨hkl, hnl⟩], show sealE (Vault.vk key) (Vault.vn key (Vault.ctx g e)) = 0 from by unfold sealE; rw [if_pos ⟨hkl, hnl⟩]] at hs
  generalize Vault.vn key (Vault.ctx g e) = n at *
  generalize Vault.ctx g e = c at *
  generalize Vault.vk key = k at *
  have hc0 : c.length ≠ 0 := by omega
  generalize Aes.sealed k n c t = z at *
  refine awp_reg_seq ?_
  intro K hK
  simp only [↓DN, UP, DF, ashift, aconv, aindexAddr, aindex, aslice, abuiltin, AV.cells, AV.one, reduceCtorEq, ↓reduceIte, nLT, nLE, nEQ, nAdd, nMul, nPow, nSub, zLT, zLE, zNat, RVau316]
  refine hK _ _ ?_
  clear hK K
  refine awp_reg_seq ?_
  intro K hK
  simp only [↓DN, UP, DF, ashift, aconv, aindexAddr, aindex, aslice, abuiltin, AV.cells, AV.one, reduceCtorEq, ↓reduceIte, nLT, nLE, nEQ, nAdd, nMul, nPow, nSub, zLT, zLE, zNat, RVau316]
  refine acallk (hc s) ?_
  rintro r s1 ⟨rfl, rfl⟩
  simp only [↓AXq_nil, ↓AXq_cons, pval, DX, Nat.reduceBEq, ↓DN, UP, DF, ashift, aconv, aindexAddr, aindex, aslice, abuiltin, AV.cells, AV.one, reduceCtorEq, ↓reduceIte, nLT, nLE, nEQ, nAdd, nMul, nPow, nSub, zLT, zLE, zNat, RVau316]
  refine hK _ _ ?_
  clear hK K
  refine awp_seq_k ?_
  intro K hK
  refine awp_reg_seq ?_
  intro K hK
  simp only [↓DN, UP, DF, ashift, aconv, aindexAddr, aindex, aslice, abuiltin, AV.cells, AV.one, reduceCtorEq, ↓reduceIte, nLT, nLE, nEQ, nAdd, nMul, nPow, nSub, zLT, zLE, zNat, RVau316, hc0, len32 hk, len32 ht]
  refine hK _ _ ?_
  clear hK K
  refine awp_cond_k ?_
  intro X Y hX hY
  simp only [↓DN, UP, DF, ashift, aconv, aindexAddr, aindex, aslice, abuiltin, AV.cells, AV.one, reduceCtorEq, ↓reduceIte, nLT, nLE, nEQ, nAdd, nMul, nPow, nSub, zLT, zLE, zNat, RVau316, DB]
  refine hY ?_
  clear hX hY X Y
  refine awp_skip ?_
  refine hK _ _ ?_
  clear hK K
  refine awp_reg_seq ?_
  intro K hK
  simp only [↓DN, UP, DF, ashift, aconv, aindexAddr, aindex, aslice, abuiltin, AV.cells, AV.one, reduceCtorEq, ↓reduceIte, nLT, nLE, nEQ, nAdd, nMul, nPow, nSub, zLT, zLE, zNat, RVau316]
  refine acallk (hks _) ?_
  rintro r s2 ⟨rfl, rfl⟩
  simp only [↓AXq_nil, ↓AXq_cons, pval, DX, Nat.reduceBEq, ↓DN, UP, DF, ashift, aconv, aindexAddr, aindex, aslice, abuiltin, AV.cells, AV.one, reduceCtorEq, ↓reduceIte, nLT, nLE, nEQ, nAdd, nMul, nPow, nSub, zLT, zLE, zNat, RVau316]
  refine hK _ _ ?_
  clear hK K
  refine awp_reg_seq ?_
  intro K hK
  simp only [↓DN, UP, DF, ashift, aconv, aindexAddr, aindex, aslice, abuiltin, AV.cells, AV.one, reduceCtorEq, ↓reduceIte, nLT, nLE, nEQ, nAdd, nMul, nPow, nSub, zLT, zLE, zNat, RVau316]
  refine acallk (hs _) ?_
  rintro r s3 ⟨rfl, rfl⟩
  simp only [↓AXq_nil, ↓AXq_cons, pval, DX, Nat.reduceBEq, ↓DN, UP, DF, ashift, aconv, aindexAddr, aindex, aslice, abuiltin, AV.cells, AV.one, reduceCtorEq, ↓reduceIte, nLT, nLE, nEQ, nAdd, nMul, nPow, nSub, zLT, zLE, zNat, RVau316]
  refine hK _ _ ?_
  clear hK K
  refine awp_ret ?_
  simp only [retQ, AEnds, aresL, ares, List.toList_toArray, ↓upd_same]; try simp only [↓DN, UP, DF, ashift, aconv, aindexAddr, aindex, aslice, abuiltin, AV.cells, AV.one, reduceCtorEq, ↓reduceIte, nLT, nLE, nEQ, nAdd, nMul, nPow, nSub, zLT, zLE, zNat, RVau316, DT]
  exact ⟨_, _, AV.weak.refl _, AS.le.refl _, rfl, rfl⟩

set_option maxHeartbeats 1000000 in
theorem unwrap_ok (hG0 : Γ 0 = stC Sha.H0) (hG : Γ 1 = Sha.K.map wV) (key g t : List UInt8) (e : Nat) (hg : g.length ≤ 16) (he : e ≤ 1048576) (hk : key.length = 32) (ht : t.length = 48) (s : AS) :
    ACalls Tryd.prog Γ 18 [bytesV key .any, bytesV g .any, .v (.int .i64 e), bytesV t .any] s (fun r s' => r = .tup [bytesV (openedT (Vault.vk key) (Vault.vn key (Vault.ctx g e)) (Vault.ctx g e) t) .any, .v (.int .i64 ((openedE (Vault.vk key) (Vault.vn key (Vault.ctx g e)) (Vault.ctx g e) t : Nat) : Int))] ∧ s' = s) := by
  refine acalls_body Tryd.func18 rfl Tryd.ntmps18 Tryd.results18 (by simp) ?_
  have hc := fun s => context_ok (Γ := Γ) g e hg he s
  have hcl := ctx_len g e
  have hkl := vk_len key
  have hnl := vn_len key (Vault.ctx g e) (by omega)
  have hks := fun s => vkeys_calls (Γ := Γ) hG0 hG key (Vault.ctx g e) (by omega) (by omega) s
  have hs := fun s => open_seal_calls (Γ := Γ) hG0 hG (Vault.vk key) (Vault.vn key (Vault.ctx g e)) (Vault.ctx g e) t (by omega) (by omega) s
  simp only [show opT (Vault.vk key) (Vault.vn key (Vault.ctx g e)) (Vault.ctx g e) t = openedT (Vault.vk key) (Vault.vn key (Vault.ctx g e)) (Vault.ctx g e) t from by unfold opT; rw [if_pos ⟨hkl, hnl⟩], show opE (Vault.vk key) (Vault.vn key (Vault.ctx g e)) (Vault.ctx g e) t = openedE (Vault.vk key) (Vault.vn key (Vault.ctx g e)) (Vault.ctx g e) t from by unfold opE; rw [if_pos ⟨hkl, hnl⟩]] at hs
  generalize Vault.vn key (Vault.ctx g e) = n at *
  generalize Vault.ctx g e = c at *
  generalize Vault.vk key = k at *
  have hc0 : c.length ≠ 0 := by omega
  generalize openedT k n c t = z at *
  generalize openedE k n c t = y at *
  refine awp_reg_seq ?_
  intro K hK
  simp only [↓DN, UP, DF, ashift, aconv, aindexAddr, aindex, aslice, abuiltin, AV.cells, AV.one, reduceCtorEq, ↓reduceIte, nLT, nLE, nEQ, nAdd, nMul, nPow, nSub, zLT, zLE, zNat, RVau318]
  refine hK _ _ ?_
  clear hK K
  refine awp_reg_seq ?_
  intro K hK
  simp only [↓DN, UP, DF, ashift, aconv, aindexAddr, aindex, aslice, abuiltin, AV.cells, AV.one, reduceCtorEq, ↓reduceIte, nLT, nLE, nEQ, nAdd, nMul, nPow, nSub, zLT, zLE, zNat, RVau318]
  refine acallk (hc s) ?_
  rintro r s1 ⟨rfl, rfl⟩
  simp only [↓AXq_nil, ↓AXq_cons, pval, DX, Nat.reduceBEq, ↓DN, UP, DF, ashift, aconv, aindexAddr, aindex, aslice, abuiltin, AV.cells, AV.one, reduceCtorEq, ↓reduceIte, nLT, nLE, nEQ, nAdd, nMul, nPow, nSub, zLT, zLE, zNat, RVau318]
  refine hK _ _ ?_
  clear hK K
  refine awp_seq_k ?_
  intro K hK
  refine awp_reg_seq ?_
  intro K hK
  simp only [↓DN, UP, DF, ashift, aconv, aindexAddr, aindex, aslice, abuiltin, AV.cells, AV.one, reduceCtorEq, ↓reduceIte, nLT, nLE, nEQ, nAdd, nMul, nPow, nSub, zLT, zLE, zNat, RVau318, hc0, len32 hk, len48 ht]
  refine hK _ _ ?_
  clear hK K
  refine awp_cond_k ?_
  intro X Y hX hY
  simp only [↓DN, UP, DF, ashift, aconv, aindexAddr, aindex, aslice, abuiltin, AV.cells, AV.one, reduceCtorEq, ↓reduceIte, nLT, nLE, nEQ, nAdd, nMul, nPow, nSub, zLT, zLE, zNat, RVau318, DB]
  refine hY ?_
  clear hX hY X Y
  refine awp_skip ?_
  refine hK _ _ ?_
  clear hK K
  refine awp_reg_seq ?_
  intro K hK
  simp only [↓DN, UP, DF, ashift, aconv, aindexAddr, aindex, aslice, abuiltin, AV.cells, AV.one, reduceCtorEq, ↓reduceIte, nLT, nLE, nEQ, nAdd, nMul, nPow, nSub, zLT, zLE, zNat, RVau318]
  refine acallk (hks _) ?_
  rintro r s2 ⟨rfl, rfl⟩
  simp only [↓AXq_nil, ↓AXq_cons, pval, DX, Nat.reduceBEq, ↓DN, UP, DF, ashift, aconv, aindexAddr, aindex, aslice, abuiltin, AV.cells, AV.one, reduceCtorEq, ↓reduceIte, nLT, nLE, nEQ, nAdd, nMul, nPow, nSub, zLT, zLE, zNat, RVau318]
  refine hK _ _ ?_
  clear hK K
  refine awp_reg_seq ?_
  intro K hK
  simp only [↓DN, UP, DF, ashift, aconv, aindexAddr, aindex, aslice, abuiltin, AV.cells, AV.one, reduceCtorEq, ↓reduceIte, nLT, nLE, nEQ, nAdd, nMul, nPow, nSub, zLT, zLE, zNat, RVau318]
  refine acallk (hs _) ?_
  rintro r s3 ⟨rfl, rfl⟩
  simp only [↓AXq_nil, ↓AXq_cons, pval, DX, Nat.reduceBEq, ↓DN, UP, DF, ashift, aconv, aindexAddr, aindex, aslice, abuiltin, AV.cells, AV.one, reduceCtorEq, ↓reduceIte, nLT, nLE, nEQ, nAdd, nMul, nPow, nSub, zLT, zLE, zNat, RVau318]
  refine hK _ _ ?_
  clear hK K
  refine awp_ret ?_
  simp only [retQ, AEnds, aresL, ares, List.toList_toArray, ↓upd_same]; try simp only [↓DN, UP, DF, ashift, aconv, aindexAddr, aindex, aslice, abuiltin, AV.cells, AV.one, reduceCtorEq, ↓reduceIte, nLT, nLE, nEQ, nAdd, nMul, nPow, nSub, zLT, zLE, zNat, RVau318, DT]
  exact ⟨_, _, AV.weak.refl _, AS.le.refl _, rfl, rfl⟩

set_option maxHeartbeats 1000000 in
theorem unwrap_bad (key g t : List UInt8) (e : Int) (h : ¬ (ctxOk g e ∧ key.length = 32 ∧ t.length = 48)) (s : AS) :
    ACalls Tryd.prog Γ 18 [bytesV key .any, bytesV g .any, .v (.int .i64 e), bytesV t .any] s (fun r s' => r = .tup [bytesV [] .any, .v (.int .i64 ((2 : Nat) : Int))] ∧ s' = s) := by
  refine acalls_body Tryd.func18 rfl Tryd.ntmps18 Tryd.results18 (by simp) ?_
  by_cases hx : ctxOk g e
  · obtain ⟨m, rfl⟩ : ∃ m : Nat, e = (m : Int) := ⟨e.toNat, by have := hx.2.1; omega⟩
    have hc := fun s => context_ok (Γ := Γ) g m hx.1 (by have := hx.2.2; omega) s
    have hcl := ctx_len g m
    generalize Vault.ctx g m = c at *
    have hc0 : c.length ≠ 0 := by omega
    have hgo : key.length ≠ 32 ∨ (key.length = 32 ∧ t.length ≠ 48) := by
      by_cases h1 : key.length = 32
      · exact Or.inr ⟨h1, fun h2 => h ⟨hx, h1, h2⟩⟩
      · exact Or.inl h1
    refine awp_reg_seq ?_
    intro K hK
    simp only [↓DN, UP, DF, ashift, aconv, aindexAddr, aindex, aslice, abuiltin, AV.cells, AV.one, reduceCtorEq, ↓reduceIte, nLT, nLE, nEQ, nAdd, nMul, nPow, nSub, zLT, zLE, zNat, RVau318]
    refine hK _ _ ?_
    clear hK K
    refine awp_reg_seq ?_
    intro K hK
    simp only [↓DN, UP, DF, ashift, aconv, aindexAddr, aindex, aslice, abuiltin, AV.cells, AV.one, reduceCtorEq, ↓reduceIte, nLT, nLE, nEQ, nAdd, nMul, nPow, nSub, zLT, zLE, zNat, RVau318]
    refine acallk (hc s) ?_
    rintro r s1 ⟨rfl, rfl⟩
    simp only [↓AXq_nil, ↓AXq_cons, pval, DX, Nat.reduceBEq, ↓DN, UP, DF, ashift, aconv, aindexAddr, aindex, aslice, abuiltin, AV.cells, AV.one, reduceCtorEq, ↓reduceIte, nLT, nLE, nEQ, nAdd, nMul, nPow, nSub, zLT, zLE, zNat, RVau318]
    refine hK _ _ ?_
    clear hK K
    refine awp_seq_k ?_
    intro K hK
    rcases hgo with hk | ⟨hk, ht⟩
    · refine awp_reg_seq ?_
      intro K hK
      simp only [↓DN, UP, DF, ashift, aconv, aindexAddr, aindex, aslice, abuiltin, AV.cells, AV.one, reduceCtorEq, ↓reduceIte, nLT, nLE, nEQ, nAdd, nMul, nPow, nSub, zLT, zLE, zNat, RVau318, hc0, len32T hk]
      refine hK _ _ ?_
      clear hK K
      refine awp_cond_k ?_
      intro X Y hX hY
      simp only [↓DN, UP, DF, ashift, aconv, aindexAddr, aindex, aslice, abuiltin, AV.cells, AV.one, reduceCtorEq, ↓reduceIte, nLT, nLE, nEQ, nAdd, nMul, nPow, nSub, zLT, zLE, zNat, RVau318, DB]
      refine hX ?_
      clear hX hY X Y
      refine awp_reg_seq ?_
      intro K hK
      simp only [↓DN, UP, DF, ashift, aconv, aindexAddr, aindex, aslice, abuiltin, AV.cells, AV.one, reduceCtorEq, ↓reduceIte, nLT, nLE, nEQ, nAdd, nMul, nPow, nSub, zLT, zLE, zNat, RVau318]
      refine hK _ _ ?_
      clear hK K
      refine awp_ret ?_
      try simp only [thenQ, blockQ]
      simp only [retQ, AEnds, aresL, ares, List.toList_toArray, ↓upd_same]; try simp only [↓DN, UP, DF, ashift, aconv, aindexAddr, aindex, aslice, abuiltin, AV.cells, AV.one, reduceCtorEq, ↓reduceIte, nLT, nLE, nEQ, nAdd, nMul, nPow, nSub, zLT, zLE, zNat, RVau318, DT]
      exact ⟨_, _, AV.weak_tup2 (AV.weak_nil) (AV.weak.refl _), AS.le.refl _, rfl, rfl⟩
    · refine awp_reg_seq ?_
      intro K hK
      simp only [↓DN, UP, DF, ashift, aconv, aindexAddr, aindex, aslice, abuiltin, AV.cells, AV.one, reduceCtorEq, ↓reduceIte, nLT, nLE, nEQ, nAdd, nMul, nPow, nSub, zLT, zLE, zNat, RVau318, hc0, len32 hk, len48T ht]
      refine hK _ _ ?_
      clear hK K
      refine awp_cond_k ?_
      intro X Y hX hY
      simp only [↓DN, UP, DF, ashift, aconv, aindexAddr, aindex, aslice, abuiltin, AV.cells, AV.one, reduceCtorEq, ↓reduceIte, nLT, nLE, nEQ, nAdd, nMul, nPow, nSub, zLT, zLE, zNat, RVau318, DB]
      refine hX ?_
      clear hX hY X Y
      refine awp_reg_seq ?_
      intro K hK
      simp only [↓DN, UP, DF, ashift, aconv, aindexAddr, aindex, aslice, abuiltin, AV.cells, AV.one, reduceCtorEq, ↓reduceIte, nLT, nLE, nEQ, nAdd, nMul, nPow, nSub, zLT, zLE, zNat, RVau318]
      refine hK _ _ ?_
      clear hK K
      refine awp_ret ?_
      try simp only [thenQ, blockQ]
      simp only [retQ, AEnds, aresL, ares, List.toList_toArray, ↓upd_same]; try simp only [↓DN, UP, DF, ashift, aconv, aindexAddr, aindex, aslice, abuiltin, AV.cells, AV.one, reduceCtorEq, ↓reduceIte, nLT, nLE, nEQ, nAdd, nMul, nPow, nSub, zLT, zLE, zNat, RVau318, DT]
      exact ⟨_, _, AV.weak_tup2 (AV.weak_nil) (AV.weak.refl _), AS.le.refl _, rfl, rfl⟩
  · refine awp_reg_seq ?_
    intro K hK
    simp only [↓DN, UP, DF, ashift, aconv, aindexAddr, aindex, aslice, abuiltin, AV.cells, AV.one, reduceCtorEq, ↓reduceIte, nLT, nLE, nEQ, nAdd, nMul, nPow, nSub, zLT, zLE, zNat, RVau318]
    refine hK _ _ ?_
    clear hK K
    refine awp_reg_seq ?_
    intro K hK
    simp only [↓DN, UP, DF, ashift, aconv, aindexAddr, aindex, aslice, abuiltin, AV.cells, AV.one, reduceCtorEq, ↓reduceIte, nLT, nLE, nEQ, nAdd, nMul, nPow, nSub, zLT, zLE, zNat, RVau318]
    refine acallk (context_bad g e hx s) ?_
    rintro r s1 ⟨rfl, rfl⟩
    simp only [↓AXq_nil, ↓AXq_cons, pval, DX, Nat.reduceBEq, ↓DN, UP, DF, ashift, aconv, aindexAddr, aindex, aslice, abuiltin, AV.cells, AV.one, reduceCtorEq, ↓reduceIte, nLT, nLE, nEQ, nAdd, nMul, nPow, nSub, zLT, zLE, zNat, RVau318]
    refine hK _ _ ?_
    clear hK K
    refine awp_seq_k ?_
    intro K hK
    refine awp_reg_seq ?_
    intro K hK
    simp only [↓DN, UP, DF, ashift, aconv, aindexAddr, aindex, aslice, abuiltin, AV.cells, AV.one, reduceCtorEq, ↓reduceIte, nLT, nLE, nEQ, nAdd, nMul, nPow, nSub, zLT, zLE, zNat, RVau318]
    refine hK _ _ ?_
    clear hK K
    refine awp_cond_k ?_
    intro X Y hX hY
    simp only [↓DN, UP, DF, ashift, aconv, aindexAddr, aindex, aslice, abuiltin, AV.cells, AV.one, reduceCtorEq, ↓reduceIte, nLT, nLE, nEQ, nAdd, nMul, nPow, nSub, zLT, zLE, zNat, RVau318, DB]
    refine hX ?_
    clear hX hY X Y
    refine awp_reg_seq ?_
    intro K hK
    simp only [↓DN, UP, DF, ashift, aconv, aindexAddr, aindex, aslice, abuiltin, AV.cells, AV.one, reduceCtorEq, ↓reduceIte, nLT, nLE, nEQ, nAdd, nMul, nPow, nSub, zLT, zLE, zNat, RVau318]
    refine hK _ _ ?_
    clear hK K
    refine awp_ret ?_
    try simp only [thenQ, blockQ]
    simp only [retQ, AEnds, aresL, ares, List.toList_toArray, ↓upd_same]; try simp only [↓DN, UP, DF, ashift, aconv, aindexAddr, aindex, aslice, abuiltin, AV.cells, AV.one, reduceCtorEq, ↓reduceIte, nLT, nLE, nEQ, nAdd, nMul, nPow, nSub, zLT, zLE, zNat, RVau318, DT]
    exact ⟨_, _, AV.weak_tup2 (AV.weak_nil) (AV.weak.refl _), AS.le.refl _, rfl, rfl⟩

set_option maxHeartbeats 1000000 in
theorem ref_unwrap_ok (key g t : List UInt8) (e : Nat) (hg : g.length ≤ 16) (he : e ≤ 1048576) (hk : key.length = 32) (ht : t.length = 48) (s : AS) :
    ACalls Tryd.prog Γ 19 [.v (.string ⟨key.toArray⟩), .v (.string ⟨g.toArray⟩), .v (.int .i64 e), .v (.string ⟨t.toArray⟩)] s (fun r s' => r = .tup [.v (.string ⟨(openedT (Vault.vk key) (Vault.vn key (Vault.ctx g e)) (Vault.ctx g e) t).toArray⟩), .v (.int .i64 ((openedE (Vault.vk key) (Vault.vn key (Vault.ctx g e)) (Vault.ctx g e) t : Nat) : Int))] ∧ s' = s) := by
  refine acalls_body Tryd.func19 rfl Tryd.ntmps19 Tryd.results19 (by simp) ?_
  have hi := fun s => refIs17_calls (Γ := Γ) g e s
  have hctx : ctxOk g e := ⟨hg, by omega, by omega⟩
  have hc := fun s => refContext17_calls (Γ := Γ) g e hg he s
  have hcl := ctx_len g e
  have hkl := vk_len key
  have hnl := vn_len key (Vault.ctx g e) (by omega)
  have h1 := fun s => refLabel_calls (Γ := Γ) key Vault.wrapW [] 48 (by omega) (by decide) s
  have h2 := fun s => refLabel_calls (Γ := Γ) key Vault.nonceW (Vault.ctx g e) 16 (by omega) (vn_fits _ (by omega)) s
  have hs := fun s => refOpen_calls (Γ := Γ) (Vault.vk key) (Vault.vn key (Vault.ctx g e)) (Vault.ctx g e) t hkl hnl (by omega) (by omega) s
  change ∀ s, ACalls _ _ _ _ s (fun r s' => r = .v (.string ⟨(Vault.vk key).toArray⟩) ∧ s' = s) at h1
  change ∀ s, ACalls _ _ _ _ s (fun r s' => r = .v (.string ⟨(Vault.vn key (Vault.ctx g e)).toArray⟩) ∧ s' = s) at h2
  generalize Vault.vn key (Vault.ctx g e) = n at *
  generalize Vault.ctx g e = c at *
  generalize Vault.vk key = k at *
  generalize openedT k n c t = z at *
  generalize openedE k n c t = y at *
  refine awp_reg_seq ?_
  intro K hK
  simp only [↓DN, UP, DF, ashift, aconv, aindexAddr, aindex, aslice, abuiltin, AV.cells, AV.one, reduceCtorEq, ↓reduceIte, nLT, nLE, nEQ, nAdd, nMul, nPow, nSub, zLT, zLE, zNat, RVau319]
  refine hK _ _ ?_
  clear hK K
  refine awp_seq_k ?_
  intro K hK
  refine awp_reg_seq ?_
  intro K hK
  simp only [↓DN, UP, DF, ashift, aconv, aindexAddr, aindex, aslice, abuiltin, AV.cells, AV.one, reduceCtorEq, ↓reduceIte, nLT, nLE, nEQ, nAdd, nMul, nPow, nSub, zLT, zLE, zNat, RVau319]
  refine acallk (hi s) ?_
  rintro r s1 ⟨⟨b, rfl, hb⟩, rfl⟩
  obtain rfl : b = true := hb.2 hctx
  simp only [↓AXq_nil, ↓AXq_cons, pval, DX, Nat.reduceBEq, ↓DN, UP, DF, ashift, aconv, aindexAddr, aindex, aslice, abuiltin, AV.cells, AV.one, reduceCtorEq, ↓reduceIte, nLT, nLE, nEQ, nAdd, nMul, nPow, nSub, zLT, zLE, zNat, RVau319, len32 hk, len48 ht]
  refine hK _ _ ?_
  clear hK K
  refine awp_cond_k ?_
  intro X Y hX hY
  simp only [↓DN, UP, DF, ashift, aconv, aindexAddr, aindex, aslice, abuiltin, AV.cells, AV.one, reduceCtorEq, ↓reduceIte, nLT, nLE, nEQ, nAdd, nMul, nPow, nSub, zLT, zLE, zNat, RVau319, DB]
  refine hY ?_
  clear hX hY X Y
  refine awp_skip ?_
  refine hK _ _ ?_
  clear hK K
  refine awp_reg_seq ?_
  intro K hK
  simp only [↓DN, UP, DF, ashift, aconv, aindexAddr, aindex, aslice, abuiltin, AV.cells, AV.one, reduceCtorEq, ↓reduceIte, nLT, nLE, nEQ, nAdd, nMul, nPow, nSub, zLT, zLE, zNat, RVau319]
  refine acallk (hc _) ?_
  rintro r s2 ⟨rfl, rfl⟩
  simp only [↓AXq_nil, ↓AXq_cons, pval, DX, Nat.reduceBEq, ↓DN, UP, DF, ashift, aconv, aindexAddr, aindex, aslice, abuiltin, AV.cells, AV.one, reduceCtorEq, ↓reduceIte, nLT, nLE, nEQ, nAdd, nMul, nPow, nSub, zLT, zLE, zNat, RVau319]
  refine hK _ _ ?_
  clear hK K
  refine awp_reg_seq ?_
  intro K hK
  simp only [↓DN, UP, DF, ashift, aconv, aindexAddr, aindex, aslice, abuiltin, AV.cells, AV.one, reduceCtorEq, ↓reduceIte, nLT, nLE, nEQ, nAdd, nMul, nPow, nSub, zLT, zLE, zNat, RVau319]
  refine acallk (h1 _) ?_
  rintro r s3 ⟨rfl, rfl⟩
  simp only [↓AXq_nil, ↓AXq_cons, pval, DX, Nat.reduceBEq, ↓DN, UP, DF, ashift, aconv, aindexAddr, aindex, aslice, abuiltin, AV.cells, AV.one, reduceCtorEq, ↓reduceIte, nLT, nLE, nEQ, nAdd, nMul, nPow, nSub, zLT, zLE, zNat, RVau319]
  refine acallk (h2 _) ?_
  rintro r s4 ⟨rfl, rfl⟩
  simp only [↓AXq_nil, ↓AXq_cons, pval, DX, Nat.reduceBEq, ↓DN, UP, DF, ashift, aconv, aindexAddr, aindex, aslice, abuiltin, AV.cells, AV.one, reduceCtorEq, ↓reduceIte, nLT, nLE, nEQ, nAdd, nMul, nPow, nSub, zLT, zLE, zNat, RVau319]
  refine acallk (hs _) ?_
  rintro r s5 ⟨rfl, rfl⟩
  simp only [↓AXq_nil, ↓AXq_cons, pval, DX, Nat.reduceBEq, ↓DN, UP, DF, ashift, aconv, aindexAddr, aindex, aslice, abuiltin, AV.cells, AV.one, reduceCtorEq, ↓reduceIte, nLT, nLE, nEQ, nAdd, nMul, nPow, nSub, zLT, zLE, zNat, RVau319]
  refine hK _ _ ?_
  clear hK K
  refine awp_ret ?_
  simp only [retQ, AEnds, aresL, ares, List.toList_toArray, ↓upd_same]; try simp only [↓DN, UP, DF, ashift, aconv, aindexAddr, aindex, aslice, abuiltin, AV.cells, AV.one, reduceCtorEq, ↓reduceIte, nLT, nLE, nEQ, nAdd, nMul, nPow, nSub, zLT, zLE, zNat, RVau319, DT]
  exact ⟨_, _, AV.weak.refl _, AS.le.refl _, rfl, rfl⟩

set_option maxHeartbeats 1000000 in
theorem ref_unwrap_bad (key g t : List UInt8) (e : Int) (h : ¬ (ctxOk g e ∧ key.length = 32 ∧ t.length = 48)) (s : AS) :
    ACalls Tryd.prog Γ 19 [.v (.string ⟨key.toArray⟩), .v (.string ⟨g.toArray⟩), .v (.int .i64 e), .v (.string ⟨t.toArray⟩)] s (fun r s' => r = .tup [.v (.string ⟨#[]⟩), .v (.int .i64 ((2 : Nat) : Int))] ∧ s' = s) := by
  refine acalls_body Tryd.func19 rfl Tryd.ntmps19 Tryd.results19 (by simp) ?_
  have hi := fun s => refIs17_calls (Γ := Γ) g e s
  have hgo : ¬ ctxOk g e ∨ (ctxOk g e ∧ key.length ≠ 32) ∨ (ctxOk g e ∧ key.length = 32 ∧ t.length ≠ 48) := by
    by_cases h0 : ctxOk g e
    · by_cases h1 : key.length = 32
      · exact Or.inr (Or.inr ⟨h0, h1, fun h2 => h ⟨h0, h1, h2⟩⟩)
      · exact Or.inr (Or.inl ⟨h0, h1⟩)
    · exact Or.inl h0
  refine awp_reg_seq ?_
  intro K hK
  simp only [↓DN, UP, DF, ashift, aconv, aindexAddr, aindex, aslice, abuiltin, AV.cells, AV.one, reduceCtorEq, ↓reduceIte, nLT, nLE, nEQ, nAdd, nMul, nPow, nSub, zLT, zLE, zNat, RVau319]
  refine hK _ _ ?_
  clear hK K
  refine awp_seq_k ?_
  intro K hK
  refine awp_reg_seq ?_
  intro K hK
  simp only [↓DN, UP, DF, ashift, aconv, aindexAddr, aindex, aslice, abuiltin, AV.cells, AV.one, reduceCtorEq, ↓reduceIte, nLT, nLE, nEQ, nAdd, nMul, nPow, nSub, zLT, zLE, zNat, RVau319]
  refine acallk (hi s) ?_
  rintro r s1 ⟨⟨b, rfl, hb⟩, rfl⟩
  rcases hgo with h0 | ⟨h0, hk⟩ | ⟨h0, hk, ht⟩
  · obtain rfl : b = false := Bool.eq_false_iff.2 (fun q => h0 (hb.1 q))
    simp only [↓AXq_nil, ↓AXq_cons, pval, DX, Nat.reduceBEq, ↓DN, UP, DF, ashift, aconv, aindexAddr, aindex, aslice, abuiltin, AV.cells, AV.one, reduceCtorEq, ↓reduceIte, nLT, nLE, nEQ, nAdd, nMul, nPow, nSub, zLT, zLE, zNat, RVau319]
    refine hK _ _ ?_
    clear hK K
    refine awp_cond_k ?_
    intro X Y hX hY
    simp only [↓DN, UP, DF, ashift, aconv, aindexAddr, aindex, aslice, abuiltin, AV.cells, AV.one, reduceCtorEq, ↓reduceIte, nLT, nLE, nEQ, nAdd, nMul, nPow, nSub, zLT, zLE, zNat, RVau319, DB]
    refine hX ?_
    clear hX hY X Y
    refine awp_reg_seq ?_
    intro K hK
    simp only [↓DN, UP, DF, ashift, aconv, aindexAddr, aindex, aslice, abuiltin, AV.cells, AV.one, reduceCtorEq, ↓reduceIte, nLT, nLE, nEQ, nAdd, nMul, nPow, nSub, zLT, zLE, zNat, RVau319]
    refine hK _ _ ?_
    clear hK K
    refine awp_ret ?_
    try simp only [thenQ, blockQ]
    simp only [retQ, AEnds, aresL, ares, List.toList_toArray, ↓upd_same]; try simp only [↓DN, UP, DF, ashift, aconv, aindexAddr, aindex, aslice, abuiltin, AV.cells, AV.one, reduceCtorEq, ↓reduceIte, nLT, nLE, nEQ, nAdd, nMul, nPow, nSub, zLT, zLE, zNat, RVau319, DT]
    exact ⟨_, _, AV.weak.refl _, AS.le.refl _, rfl, rfl⟩
  · obtain rfl : b = true := hb.2 h0
    simp only [↓AXq_nil, ↓AXq_cons, pval, DX, Nat.reduceBEq, ↓DN, UP, DF, ashift, aconv, aindexAddr, aindex, aslice, abuiltin, AV.cells, AV.one, reduceCtorEq, ↓reduceIte, nLT, nLE, nEQ, nAdd, nMul, nPow, nSub, zLT, zLE, zNat, RVau319, len32T hk]
    refine hK _ _ ?_
    clear hK K
    refine awp_cond_k ?_
    intro X Y hX hY
    simp only [↓DN, UP, DF, ashift, aconv, aindexAddr, aindex, aslice, abuiltin, AV.cells, AV.one, reduceCtorEq, ↓reduceIte, nLT, nLE, nEQ, nAdd, nMul, nPow, nSub, zLT, zLE, zNat, RVau319, DB]
    refine hX ?_
    clear hX hY X Y
    refine awp_reg_seq ?_
    intro K hK
    simp only [↓DN, UP, DF, ashift, aconv, aindexAddr, aindex, aslice, abuiltin, AV.cells, AV.one, reduceCtorEq, ↓reduceIte, nLT, nLE, nEQ, nAdd, nMul, nPow, nSub, zLT, zLE, zNat, RVau319]
    refine hK _ _ ?_
    clear hK K
    refine awp_ret ?_
    try simp only [thenQ, blockQ]
    simp only [retQ, AEnds, aresL, ares, List.toList_toArray, ↓upd_same]; try simp only [↓DN, UP, DF, ashift, aconv, aindexAddr, aindex, aslice, abuiltin, AV.cells, AV.one, reduceCtorEq, ↓reduceIte, nLT, nLE, nEQ, nAdd, nMul, nPow, nSub, zLT, zLE, zNat, RVau319, DT]
    exact ⟨_, _, AV.weak.refl _, AS.le.refl _, rfl, rfl⟩
  · obtain rfl : b = true := hb.2 h0
    simp only [↓AXq_nil, ↓AXq_cons, pval, DX, Nat.reduceBEq, ↓DN, UP, DF, ashift, aconv, aindexAddr, aindex, aslice, abuiltin, AV.cells, AV.one, reduceCtorEq, ↓reduceIte, nLT, nLE, nEQ, nAdd, nMul, nPow, nSub, zLT, zLE, zNat, RVau319, len32 hk, len48T ht]
    refine hK _ _ ?_
    clear hK K
    refine awp_cond_k ?_
    intro X Y hX hY
    simp only [↓DN, UP, DF, ashift, aconv, aindexAddr, aindex, aslice, abuiltin, AV.cells, AV.one, reduceCtorEq, ↓reduceIte, nLT, nLE, nEQ, nAdd, nMul, nPow, nSub, zLT, zLE, zNat, RVau319, DB]
    refine hX ?_
    clear hX hY X Y
    refine awp_reg_seq ?_
    intro K hK
    simp only [↓DN, UP, DF, ashift, aconv, aindexAddr, aindex, aslice, abuiltin, AV.cells, AV.one, reduceCtorEq, ↓reduceIte, nLT, nLE, nEQ, nAdd, nMul, nPow, nSub, zLT, zLE, zNat, RVau319]
    refine hK _ _ ?_
    clear hK K
    refine awp_ret ?_
    try simp only [thenQ, blockQ]
    simp only [retQ, AEnds, aresL, ares, List.toList_toArray, ↓upd_same]; try simp only [↓DN, UP, DF, ashift, aconv, aindexAddr, aindex, aslice, abuiltin, AV.cells, AV.one, reduceCtorEq, ↓reduceIte, nLT, nLE, nEQ, nAdd, nMul, nPow, nSub, zLT, zLE, zNat, RVau319, DT]
    exact ⟨_, _, AV.weak.refl _, AS.le.refl _, rfl, rfl⟩

end Go.Proofs.YtooeklnbdgoneaaDoor


set_option autoImplicit false
namespace Go.Proofs.YtooeklnbdgoneaaDoor
open Go Go.AM Go.Proofs

theorem RVau415 : type_of% (And.intro (And.intro (And.intro (And.intro (And.intro @Tryd.underlying3 (And.intro T.c3 T.g3)) (And.intro T.b3 (And.intro T.z3 @Tryd.underlying5))) (And.intro (And.intro T.c5 (And.intro T.g5 T.b5)) (And.intro T.z5 (And.intro @Tryd.underlying22 T.c22)))) (And.intro (And.intro (And.intro T.g22 (And.intro T.b22 T.z22)) (And.intro T.s22 (And.intro @Tryd.underlying28 T.c28))) (And.intro (And.intro T.g28 (And.intro T.b28 T.z28)) (And.intro (And.intro T.h28 T.f28_0) (And.intro T.f28_1 T.f28_2))))) Tryd.ntmps15) :=
  (And.intro (And.intro (And.intro (And.intro (And.intro @Tryd.underlying3 (And.intro T.c3 T.g3)) (And.intro T.b3 (And.intro T.z3 @Tryd.underlying5))) (And.intro (And.intro T.c5 (And.intro T.g5 T.b5)) (And.intro T.z5 (And.intro @Tryd.underlying22 T.c22)))) (And.intro (And.intro (And.intro T.g22 (And.intro T.b22 T.z22)) (And.intro T.s22 (And.intro @Tryd.underlying28 T.c28))) (And.intro (And.intro T.g28 (And.intro T.b28 T.z28)) (And.intro (And.intro T.h28 T.f28_0) (And.intro T.f28_1 T.f28_2))))) Tryd.ntmps15)
theorem RVau414 : type_of% (And.intro (And.intro (And.intro (And.intro (And.intro @Tryd.underlying3 (And.intro T.c3 T.g3)) (And.intro (And.intro T.b3 T.z3) (And.intro @Tryd.underlying5 T.c5))) (And.intro (And.intro T.g5 (And.intro T.b5 T.z5)) (And.intro (And.intro @Tryd.underlying9 T.c9) (And.intro T.g9 T.b9)))) (And.intro (And.intro (And.intro T.z9 (And.intro @Tryd.underlying22 T.c22)) (And.intro (And.intro T.g22 T.b22) (And.intro T.z22 T.s22))) (And.intro (And.intro (And.intro @Tryd.underlying30 T.c30) (And.intro T.g30 T.b30)) (And.intro (And.intro T.z30 T.k22) (And.intro T.k16 T.k18))))) Tryd.ntmps14) :=
  (And.intro (And.intro (And.intro (And.intro (And.intro @Tryd.underlying3 (And.intro T.c3 T.g3)) (And.intro (And.intro T.b3 T.z3) (And.intro @Tryd.underlying5 T.c5))) (And.intro (And.intro T.g5 (And.intro T.b5 T.z5)) (And.intro (And.intro @Tryd.underlying9 T.c9) (And.intro T.g9 T.b9)))) (And.intro (And.intro (And.intro T.z9 (And.intro @Tryd.underlying22 T.c22)) (And.intro (And.intro T.g22 T.b22) (And.intro T.z22 T.s22))) (And.intro (And.intro (And.intro @Tryd.underlying30 T.c30) (And.intro T.g30 T.b30)) (And.intro (And.intro T.z30 T.k22) (And.intro T.k16 T.k18))))) Tryd.ntmps14)

variable {Γ : Nat → List AV}

theorem AS.le_set_drop {s s1 : AS} (h : s.le s1) {o : Nat} (hn : s.objs o = none) (cs : List AV) : s.le ((s1.set o cs).drop o) := by
  refine ⟨fun o' cs' h' => ?_, fun t e h' => h.2 t e h'⟩
  have hne : o' ≠ o := by rintro rfl; rw [hn] at h'; cases h'
  show (if o' = o then none else (s1.set o cs).objs o') = some cs'
  rw [if_neg hne, AS.set_objs_ne _ hne]
  exact h.1 o' cs' h'

/-- What the example's secret is wrapped to. -/
def w17 : List UInt8 := Aes.sealed (Vault.vk Vault.key0) (Vault.vn Vault.key0 (Vault.ctx Vault.group0 3)) (Vault.ctx Vault.group0 3) Vault.text0
theorem w17_len : w17.length = 48 := sealed_len _ _ _ _
theorem w17_is : w17 = Vault.m3 ++ Vault.t3 := by
  unfold w17
  rw [Vault.n3_is, Vault.k0_is, Aes.sealed, Vault.m3_is, Vault.t3_is]
theorem w17_four : openedE (Vault.vk Vault.key0) (Vault.vn Vault.key0 (Vault.ctx Vault.group0 4)) (Vault.ctx Vault.group0 4) w17 = 14 := by
  rw [Vault.n4_is, Vault.k0_is]
  unfold openedE
  rw [if_neg (by rw [w17_len]; decide), w17_len, w17_is, show (Vault.m3 ++ Vault.t3).take (48 - 16) = Vault.m3 from rfl, show (Vault.m3 ++ Vault.t3).drop (48 - 16) = Vault.t3 from rfl, if_neg Vault.t4_not]

abbrev caseC17 (k g t : List UInt8) (e : Int) : List AV := [bytesV k .any, bytesV g .any, bytesV t .any, .v (.int .i64 e)]

set_option maxHeartbeats 1000000 in
theorem small17_calls (k g t : List UInt8) (e : Int) (s : AS) : ACalls Tryd.prog Γ 15 [.agg (caseC17 k g t e)] s (fun r s' => ∃ v, r = .v (.bool v) ∧ s' = s ∧ (v = true → k.length ≤ 60 ∧ g.length ≤ 40 ∧ t.length ≤ 100)) := by
  refine acalls_body Tryd.func15 rfl Tryd.ntmps15 Tryd.results15 (by simp) ?_
  unfold caseC17
  refine awp_reg_frz 1 (by simp [dsts]) ?_
  intro K hK
  simp only [↓AXq_nil, ↓AXq_cons, pval, DX, Nat.reduceBEq, ↓DN, UP, DF, ashift, aconv, aindexAddr, aindex, aslice, abuiltin, AV.cells, AV.one, reduceCtorEq, ↓reduceIte, nLT, nLE, nEQ, nAdd, nMul, nPow, nSub, zLT, zLE, zNat, RVau415]
  intro o ho
  refine hK _ _ o _ (by simp only [upd, Nat.reduceEqDiff, ↓reduceIte]) ho ?_
  clear hK K ho
  rcases ff3 (decide ((k.length : Int) ≤ 60)) (decide ((g.length : Int) ≤ 40)) (decide ((t.length : Int) ≤ 100)) with hd | hd | hd | hd
  all_goals
    refine awp_reg_seq ?_
    intro K hK
    simp only [↓DN, UP, DF, ashift, aconv, aindexAddr, aindex, aslice, abuiltin, AV.cells, AV.one, reduceCtorEq, ↓reduceIte, nLT, nLE, nEQ, nAdd, nMul, nPow, nSub, zLT, zLE, zNat, RVau415, hd]
    refine hK _ _ ?_
    clear hK K
    refine awp_ret ?_
    simp only [retQ, AEnds, aresL, ares, List.toList_toArray, ↓upd_same]; try simp only [↓DN, UP, DF, ashift, aconv, aindexAddr, aindex, aslice, abuiltin, AV.cells, AV.one, reduceCtorEq, ↓reduceIte, nLT, nLE, nEQ, nAdd, nMul, nPow, nSub, zLT, zLE, zNat, RVau415, DT]
    refine ⟨_, _, AV.weak.refl _, AS.le.refl _, _, rfl, rfl, ?_⟩
    intro ht
    try cases ht
  · simp only [decide_eq_true_eq, decide_eq_false_iff_not] at hd
    omega

set_option maxHeartbeats 4000000 in
set_option maxRecDepth 100000 in
theorem awake17_calls (hG0 : Γ 0 = stC Sha.H0) (hG : Γ 1 = Sha.K.map wV) (s : AS) :
    ACalls Tryd.prog Γ 14 [] s (fun r s' => r = .v (.bool true) ∧ s' = s) := by
  refine gcalls_body Tryd.func14 rfl Tryd.ntmps14 Tryd.results14 (by simp) ?_
  have c1 := fun s => wrap_ok (Γ := Γ) hG0 hG Vault.key0 Vault.group0 Vault.text0 3 (by decide) (by decide) (by decide) (by decide) s
  have c2 := fun s => unwrap_ok (Γ := Γ) hG0 hG Vault.key0 Vault.group0 w17 3 (by decide) (by decide) (by decide) w17_len s
  have c3 := fun s => unwrap_ok (Γ := Γ) hG0 hG Vault.key0 Vault.group0 w17 4 (by decide) (by decide) (by decide) w17_len s
  have c4 := fun s => bucket_calls (Γ := Γ) 25 10 s
  rw [w17_four] at c3
  change ∀ s, ACalls _ _ _ _ s (fun r s' => r = .tup [bytesV w17 .any, .v (.int .i64 ((0 : Nat) : Int))] ∧ s' = s) at c1
  have o1 : openedT (Vault.vk Vault.key0) (Vault.vn Vault.key0 (Vault.ctx Vault.group0 3)) (Vault.ctx Vault.group0 3) w17 = Vault.text0 := opened_sealedT _ _ _ _
  have o2 : openedE (Vault.vk Vault.key0) (Vault.vn Vault.key0 (Vault.ctx Vault.group0 3)) (Vault.ctx Vault.group0 3) w17 = 0 := opened_sealedE _ _ _ _
  rw [o1, o2] at c2
  generalize openedT (Vault.vk Vault.key0) (Vault.vn Vault.key0 (Vault.ctx Vault.group0 4)) (Vault.ctx Vault.group0 4) w17 = u at *
  have hwl := w17_len
  generalize w17 = w at *
  clear o1 o2
  have htl : Vault.text0.length = 32 := rfl
  have hkl : Vault.key0.length = 32 := rfl
  have hrep1 : ∀ x : AV, List.replicate 1 x = [x] := fun _ => rfl
  refine gwp_seq_k ?_
  intro K1 hK1
  refine awp_reg_end ?_
  intro K hK
  simp only [↓DN, UP, DF, ashift, aconv, aindexAddr, aindex, aslice, abuiltin, AV.cells, AV.one, reduceCtorEq, ↓reduceIte, nLT, nLE, nEQ, nAdd, nMul, nPow, nSub, zLT, zLE, zNat, RVau414]
  refine hK _ _ ?_
  clear hK K
  simp only [thenQ]
  refine hK1 _ _ ?_
  clear hK1 K1
  refine gwp_seq_k ?_
  intro K1 hK1
  have rep32 : ∀ x : AV, List.replicate 32 x = [x, x, x, x, x, x, x, x, x, x, x, x, x, x, x, x, x, x, x, x, x, x, x, x, x, x, x, x, x, x, x, x] := fun _ => rfl
  have hT0 : ([.v (.int .u8 97), .v (.int .u8 32), .v (.int .u8 115), .v (.int .u8 101), .v (.int .u8 99), .v (.int .u8 114), .v (.int .u8 101), .v (.int .u8 116), .v (.int .u8 32), .v (.int .u8 111), .v (.int .u8 102), .v (.int .u8 32), .v (.int .u8 116), .v (.int .u8 119), .v (.int .u8 111), .v (.int .u8 32), .v (.int .u8 97), .v (.int .u8 110), .v (.int .u8 100), .v (.int .u8 32), .v (.int .u8 116), .v (.int .u8 104), .v (.int .u8 105), .v (.int .u8 114), .v (.int .u8 116), .v (.int .u8 121), .v (.int .u8 32), .v (.int .u8 98), .v (.int .u8 121), .v (.int .u8 116), .v (.int .u8 101), .v (.int .u8 115)] : List AV) = Vault.text0.map byteV := rfl
  refine awp_reg_end ?_
  intro K hK
  simp only [↓DN, UP, DF, ashift, aconv, aindexAddr, aindex, aslice, abuiltin, AV.cells, AV.one, reduceCtorEq, ↓reduceIte, nLT, nLE, nEQ, nAdd, nMul, nPow, nSub, zLT, zLE, zNat, RVau414, rep32, hT0]
  refine ⟨by decide, by decide, fun o ho => ?_⟩
  refine hK _ _ ?_
  clear hK K
  simp only [thenQ]
  refine hK1 _ _ ?_
  clear hK1 K1
  refine gwp_freeze (d := 1) (o := o) (n := 32) (cap := 32) (by simp only [upd, Nat.reduceEqDiff, ↓reduceIte]) (AS.set_objs_same _ _ _) (by simp) ?_
  refine gwp_env (fun E s' => E 1 = bytesV Vault.key0 .any ∧ E 2 = .sl 1 32 (Vault.text0.map byteV) .new ∧ s.le s') ⟨by simp only [upd, Nat.reduceEqDiff, ↓reduceIte]; rfl, by simp only [upd, Nat.reduceEqDiff, ↓reduceIte], AS.le_set_drop (AS.le.refl _) ho _⟩ ?_
  rintro E s1 ⟨e1, e2, hle⟩
  refine AWp.g ?_
  have hg0 : ([.v (.int .u8 103)] : List AV) = Vault.group0.map byteV := rfl
  refine awp_reg_seq ?_
  intro K hK
  simp only [↓DN, UP, DF, ashift, aconv, aindexAddr, aindex, aslice, abuiltin, AV.cells, AV.one, reduceCtorEq, ↓reduceIte, nLT, nLE, nEQ, nAdd, nMul, nPow, nSub, zLT, zLE, zNat, RVau414, e1, e2, hrep1, hg0]
  refine acallk (ACalls.weaks (AVs.weak.cons (AV.weak.refl _) (AVs.weak.cons (AV.weak_any) (AVs.weak.cons (AV.weak.refl _) (AVs.weak.cons (AV.weak_any) AVs.weak.nil)))) (c1 _)) ?_
  rintro r s2 ⟨rfl, rfl⟩
  simp only [↓AXq_nil, ↓AXq_cons, pval, DX, Nat.reduceBEq, ↓DN, UP, DF, ashift, aconv, aindexAddr, aindex, aslice, abuiltin, AV.cells, AV.one, reduceCtorEq, ↓reduceIte, nLT, nLE, nEQ, nAdd, nMul, nPow, nSub, zLT, zLE, zNat, RVau414]
  refine hK _ _ ?_
  clear hK K
  refine awp_reg_seq ?_
  intro K hK
  simp only [↓DN, UP, DF, ashift, aconv, aindexAddr, aindex, aslice, abuiltin, AV.cells, AV.one, reduceCtorEq, ↓reduceIte, nLT, nLE, nEQ, nAdd, nMul, nPow, nSub, zLT, zLE, zNat, RVau414, e1, e2, hrep1, hg0]
  refine acallk (ACalls.weaks (AVs.weak.cons (AV.weak.refl _) (AVs.weak.cons (AV.weak_any) (AVs.weak.refl _))) (c2 _)) ?_
  rintro r s3 ⟨rfl, rfl⟩
  simp only [↓AXq_nil, ↓AXq_cons, pval, DX, Nat.reduceBEq, ↓DN, UP, DF, ashift, aconv, aindexAddr, aindex, aslice, abuiltin, AV.cells, AV.one, reduceCtorEq, ↓reduceIte, nLT, nLE, nEQ, nAdd, nMul, nPow, nSub, zLT, zLE, zNat, RVau414]
  refine hK _ _ ?_
  clear hK K
  refine awp_reg_seq ?_
  intro K hK
  simp only [↓DN, UP, DF, ashift, aconv, aindexAddr, aindex, aslice, abuiltin, AV.cells, AV.one, reduceCtorEq, ↓reduceIte, nLT, nLE, nEQ, nAdd, nMul, nPow, nSub, zLT, zLE, zNat, RVau414, e1, e2, hrep1, hg0]
  refine acallk (ACalls.weaks (AVs.weak.cons (AV.weak.refl _) (AVs.weak.cons (AV.weak_any) (AVs.weak.refl _))) (c3 _)) ?_
  rintro r s4 ⟨rfl, rfl⟩
  simp only [↓AXq_nil, ↓AXq_cons, pval, DX, Nat.reduceBEq, ↓DN, UP, DF, ashift, aconv, aindexAddr, aindex, aslice, abuiltin, AV.cells, AV.one, reduceCtorEq, ↓reduceIte, nLT, nLE, nEQ, nAdd, nMul, nPow, nSub, zLT, zLE, zNat, RVau414]
  refine hK _ _ ?_
  clear hK K
  refine awp_reg_seq ?_
  intro K hK
  simp only [↓DN, UP, DF, ashift, aconv, aindexAddr, aindex, aslice, abuiltin, AV.cells, AV.one, reduceCtorEq, ↓reduceIte, nLT, nLE, nEQ, nAdd, nMul, nPow, nSub, zLT, zLE, zNat, RVau414]
  refine acallk (c4 _) ?_
  rintro r s5 ⟨rfl, rfl⟩
  have hq : (if (25 : Int) < 0 then (0 : Int) else if (10 : Int) < 1 then 25 else iquo .i64 25 10) = 2 := by decide
  rw [hq]
  simp only [↓AXq_nil, ↓AXq_cons, pval, DX, Nat.reduceBEq, ↓DN, UP, DF, ashift, aconv, aindexAddr, aindex, aslice, abuiltin, AV.cells, AV.one, reduceCtorEq, ↓reduceIte, nLT, nLE, nEQ, nAdd, nMul, nPow, nSub, zLT, zLE, zNat, RVau414, e2, show (((0 : Nat) : Int) == 0) = true from rfl, show (((14 : Nat) : Int) == 14) = true from rfl, hwl, show (((48 : Nat) : Int) == 48) = true from rfl]
  refine hK _ _ ?_
  clear hK K
  refine awp_ret ?_
  simp only [retQ, AEnds, aresL, ares, List.toList_toArray, ↓upd_same]; try simp only [↓DN, UP, DF, ashift, aconv, aindexAddr, aindex, aslice, abuiltin, AV.cells, AV.one, reduceCtorEq, ↓reduceIte, nLT, nLE, nEQ, nAdd, nMul, nPow, nSub, zLT, zLE, zNat, RVau414, DT]
  refine ⟨_, s, AV.weak.refl _, hle, ?_, rfl⟩
  try rfl

end Go.Proofs.YtooeklnbdgoneaaDoor


set_option autoImplicit false
namespace Go.Proofs.YtooeklnbdgoneaaDoor
open Go Go.AM Go.Proofs

theorem RVau55 : type_of% (And.intro (And.intro (And.intro (And.intro (And.intro (And.intro @Tryd.underlying3 T.c3) (And.intro T.g3 (And.intro T.b3 T.z3))) (And.intro (And.intro @Tryd.underlying4 T.c4) (And.intro T.g4 (And.intro T.b4 T.z4)))) (And.intro (And.intro (And.intro @Tryd.underlying5 T.c5) (And.intro T.g5 (And.intro T.b5 T.z5))) (And.intro (And.intro @Tryd.underlying9 T.c9) (And.intro T.g9 (And.intro T.b9 T.z9))))) (And.intro (And.intro (And.intro (And.intro @Tryd.underlying22 T.c22) (And.intro T.g22 (And.intro T.b22 T.z22))) (And.intro (And.intro T.s22 @Tryd.underlying28) (And.intro T.c28 (And.intro T.g28 T.b28)))) (And.intro (And.intro (And.intro T.z28 T.h28) (And.intro T.f28_0 (And.intro T.f28_1 T.f28_2))) (And.intro (And.intro T.f28_3 T.k19) (And.intro T.k15 (And.intro T.k14 T.k18)))))) Tryd.ntmps5) :=
  (And.intro (And.intro (And.intro (And.intro (And.intro (And.intro @Tryd.underlying3 T.c3) (And.intro T.g3 (And.intro T.b3 T.z3))) (And.intro (And.intro @Tryd.underlying4 T.c4) (And.intro T.g4 (And.intro T.b4 T.z4)))) (And.intro (And.intro (And.intro @Tryd.underlying5 T.c5) (And.intro T.g5 (And.intro T.b5 T.z5))) (And.intro (And.intro @Tryd.underlying9 T.c9) (And.intro T.g9 (And.intro T.b9 T.z9))))) (And.intro (And.intro (And.intro (And.intro @Tryd.underlying22 T.c22) (And.intro T.g22 (And.intro T.b22 T.z22))) (And.intro (And.intro T.s22 @Tryd.underlying28) (And.intro T.c28 (And.intro T.g28 T.b28)))) (And.intro (And.intro (And.intro T.z28 T.h28) (And.intro T.f28_0 (And.intro T.f28_1 T.f28_2))) (And.intro (And.intro T.f28_3 T.k19) (And.intro T.k15 (And.intro T.k14 T.k18)))))) Tryd.ntmps5)
variable {Γ : Nat → List AV}

set_option maxHeartbeats 4000000 in
set_option maxRecDepth 100000 in
theorem vaultUnwraps_calls (hG0 : Γ 0 = stC Sha.H0) (hG : Γ 1 = Sha.K.map wV) (k g t : List UInt8) (e : Int) (s : AS) :
    ACalls Tryd.prog Γ 5 [.agg (caseC17 k g t e)] s (fun r s' => r = .v (.bool true)) := by
  refine acalls_body Tryd.func5 rfl Tryd.ntmps5 Tryd.results5 (by simp) ?_
  have hsm := fun s => small17_calls (Γ := Γ) k g t e s
  unfold caseC17 at *
  refine awp_reg_frz 1 (by simp [dsts]) ?_
  intro K hK
  simp only [↓AXq_nil, ↓AXq_cons, pval, DX, Nat.reduceBEq, ↓DN, UP, DF, ashift, aconv, aindexAddr, aindex, aslice, abuiltin, AV.cells, AV.one, reduceCtorEq, ↓reduceIte, nLT, nLE, nEQ, nAdd, nMul, nPow, nSub, zLT, zLE, zNat, RVau55]
  intro o ho
  refine hK _ _ o _ (by simp only [upd, Nat.reduceEqDiff, ↓reduceIte]) ho ?_
  clear hK K ho
  refine awp_seq_k ?_
  intro K hK
  refine awp_reg_seq ?_
  intro K hK
  simp only [↓DN, UP, DF, ashift, aconv, aindexAddr, aindex, aslice, abuiltin, AV.cells, AV.one, reduceCtorEq, ↓reduceIte, nLT, nLE, nEQ, nAdd, nMul, nPow, nSub, zLT, zLE, zNat, RVau55]
  refine acallk (awake17_calls hG0 hG _) ?_
  rintro r s1 ⟨rfl, rfl⟩
  simp only [↓AXq_nil, ↓AXq_cons, pval, DX, Nat.reduceBEq, ↓DN, UP, DF, ashift, aconv, aindexAddr, aindex, aslice, abuiltin, AV.cells, AV.one, reduceCtorEq, ↓reduceIte, nLT, nLE, nEQ, nAdd, nMul, nPow, nSub, zLT, zLE, zNat, RVau55]
  refine acallk (hsm _) ?_
  rintro r s2 ⟨v, rfl, rfl, hv⟩
  cases v with
  | false =>
    simp only [↓AXq_nil, ↓AXq_cons, pval, DX, Nat.reduceBEq, ↓DN, UP, DF, ashift, aconv, aindexAddr, aindex, aslice, abuiltin, AV.cells, AV.one, reduceCtorEq, ↓reduceIte, nLT, nLE, nEQ, nAdd, nMul, nPow, nSub, zLT, zLE, zNat, RVau55]
    refine hK _ _ ?_
    clear hK K
    refine awp_cond_k ?_
    intro X Y hX hY
    simp only [↓DN, UP, DF, ashift, aconv, aindexAddr, aindex, aslice, abuiltin, AV.cells, AV.one, reduceCtorEq, ↓reduceIte, nLT, nLE, nEQ, nAdd, nMul, nPow, nSub, zLT, zLE, zNat, RVau55, DB]
    refine hX ?_
    clear hX hY X Y
    refine awp_reg_seq ?_
    intro K hK
    simp only [↓DN, UP, DF, ashift, aconv, aindexAddr, aindex, aslice, abuiltin, AV.cells, AV.one, reduceCtorEq, ↓reduceIte, nLT, nLE, nEQ, nAdd, nMul, nPow, nSub, zLT, zLE, zNat, RVau55]
    refine acallk (awake17_calls hG0 hG _) ?_
    rintro r s3 ⟨rfl, rfl⟩
    simp only [↓AXq_nil, ↓AXq_cons, pval, DX, Nat.reduceBEq, ↓DN, UP, DF, ashift, aconv, aindexAddr, aindex, aslice, abuiltin, AV.cells, AV.one, reduceCtorEq, ↓reduceIte, nLT, nLE, nEQ, nAdd, nMul, nPow, nSub, zLT, zLE, zNat, RVau55]
    refine hK _ _ ?_
    clear hK K
    refine awp_ret ?_
    try simp only [thenQ, blockQ]
    simp only [retQ, AEnds, aresL, ares, List.toList_toArray, ↓upd_same]; try simp only [↓DN, UP, DF, ashift, aconv, aindexAddr, aindex, aslice, abuiltin, AV.cells, AV.one, reduceCtorEq, ↓reduceIte, nLT, nLE, nEQ, nAdd, nMul, nPow, nSub, zLT, zLE, zNat, RVau55, DT]
    exact ⟨_, _, AV.weak.refl _, AS.le.refl _, rfl⟩
  | true =>
    obtain ⟨hk, hg, ht⟩ := hv rfl
    clear hv
    simp only [↓AXq_nil, ↓AXq_cons, pval, DX, Nat.reduceBEq, ↓DN, UP, DF, ashift, aconv, aindexAddr, aindex, aslice, abuiltin, AV.cells, AV.one, reduceCtorEq, ↓reduceIte, nLT, nLE, nEQ, nAdd, nMul, nPow, nSub, zLT, zLE, zNat, RVau55]
    refine hK _ _ ?_
    clear hK K
    refine awp_cond_k ?_
    intro X Y hX hY
    simp only [↓DN, UP, DF, ashift, aconv, aindexAddr, aindex, aslice, abuiltin, AV.cells, AV.one, reduceCtorEq, ↓reduceIte, nLT, nLE, nEQ, nAdd, nMul, nPow, nSub, zLT, zLE, zNat, RVau55, DB]
    refine hY ?_
    clear hX hY X Y
    refine awp_skip ?_
    refine hK _ _ ?_
    clear hK K
    have hgo : ∃ (z : List UInt8) (y : Nat), (∀ s, ACalls Tryd.prog Γ 18 [bytesV k .any, bytesV g .any, .v (.int .i64 e), bytesV t .any] s (fun r s' => r = .tup [bytesV z .any, .v (.int .i64 ((y : Nat) : Int))] ∧ s' = s)) ∧
        (∀ s, ACalls Tryd.prog Γ 19 [.v (.string ⟨k.toArray⟩), .v (.string ⟨g.toArray⟩), .v (.int .i64 e), .v (.string ⟨t.toArray⟩)] s (fun r s' => r = .tup [.v (.string ⟨z.toArray⟩), .v (.int .i64 ((y : Nat) : Int))] ∧ s' = s)) := by
      by_cases h : ctxOk g e ∧ k.length = 32 ∧ t.length = 48
      · obtain ⟨⟨h1, h2, h3⟩, h4, h5⟩ := h
        obtain ⟨m, rfl⟩ : ∃ m : Nat, e = (m : Int) := ⟨e.toNat, by omega⟩
        exact ⟨_, _, fun s => unwrap_ok hG0 hG k g t m h1 (by omega) h4 h5 s, fun s => ref_unwrap_ok k g t m h1 (by omega) h4 h5 s⟩
      · exact ⟨[], 2, fun s => unwrap_bad k g t e h s, fun s => ref_unwrap_bad k g t e h s⟩
    obtain ⟨z, y, c1, c2⟩ := hgo
    refine awp_reg_seq ?_
    intro K hK
    simp only [↓DN, UP, DF, ashift, aconv, aindexAddr, aindex, aslice, abuiltin, AV.cells, AV.one, reduceCtorEq, ↓reduceIte, nLT, nLE, nEQ, nAdd, nMul, nPow, nSub, zLT, zLE, zNat, RVau55]
    refine acallk (c1 _) ?_
    rintro r s3 ⟨rfl, rfl⟩
    simp only [↓AXq_nil, ↓AXq_cons, pval, DX, Nat.reduceBEq, ↓DN, UP, DF, ashift, aconv, aindexAddr, aindex, aslice, abuiltin, AV.cells, AV.one, reduceCtorEq, ↓reduceIte, nLT, nLE, nEQ, nAdd, nMul, nPow, nSub, zLT, zLE, zNat, RVau55]
    refine hK _ _ ?_
    clear hK K
    refine awp_reg_seq ?_
    intro K hK
    simp only [↓DN, UP, DF, ashift, aconv, aindexAddr, aindex, aslice, abuiltin, AV.cells, AV.one, reduceCtorEq, ↓reduceIte, nLT, nLE, nEQ, nAdd, nMul, nPow, nSub, zLT, zLE, zNat, RVau55]
    refine acallk (c2 _) ?_
    rintro r s4 ⟨rfl, rfl⟩
    simp only [↓AXq_nil, ↓AXq_cons, pval, DX, Nat.reduceBEq, ↓DN, UP, DF, ashift, aconv, aindexAddr, aindex, aslice, abuiltin, AV.cells, AV.one, reduceCtorEq, ↓reduceIte, nLT, nLE, nEQ, nAdd, nMul, nPow, nSub, zLT, zLE, zNat, RVau55]
    refine hK _ _ ?_
    clear hK K
    refine awp_reg_seq ?_
    intro K hK
    simp only [↓DN, UP, DF, ashift, aconv, aindexAddr, aindex, aslice, abuiltin, AV.cells, AV.one, reduceCtorEq, ↓reduceIte, nLT, nLE, nEQ, nAdd, nMul, nPow, nSub, zLT, zLE, zNat, RVau55, show (((y : Nat) : Int) == ((y : Nat) : Int)) = true from by simp]
    refine hK _ _ ?_
    clear hK K
    refine awp_ret ?_
    simp only [retQ, AEnds, aresL, ares, List.toList_toArray, ↓upd_same]; try simp only [↓DN, UP, DF, ashift, aconv, aindexAddr, aindex, aslice, abuiltin, AV.cells, AV.one, reduceCtorEq, ↓reduceIte, nLT, nLE, nEQ, nAdd, nMul, nPow, nSub, zLT, zLE, zNat, RVau55, DT]
    exact ⟨_, _, AV.weak.refl _, AS.le.refl _, rfl⟩

end Go.Proofs.YtooeklnbdgoneaaDoor


set_option autoImplicit false
namespace Go.AM
open Go

theorem IsTy.record {avs : List AV} (h : IsTy (.struct (.cons tyI (.cons tyB (.cons tyI (.cons tyI (.cons tyI (.cons tyB (.cons tyB (.cons tyB (.cons tyB .nil)))))))))) avs) : ∃ R : Rec, avs = R.cells := by
  obtain ⟨x1, y1, rfl, t1, h⟩ := isF_cons (isTy_struct h)
  obtain ⟨x2, y2, rfl, t2, h⟩ := isF_cons h
  obtain ⟨x3, y3, rfl, t3, h⟩ := isF_cons h
  obtain ⟨x4, y4, rfl, t4, h⟩ := isF_cons h
  obtain ⟨x5, y5, rfl, t5, h⟩ := isF_cons h
  obtain ⟨x6, y6, rfl, t6, h⟩ := isF_cons h
  obtain ⟨x7, y7, rfl, t7, h⟩ := isF_cons h
  obtain ⟨x8, y8, rfl, t8, h⟩ := isF_cons h
  obtain ⟨x9, y9, rfl, t9, h⟩ := isF_cons h
  obtain rfl := isF_nil h
  obtain ⟨n1, rfl, _⟩ := isTy_int t1
  obtain ⟨l2, rfl, _⟩ := t2.bytes
  obtain ⟨n3, rfl, _⟩ := isTy_int t3
  obtain ⟨n4, rfl, _⟩ := isTy_int t4
  obtain ⟨n5, rfl, _⟩ := isTy_int t5
  obtain ⟨l6, rfl, _⟩ := t6.bytes
  obtain ⟨l7, rfl, _⟩ := t7.bytes
  obtain ⟨l8, rfl, _⟩ := t8.bytes
  obtain ⟨l9, rfl, _⟩ := t9.bytes
  exact ⟨⟨n1, l2, n3, n4, n5, l6, l7, l8, l9⟩, rfl⟩
end Go.AM


set_option autoImplicit false
namespace Go.Proofs.YtooeklnbdgoneaaDoor
open Go Go.AM Go.Proofs



theorem case17 {avs : List AV} (h : IsTy (.struct (.cons tyB (.cons tyB (.cons tyB (.cons tyI .nil))))) avs) : ∃ k g t : List UInt8, ∃ e : Int, avs = caseC17 k g t e := by
  obtain ⟨x1, y1, rfl, t1, h⟩ := isF_cons (isTy_struct h)
  obtain ⟨x2, y2, rfl, t2, h⟩ := isF_cons h
  obtain ⟨x3, y3, rfl, t3, h⟩ := isF_cons h
  obtain ⟨x4, y4, rfl, t4, h⟩ := isF_cons h
  obtain rfl := isF_nil h
  obtain ⟨l1, rfl, _⟩ := t1.bytes
  obtain ⟨l2, rfl, _⟩ := t2.bytes
  obtain ⟨l3, rfl, _⟩ := t3.bytes
  obtain ⟨n, rfl, _⟩ := t4
  exact ⟨l1, l2, l3, n, rfl⟩


end Go.Proofs.YtooeklnbdgoneaaDoor


set_option autoImplicit false
namespace Go.Proofs.YtooeklnbdgoneaaDoor
open Go Go.AM Go.Proofs



/-- The given tables, as words. -/
def Γd (g : Nat) : List AV := if g = 0 then [wV Sha.H0.a, wV Sha.H0.b, wV Sha.H0.c, wV Sha.H0.d, wV Sha.H0.e, wV Sha.H0.f, wV Sha.H0.g, wV Sha.H0.h] else if g = 1 then Sha.K.map wV else []
abbrev laidD : List (String × DataW Unit) := [("engrosser/sha.rounds", Rows.laid_engrosser_sha_rounds), ("engrosser/sha.start", Rows.laid_engrosser_sha_start)]

theorem ints_of_trod {H : Type} {enc : TypeId × Value → H} {P : Program} {W : World} {base : Nat} {sp : Nat → Bool} {held : Bool} {fuel : Nat} {t e : TypeId} {n : Nat} {cs : List Value} {p : List MemPlace} {l : List Nat}
    (hT : P.underlying t = some (.array n e)) (he : P.underlying e = some (.int .u32)) (hc : P.cellsOf e = 1)
    (h : DataW.trod enc P W base sp held fuel t cs = some (.agg (l.map fun (x : Nat) => .lit (.int .u32 (x : Int))), p)) : ∀ (i x : Nat), l[i]? = some x → cs[i]? = some (.int .u32 (x : Int)) := by
  obtain ⟨xs, m, rfl, hx, hlen, hn, hel⟩ := DataW.trod_array hT h
  simp only [Prod.mk.injEq, DataW.agg.injEq] at hx
  intro i x hi
  have h1 : (l.map fun (x : Nat) => DataW.lit (H := H) (.int .u32 (x : Int)))[i]? = some (.lit (.int .u32 (x : Int))) := by rw [List.getElem?_map, hi]; rfl
  rw [hx.1, List.getElem?_map] at h1
  cases hy : xs[i]? with
  | none => rw [hy] at h1; cases h1
  | some y =>
    rw [hy] at h1
    simp only [Option.map_some, Option.some.injEq] at h1
    have hlt := (List.getElem?_eq_some_iff.1 hy).1
    have h2 := hel i (by omega)
    rw [hy, hc, Nat.mul_one] at h2
    obtain ⟨k, e1, e2, _⟩ := DataW.trod_int he h2
    rw [e2] at h1
    simp only [DataW.lit.injEq, Lit.int.injEq, true_and] at h1
    have h3 : (List.take 1 (List.drop i cs))[0]? = some (.int .u32 k) := by rw [e1]; rfl
    rw [List.getElem?_take, if_pos (by decide), List.getElem?_drop, Nat.add_zero, h1] at h3
    exact h3

theorem gRounds : Tryd.prog.globalNamed "engrosser/sha.rounds" = some 1 := by kernel_rfl
theorem gStart : Tryd.prog.globalNamed "engrosser/sha.start" = some 0 := by kernel_rfl
theorem tRounds : (Tryd.prog.globals[1]?).map (·.type) = some 133 := by kernel_rfl
theorem tStart : (Tryd.prog.globals[0]?).map (·.type) = some 114 := by kernel_rfl

theorem words_at {W : World} {g : Nat} {cs : Array Value} {l : List Nat} (hc : ∀ i, W.cell? ⟨g, i, none⟩ = cs[i]?) (h : ∀ (i x : Nat), l[i]? = some x → cs.toList[i]? = some (.int .u32 (x : Int))) :
    ∃ vs, VRels (G0 W) (l.map wV) vs ∧ RoAt (G0 W) g 0 vs := by
  refine ⟨l.map fun (x : Nat) => .int .u32 (x : Int), ?_, ?_⟩
  · have := VRels.vals (G := G0 W) (l.map fun (x : Nat) => Value.int .u32 (x : Int))
    rwa [List.map_map] at this
  · intro j u hu
    rw [List.getElem?_map] at hu
    cases hj : l[j]? with
    | none => rw [hj] at hu; cases hu
    | some x =>
      rw [hj] at hu
      simp only [Option.map_some, Option.some.injEq] at hu
      have := h j x hj
      show W.cell? ⟨g, 0 + j, none⟩ = some u
      rw [Nat.zero_add, hc j, ← hu]
      simpa using this

/-- What the condition gives the walks: the two tables' cells. -/
theorem of_laid {W : World} (h : laidMetH Tryd.prog laidD W) : ∀ g, ∃ vs, VRels (G0 W) (Γd g) vs ∧ RoAt (G0 W) g 0 vs := by
  rw [MakeChecks.laidMetH_plain _ _ _ (by kernel_rfl)] at h
  obtain ⟨ps, ⟨g0, t0, cs0, f0, p0, q0, hg0, ht0, hv0, hd0, ⟨g1, t1, cs1, f1, p1, q1, hg1, ht1, hv1, hd1, _, _⟩, _⟩, _, _⟩ := h
  obtain rfl := Option.some.inj (gRounds.symm.trans hg0)
  obtain rfl := Option.some.inj (gStart.symm.trans hg1)
  obtain rfl := Option.some.inj (tRounds.symm.trans ht0)
  obtain rfl := Option.some.inj (tStart.symm.trans ht1)
  have h1 := words_at (World.var?_cell hg0 hv0) (ints_of_trod (l := Sha.K) Tryd.underlying133 Tryd.underlying81 T.c81 hd0)
  have h0 := words_at (World.var?_cell hg1 hv1) (ints_of_trod (l := Sha.H0.list) Tryd.underlying114 Tryd.underlying81 T.c81 hd1)
  intro g
  by_cases e0 : g = 0
  · subst e0; exact h0
  · by_cases e1 : g = 1
    · subst e1; exact h1
    · refine ⟨[], ?_, fun j u h => by simp at h⟩
      simp [Γd, e0, e1, VRels]

/-- The door's own heap meets the condition. -/
theorem door_met (os : Os) (args : Array Value) : laidMetH Tryd.prog laidD ((World.doorLaid Tryd.prog 400 os).forCall (fun _ _ => 0) ⟨#[], args, []⟩).memory := by
  rw [MakeChecks.laidMetH_plain _ _ _ (by kernel_rfl)]
  exact laidMet_of_run' 8 (by kernel_rfl) (by kernel_rfl)

end Go.Proofs.YtooeklnbdgoneaaDoor


set_option autoImplicit false
namespace Go.Proofs.YtooeklnbdgoneaaDoor
/-! ### The words of the translation's head, read once -/
set_option maxRecDepth 100000
def signs : List Char := [Char.ofNat 104, Char.ofNat 97, Char.ofNat 114, Char.ofNat 110, Char.ofNat 101, Char.ofNat 115, Char.ofNat 115, Char.ofNat 32, Char.ofNat 52, Char.ofNat 99, Char.ofNat 100, Char.ofNat 54, Char.ofNat 101, Char.ofNat 102, Char.ofNat 48, Char.ofNat 101, Char.ofNat 99, Char.ofNat 55, Char.ofNat 97, Char.ofNat 56, Char.ofNat 56, Char.ofNat 100, Char.ofNat 49, Char.ofNat 57, Char.ofNat 102, Char.ofNat 100, Char.ofNat 55, Char.ofNat 97, Char.ofNat 100, Char.ofNat 53, Char.ofNat 51, Char.ofNat 97, Char.ofNat 51, Char.ofNat 49, Char.ofNat 100, Char.ofNat 99, Char.ofNat 48, Char.ofNat 50, Char.ofNat 51, Char.ofNat 48, Char.ofNat 98, Char.ofNat 56, Char.ofNat 51, Char.ofNat 102, Char.ofNat 98, Char.ofNat 50, Char.ofNat 55, Char.ofNat 100, Char.ofNat 101, Char.ofNat 100, Char.ofNat 50, Char.ofNat 55, Char.ofNat 53, Char.ofNat 56, Char.ofNat 100, Char.ofNat 49, Char.ofNat 49, Char.ofNat 48, Char.ofNat 99, Char.ofNat 100, Char.ofNat 102, Char.ofNat 53, Char.ofNat 98, Char.ofNat 57, Char.ofNat 50, Char.ofNat 54, Char.ofNat 54, Char.ofNat 57, Char.ofNat 52, Char.ofNat 100, Char.ofNat 98, Char.ofNat 57, Char.ofNat 32, Char.ofNat 99, Char.ofNat 117, Char.ofNat 116, Char.ofNat 32, Char.ofNat 97, Char.ofNat 116, Char.ofNat 32, Char.ofNat 101, Char.ofNat 110, Char.ofNat 103, Char.ofNat 114, Char.ofNat 111, Char.ofNat 115, Char.ofNat 115, Char.ofNat 101, Char.ofNat 114, Char.ofNat 47, Char.ofNat 101, Char.ofNat 110, Char.ofNat 103, Char.ofNat 114, Char.ofNat 111, Char.ofNat 115, Char.ofNat 115, Char.ofNat 101, Char.ofNat 114, Char.ofNat 108, Char.ofNat 97, Char.ofNat 119, Char.ofNat 48, Char.ofNat 51, Char.ofNat 46, Char.ofNat 77, Char.ofNat 97, Char.ofNat 99, Char.ofNat 78, Char.ofNat 111, Char.ofNat 117, Char.ofNat 103, Char.ofNat 104, Char.ofNat 116, Char.ofNat 115, Char.ofNat 32, Char.ofNat 101, Char.ofNat 110, Char.ofNat 103, Char.ofNat 114, Char.ofNat 111, Char.ofNat 115, Char.ofNat 115, Char.ofNat 101, Char.ofNat 114, Char.ofNat 47, Char.ofNat 101, Char.ofNat 110, Char.ofNat 103, Char.ofNat 114, Char.ofNat 111, Char.ofNat 115, Char.ofNat 115, Char.ofNat 101, Char.ofNat 114, Char.ofNat 108, Char.ofNat 97, Char.ofNat 119, Char.ofNat 49, Char.ofNat 55, Char.ofNat 46, Char.ofNat 86, Char.ofNat 97, Char.ofNat 117, Char.ofNat 108, Char.ofNat 116, Char.ofNat 87, Char.ofNat 114, Char.ofNat 97, Char.ofNat 112, Char.ofNat 115, Char.ofNat 32, Char.ofNat 101, Char.ofNat 110, Char.ofNat 103, Char.ofNat 114, Char.ofNat 111, Char.ofNat 115, Char.ofNat 115, Char.ofNat 101, Char.ofNat 114, Char.ofNat 47, Char.ofNat 101, Char.ofNat 110, Char.ofNat 103, Char.ofNat 114, Char.ofNat 111, Char.ofNat 115, Char.ofNat 115, Char.ofNat 101, Char.ofNat 114, Char.ofNat 108, Char.ofNat 97, Char.ofNat 119, Char.ofNat 49, Char.ofNat 55, Char.ofNat 46, Char.ofNat 86, Char.ofNat 97, Char.ofNat 117, Char.ofNat 108, Char.ofNat 116, Char.ofNat 85, Char.ofNat 110, Char.ofNat 119, Char.ofNat 114, Char.ofNat 97, Char.ofNat 112, Char.ofNat 115, Char.ofNat 32, Char.ofNat 101, Char.ofNat 110, Char.ofNat 103, Char.ofNat 114, Char.ofNat 111, Char.ofNat 115, Char.ofNat 115, Char.ofNat 101, Char.ofNat 114, Char.ofNat 47, Char.ofNat 101, Char.ofNat 110, Char.ofNat 103, Char.ofNat 114, Char.ofNat 111, Char.ofNat 115, Char.ofNat 115, Char.ofNat 101, Char.ofNat 114, Char.ofNat 108, Char.ofNat 97, Char.ofNat 119, Char.ofNat 49, Char.ofNat 55, Char.ofNat 46, Char.ofNat 86, Char.ofNat 97, Char.ofNat 117, Char.ofNat 108, Char.ofNat 116, Char.ofNat 67, Char.ofNat 111, Char.ofNat 110, Char.ofNat 116, Char.ofNat 101, Char.ofNat 120, Char.ofNat 116, Char.ofNat 115, Char.ofNat 32, Char.ofNat 101, Char.ofNat 110, Char.ofNat 103, Char.ofNat 114, Char.ofNat 111, Char.ofNat 115, Char.ofNat 115, Char.ofNat 101, Char.ofNat 114, Char.ofNat 47, Char.ofNat 101, Char.ofNat 110, Char.ofNat 103, Char.ofNat 114, Char.ofNat 111, Char.ofNat 115, Char.ofNat 115, Char.ofNat 101, Char.ofNat 114, Char.ofNat 108, Char.ofNat 97, Char.ofNat 119, Char.ofNat 48, Char.ofNat 56, Char.ofNat 46, Char.ofNat 72, Char.ofNat 112, Char.ofNat 107, Char.ofNat 101, Char.ofNat 83, Char.ofNat 101, Char.ofNat 97, Char.ofNat 108, Char.ofNat 115, Char.ofNat 32, Char.ofNat 101, Char.ofNat 110, Char.ofNat 103, Char.ofNat 114, Char.ofNat 111, Char.ofNat 115, Char.ofNat 115, Char.ofNat 101, Char.ofNat 114, Char.ofNat 47, Char.ofNat 101, Char.ofNat 110, Char.ofNat 103, Char.ofNat 114, Char.ofNat 111, Char.ofNat 115, Char.ofNat 115, Char.ofNat 101, Char.ofNat 114, Char.ofNat 108, Char.ofNat 97, Char.ofNat 119, Char.ofNat 48, Char.ofNat 56, Char.ofNat 46, Char.ofNat 72, Char.ofNat 112, Char.ofNat 107, Char.ofNat 101, Char.ofNat 79, Char.ofNat 112, Char.ofNat 101, Char.ofNat 110, Char.ofNat 115, Char.ofNat 32, Char.ofNat 101, Char.ofNat 110, Char.ofNat 103, Char.ofNat 114, Char.ofNat 111, Char.ofNat 115, Char.ofNat 115, Char.ofNat 101, Char.ofNat 114, Char.ofNat 47, Char.ofNat 101, Char.ofNat 110, Char.ofNat 103, Char.ofNat 114, Char.ofNat 111, Char.ofNat 115, Char.ofNat 115, Char.ofNat 101, Char.ofNat 114, Char.ofNat 108, Char.ofNat 97, Char.ofNat 119, Char.ofNat 48, Char.ofNat 56, Char.ofNat 46, Char.ofNat 72, Char.ofNat 112, Char.ofNat 107, Char.ofNat 101, Char.ofNat 66, Char.ofNat 97, Char.ofNat 99, Char.ofNat 107, Char.ofNat 32, Char.ofNat 101, Char.ofNat 110, Char.ofNat 103, Char.ofNat 114, Char.ofNat 111, Char.ofNat 115, Char.ofNat 115, Char.ofNat 101, Char.ofNat 114, Char.ofNat 47, Char.ofNat 101, Char.ofNat 110, Char.ofNat 103, Char.ofNat 114, Char.ofNat 111, Char.ofNat 115, Char.ofNat 115, Char.ofNat 101, Char.ofNat 114, Char.ofNat 108, Char.ofNat 97, Char.ofNat 119, Char.ofNat 48, Char.ofNat 56, Char.ofNat 46, Char.ofNat 72, Char.ofNat 112, Char.ofNat 107, Char.ofNat 101, Char.ofNat 82, Char.ofNat 101, Char.ofNat 97, Char.ofNat 100, Char.ofNat 115]
def headWords : List (List Char) := [[Char.ofNat 104, Char.ofNat 97, Char.ofNat 114, Char.ofNat 110, Char.ofNat 101, Char.ofNat 115, Char.ofNat 115],
  [Char.ofNat 52, Char.ofNat 99, Char.ofNat 100, Char.ofNat 54, Char.ofNat 101, Char.ofNat 102, Char.ofNat 48, Char.ofNat 101, Char.ofNat 99, Char.ofNat 55, Char.ofNat 97, Char.ofNat 56, Char.ofNat 56, Char.ofNat 100, Char.ofNat 49, Char.ofNat 57, Char.ofNat 102, Char.ofNat 100, Char.ofNat 55, Char.ofNat 97, Char.ofNat 100, Char.ofNat 53, Char.ofNat 51, Char.ofNat 97, Char.ofNat 51, Char.ofNat 49, Char.ofNat 100, Char.ofNat 99, Char.ofNat 48, Char.ofNat 50, Char.ofNat 51, Char.ofNat 48, Char.ofNat 98, Char.ofNat 56, Char.ofNat 51, Char.ofNat 102, Char.ofNat 98, Char.ofNat 50, Char.ofNat 55, Char.ofNat 100, Char.ofNat 101, Char.ofNat 100, Char.ofNat 50, Char.ofNat 55, Char.ofNat 53, Char.ofNat 56, Char.ofNat 100, Char.ofNat 49, Char.ofNat 49, Char.ofNat 48, Char.ofNat 99, Char.ofNat 100, Char.ofNat 102, Char.ofNat 53, Char.ofNat 98, Char.ofNat 57, Char.ofNat 50, Char.ofNat 54, Char.ofNat 54, Char.ofNat 57, Char.ofNat 52, Char.ofNat 100, Char.ofNat 98, Char.ofNat 57],
  [Char.ofNat 99, Char.ofNat 117, Char.ofNat 116],
  [Char.ofNat 97, Char.ofNat 116],
  [Char.ofNat 101, Char.ofNat 110, Char.ofNat 103, Char.ofNat 114, Char.ofNat 111, Char.ofNat 115, Char.ofNat 115, Char.ofNat 101, Char.ofNat 114, Char.ofNat 47, Char.ofNat 101, Char.ofNat 110, Char.ofNat 103, Char.ofNat 114, Char.ofNat 111, Char.ofNat 115, Char.ofNat 115, Char.ofNat 101, Char.ofNat 114, Char.ofNat 108, Char.ofNat 97, Char.ofNat 119, Char.ofNat 48, Char.ofNat 51, Char.ofNat 46, Char.ofNat 77, Char.ofNat 97, Char.ofNat 99, Char.ofNat 78, Char.ofNat 111, Char.ofNat 117, Char.ofNat 103, Char.ofNat 104, Char.ofNat 116, Char.ofNat 115],
  [Char.ofNat 101, Char.ofNat 110, Char.ofNat 103, Char.ofNat 114, Char.ofNat 111, Char.ofNat 115, Char.ofNat 115, Char.ofNat 101, Char.ofNat 114, Char.ofNat 47, Char.ofNat 101, Char.ofNat 110, Char.ofNat 103, Char.ofNat 114, Char.ofNat 111, Char.ofNat 115, Char.ofNat 115, Char.ofNat 101, Char.ofNat 114, Char.ofNat 108, Char.ofNat 97, Char.ofNat 119, Char.ofNat 49, Char.ofNat 55, Char.ofNat 46, Char.ofNat 86, Char.ofNat 97, Char.ofNat 117, Char.ofNat 108, Char.ofNat 116, Char.ofNat 87, Char.ofNat 114, Char.ofNat 97, Char.ofNat 112, Char.ofNat 115],
  [Char.ofNat 101, Char.ofNat 110, Char.ofNat 103, Char.ofNat 114, Char.ofNat 111, Char.ofNat 115, Char.ofNat 115, Char.ofNat 101, Char.ofNat 114, Char.ofNat 47, Char.ofNat 101, Char.ofNat 110, Char.ofNat 103, Char.ofNat 114, Char.ofNat 111, Char.ofNat 115, Char.ofNat 115, Char.ofNat 101, Char.ofNat 114, Char.ofNat 108, Char.ofNat 97, Char.ofNat 119, Char.ofNat 49, Char.ofNat 55, Char.ofNat 46, Char.ofNat 86, Char.ofNat 97, Char.ofNat 117, Char.ofNat 108, Char.ofNat 116, Char.ofNat 85, Char.ofNat 110, Char.ofNat 119, Char.ofNat 114, Char.ofNat 97, Char.ofNat 112, Char.ofNat 115],
  [Char.ofNat 101, Char.ofNat 110, Char.ofNat 103, Char.ofNat 114, Char.ofNat 111, Char.ofNat 115, Char.ofNat 115, Char.ofNat 101, Char.ofNat 114, Char.ofNat 47, Char.ofNat 101, Char.ofNat 110, Char.ofNat 103, Char.ofNat 114, Char.ofNat 111, Char.ofNat 115, Char.ofNat 115, Char.ofNat 101, Char.ofNat 114, Char.ofNat 108, Char.ofNat 97, Char.ofNat 119, Char.ofNat 49, Char.ofNat 55, Char.ofNat 46, Char.ofNat 86, Char.ofNat 97, Char.ofNat 117, Char.ofNat 108, Char.ofNat 116, Char.ofNat 67, Char.ofNat 111, Char.ofNat 110, Char.ofNat 116, Char.ofNat 101, Char.ofNat 120, Char.ofNat 116, Char.ofNat 115],
  [Char.ofNat 101, Char.ofNat 110, Char.ofNat 103, Char.ofNat 114, Char.ofNat 111, Char.ofNat 115, Char.ofNat 115, Char.ofNat 101, Char.ofNat 114, Char.ofNat 47, Char.ofNat 101, Char.ofNat 110, Char.ofNat 103, Char.ofNat 114, Char.ofNat 111, Char.ofNat 115, Char.ofNat 115, Char.ofNat 101, Char.ofNat 114, Char.ofNat 108, Char.ofNat 97, Char.ofNat 119, Char.ofNat 48, Char.ofNat 56, Char.ofNat 46, Char.ofNat 72, Char.ofNat 112, Char.ofNat 107, Char.ofNat 101, Char.ofNat 83, Char.ofNat 101, Char.ofNat 97, Char.ofNat 108, Char.ofNat 115],
  [Char.ofNat 101, Char.ofNat 110, Char.ofNat 103, Char.ofNat 114, Char.ofNat 111, Char.ofNat 115, Char.ofNat 115, Char.ofNat 101, Char.ofNat 114, Char.ofNat 47, Char.ofNat 101, Char.ofNat 110, Char.ofNat 103, Char.ofNat 114, Char.ofNat 111, Char.ofNat 115, Char.ofNat 115, Char.ofNat 101, Char.ofNat 114, Char.ofNat 108, Char.ofNat 97, Char.ofNat 119, Char.ofNat 48, Char.ofNat 56, Char.ofNat 46, Char.ofNat 72, Char.ofNat 112, Char.ofNat 107, Char.ofNat 101, Char.ofNat 79, Char.ofNat 112, Char.ofNat 101, Char.ofNat 110, Char.ofNat 115],
  [Char.ofNat 101, Char.ofNat 110, Char.ofNat 103, Char.ofNat 114, Char.ofNat 111, Char.ofNat 115, Char.ofNat 115, Char.ofNat 101, Char.ofNat 114, Char.ofNat 47, Char.ofNat 101, Char.ofNat 110, Char.ofNat 103, Char.ofNat 114, Char.ofNat 111, Char.ofNat 115, Char.ofNat 115, Char.ofNat 101, Char.ofNat 114, Char.ofNat 108, Char.ofNat 97, Char.ofNat 119, Char.ofNat 48, Char.ofNat 56, Char.ofNat 46, Char.ofNat 72, Char.ofNat 112, Char.ofNat 107, Char.ofNat 101, Char.ofNat 66, Char.ofNat 97, Char.ofNat 99, Char.ofNat 107],
  [Char.ofNat 101, Char.ofNat 110, Char.ofNat 103, Char.ofNat 114, Char.ofNat 111, Char.ofNat 115, Char.ofNat 115, Char.ofNat 101, Char.ofNat 114, Char.ofNat 47, Char.ofNat 101, Char.ofNat 110, Char.ofNat 103, Char.ofNat 114, Char.ofNat 111, Char.ofNat 115, Char.ofNat 115, Char.ofNat 101, Char.ofNat 114, Char.ofNat 108, Char.ofNat 97, Char.ofNat 119, Char.ofNat 48, Char.ofNat 56, Char.ofNat 46, Char.ofNat 72, Char.ofNat 112, Char.ofNat 107, Char.ofNat 101, Char.ofNat 82, Char.ofNat 101, Char.ofNat 97, Char.ofNat 100, Char.ofNat 115]]
theorem initS : Tryd.prog.initOrder = String.ofList signs := by kernel_rfl
theorem words : wordsSigns Tryd.prog.initOrder.toList = headWords := by
  rw [initS, String.toList_ofList]
  kernel_rfl
theorem both {a b : Bool} (h : a = true) (k : b = true) : (a && b) = true := by rw [h, k]; rfl
theorem same_of {a b : Bool} (h : b = a) : (a == b) = true := by rw [h]; cases a <;> rfl
theorem make_of {a b : Option Make} (h : a = b) : (a == b) = true := by rw [h]; exact beq_self_eq_true _
theorem strip_cut (r : List (List Char)) : stripLifts liftWords ("cut".toList :: r) = ([], "cut".toList :: r) := by kernel_rfl
theorem lifts_cut {P : Program} {r} (h : behindMainWord (wordsSigns P.initOrder.toList) = "cut".toList :: r) : P.headLifts = [] := by
  unfold Program.headLifts
  rw [h, strip_cut]
  kernel_rfl
theorem make_cut {P : Program} {r} (h : behindMainWord (wordsSigns P.initOrder.toList) = "cut".toList :: r) : P.make = some .cut := by
  unfold Program.make
  rw [h, lifts_cut h]
  kernel_rfl
theorem final_cut {P : Program} {r} (h : behindMainWord (wordsSigns P.initOrder.toList) = "cut".toList :: r) : P.liftsFinal = false := by
  unfold Program.liftsFinal
  rw [h, lifts_cut h]
  kernel_rfl
theorem main_har {P : Program} {s r} (h : wordsSigns P.initOrder.toList = "harness".toList :: s :: r) (hs : isSumSigns s = true) : P.mainIs = some (true, s) := by
  unfold Program.mainIs
  rw [h]
  dsimp only
  rw [hs]
  kernel_rfl
theorem may_cut {P : Program} {r} (h : behindMainWord (wordsSigns P.initOrder.toList) = "cut".toList :: r) (hl : P.laysLater = false) (hr : P.bearsReflect = false) (hd : P.doorFits [] = true) : P.mayEnter = true := by
  unfold Program.mayEnter
  rw [h, hl, hr]
  dsimp only
  rw [strip_cut]
  dsimp only
  rw [hd]
  kernel_rfl
theorem behind : behindMainWord (wordsSigns Tryd.prog.initOrder.toList) = "cut".toList :: headWords.drop 3 := (congrArg behindMainWord words).trans (by kernel_rfl)
theorem headMake : Tryd.prog.make = some .cut := make_cut behind
theorem headMain : Tryd.prog.mainIs = some (true, "4cd6ef0ec7a88d19fd7ad53a31dc0230b83fb27ded2758d110cdf5b926694db9".toList) := main_har (r := headWords.drop 2) (words.trans (by kernel_rfl)) (by kernel_rfl)
theorem headMay : Tryd.prog.mayEnter = true := may_cut behind (by kernel_rfl) (by kernel_rfl) (by kernel_rfl)
theorem headFin : Tryd.prog.liftsFinal = false := final_cut behind
end Go.Proofs.YtooeklnbdgoneaaDoor


