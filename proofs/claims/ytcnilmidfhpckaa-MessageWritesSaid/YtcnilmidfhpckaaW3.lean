/- Contracts of the program's functions, each walked once; the conditions stand in each theorem. -/
import Derived.Test.YtcnilmidfhpckaaAMp6
import Derived.Test.YtcnilmidfhpckaaW2
set_option linter.unusedSimpArgs false
set_option linter.unusedVariables false
open Nat renaming reduceLT → nLT, reduceLeDiff → nLE, reduceEqDiff → nEQ, reduceAdd → nAdd, reduceMul → nMul, reducePow → nPow, reduceSub → nSub
open Int renaming reduceLT → zLT, reduceLE → zLE, reduceToNat → zNat
open Go.AM renaming ashift → qSh, aconv → qCv, aindexAddr → qIA, aindex → qIx, aslice → qSl, abuiltin → qBu
open Go.AM.AV renaming cells → qCe, one → qOn
set_option autoImplicit false
namespace Go.Proofs.Ytcnilmidfhpckaa
open Go Go.AM Go.Proofs

theorem RMsg149 : type_of% (And.intro (And.intro (And.intro (And.intro (And.intro @Try.underlying3 T.c3) (And.intro T.g3 T.b3)) (And.intro (And.intro T.z3 @Try.underlying5) (And.intro T.c5 T.g5))) (And.intro (And.intro (And.intro T.b5 T.z5) (And.intro @Try.underlying28 T.c28)) (And.intro (And.intro T.g28 T.b28) (And.intro T.z28 T.s28)))) Try.ntmps49) :=
  (And.intro (And.intro (And.intro (And.intro (And.intro @Try.underlying3 T.c3) (And.intro T.g3 T.b3)) (And.intro (And.intro T.z3 @Try.underlying5) (And.intro T.c5 T.g5))) (And.intro (And.intro (And.intro T.b5 T.z5) (And.intro @Try.underlying28 T.c28)) (And.intro (And.intro T.g28 T.b28) (And.intro T.z28 T.s28)))) Try.ntmps49)
theorem RMsg150 : type_of% (And.intro (And.intro (And.intro @Try.underlying3 T.c3) (And.intro T.g3 (And.intro T.b3 T.z3))) Try.ntmps50) :=
  (And.intro (And.intro (And.intro @Try.underlying3 T.c3) (And.intro T.g3 (And.intro T.b3 T.z3))) Try.ntmps50)
theorem RMsg148 : type_of% (And.intro (And.intro (And.intro (And.intro (And.intro (And.intro @Try.underlying3 T.c3) (And.intro T.g3 T.b3)) (And.intro (And.intro T.z3 @Try.underlying5) (And.intro T.c5 T.g5))) (And.intro (And.intro (And.intro T.b5 T.z5) (And.intro @Try.underlying28 T.c28)) (And.intro (And.intro T.g28 T.b28) (And.intro T.z28 (And.intro T.s28 @Try.underlying42))))) (And.intro (And.intro (And.intro (And.intro T.c42 T.g42) (And.intro T.b42 T.z42)) (And.intro (And.intro @Try.underlying80 T.c80) (And.intro T.g80 (And.intro T.b80 T.z80)))) (And.intro (And.intro (And.intro T.h80 T.f80_0) (And.intro T.f80_1 T.f80_2)) (And.intro (And.intro T.f80_3 T.f80_4) (And.intro T.k99 (And.intro T.k50 T.k49)))))) Try.ntmps48) :=
  (And.intro (And.intro (And.intro (And.intro (And.intro (And.intro @Try.underlying3 T.c3) (And.intro T.g3 T.b3)) (And.intro (And.intro T.z3 @Try.underlying5) (And.intro T.c5 T.g5))) (And.intro (And.intro (And.intro T.b5 T.z5) (And.intro @Try.underlying28 T.c28)) (And.intro (And.intro T.g28 T.b28) (And.intro T.z28 (And.intro T.s28 @Try.underlying42))))) (And.intro (And.intro (And.intro (And.intro T.c42 T.g42) (And.intro T.b42 T.z42)) (And.intro (And.intro @Try.underlying80 T.c80) (And.intro T.g80 (And.intro T.b80 T.z80)))) (And.intro (And.intro (And.intro T.h80 T.f80_0) (And.intro T.f80_1 T.f80_2)) (And.intro (And.intro T.f80_3 T.f80_4) (And.intro T.k99 (And.intro T.k50 T.k49)))))) Try.ntmps48)

variable {Γ : Nat → List AV}

theorem pub_bool (n : Nat) : (decide (2 ≤ (n : Int)) && decide ((n : Int) ≤ 2305843009213693949)) = decide (Pub n) := by
  rw [← Bool.decide_and]
  apply decide_eq_decide.2
  unfold Pub
  omega
theorem rightP_calls (n : Nat) (s : AS) : ACalls Try.prog Γ 99 [.v (.int .u64 n)] s (fun r s' => r = .v (.bool (decide (Pub n))) ∧ s' = s) := by
  have := powerRight_calls (Γ := Γ) n s
  rwa [pub_bool] at this
theorem refRightP_calls (n : Nat) (s : AS) : ACalls Try.prog Γ 54 [.v (.int .u64 n)] s (fun r s' => r = .v (.bool (decide (Pub n))) ∧ s' = s) := by
  have := refRight07_calls (Γ := Γ) n s
  rwa [pub_bool] at this

theorem named_calls (l : List UInt8) (s : AS) : ACalls Try.prog Γ 49 [bytesV l .any] s (fun r s' => r = .v (.bool (decide (1 ≤ l.length ∧ l.length ≤ 16))) ∧ s' = s) := by
  refine acalls_body Try.func49 rfl Try.ntmps49 Try.results49 (by simp) ?_
  refine awp_reg_seq ?_
  intro K hK
  simp only [↓DN, UP, DF, qSh, qCv, qIA, qIx, qSl, qBu, qCe, qOn, reduceCtorEq, ↓reduceIte, nLT, nLE, nEQ, nAdd, nMul, nPow, nSub, zLT, zLE, zNat, RMsg149]
  refine hK _ _ ?_
  clear hK K
  rcases ff2 (decide ((1 : Int) ≤ (l.length : Int))) (decide ((l.length : Int) ≤ 16)) with hd | hd | hd
  all_goals
    refine awp_reg_seq ?_
    intro K hK
    simp only [↓DN, UP, DF, qSh, qCv, qIA, qIx, qSl, qBu, qCe, qOn, reduceCtorEq, ↓reduceIte, nLT, nLE, nEQ, nAdd, nMul, nPow, nSub, zLT, zLE, zNat, RMsg149, hd]
    refine hK _ _ ?_
    clear hK K
    refine awp_ret ?_
    simp only [retQ, AEnds, aresL, ares, List.toList_toArray, ↓upd_same]; try simp only [↓DN, UP, DF, qSh, qCv, qIA, qIx, qSl, qBu, qCe, qOn, reduceCtorEq, ↓reduceIte, nLT, nLE, nEQ, nAdd, nMul, nPow, nSub, zLT, zLE, zNat, RMsg149, DT]
    refine ⟨_, _, AV.weak.refl _, AS.le.refl _, ?_, rfl⟩
    simp only [decide_eq_true_eq, decide_eq_false_iff_not] at hd
    congr 2
    first
      | exact (decide_eq_true (by omega)).symm
      | exact (decide_eq_false (by omega)).symm

theorem leaf_calls (n : Int) (s : AS) : ACalls Try.prog Γ 50 [.v (.int .i64 n)] s (fun r s' => r = .v (.bool (decide (0 ≤ n ∧ n < 32))) ∧ s' = s) := by
  refine acalls_body Try.func50 rfl Try.ntmps50 Try.results50 (by simp) ?_
  refine awp_reg_seq ?_
  intro K hK
  simp only [↓DN, UP, DF, qSh, qCv, qIA, qIx, qSl, qBu, qCe, qOn, reduceCtorEq, ↓reduceIte, nLT, nLE, nEQ, nAdd, nMul, nPow, nSub, zLT, zLE, zNat, RMsg150]
  refine hK _ _ ?_
  clear hK K
  rcases ff2 (decide (0 ≤ n)) (decide (n < 32)) with hd | hd | hd
  all_goals
    refine awp_reg_seq ?_
    intro K hK
    simp only [↓DN, UP, DF, qSh, qCv, qIA, qIx, qSl, qBu, qCe, qOn, reduceCtorEq, ↓reduceIte, nLT, nLE, nEQ, nAdd, nMul, nPow, nSub, zLT, zLE, zNat, RMsg150, hd]
    refine hK _ _ ?_
    clear hK K
    refine awp_ret ?_
    simp only [retQ, AEnds, aresL, ares, List.toList_toArray, ↓upd_same]; try simp only [↓DN, UP, DF, qSh, qCv, qIA, qIx, qSl, qBu, qCe, qOn, reduceCtorEq, ↓reduceIte, nLT, nLE, nEQ, nAdd, nMul, nPow, nSub, zLT, zLE, zNat, RMsg150, DT]
    refine ⟨_, _, AV.weak.refl _, AS.le.refl _, ?_, rfl⟩
    simp only [decide_eq_true_eq, decide_eq_false_iff_not] at hd
    congr 2
    first
      | exact (decide_eq_true (by omega)).symm
      | exact (decide_eq_false (by omega)).symm

theorem yesI {a b : Int} (h : a = b) : (a == b) = true := by simpa using h
theorem notI {a b : Int} (h : a ≠ b) : (a == b) = false := by simpa using h
theorem nat0 {a : Nat} (h : a = 0) : ((a : Int) == 0) = true := by subst h; rfl
theorem nat0F {a : Nat} (h : a ≠ 0) : ((a : Int) == 0) = false := by simpa using h
set_option maxHeartbeats 4000000 in
theorem proper_calls (p : PropV) (s : AS) : ACalls Try.prog Γ 48 [.agg p.cells] s (fun r s' => r = .v (.bool (decide p.right)) ∧ s' = s) := by
  refine acalls_body Try.func48 rfl Try.ntmps48 Try.results48 (by simp) ?_
  obtain ⟨k, l, nm, key, ini⟩ := p
  unfold PropV.cells
  refine awp_reg_frz 1 (by simp [dsts]) ?_
  intro K hK
  simp only [↓AXq_nil, ↓AXq_cons, pval, DX, Nat.reduceBEq, ↓DN, UP, DF, qSh, qCv, qIA, qIx, qSl, qBu, qCe, qOn, reduceCtorEq, ↓reduceIte, nLT, nLE, nEQ, nAdd, nMul, nPow, nSub, zLT, zLE, zNat, RMsg148]
  intro o ho
  refine hK _ _ o _ (by simp only [upd, nEQ, ↓reduceIte]) ho ?_
  clear hK K ho
  refine awp_seq_k ?_
  intro K hK
  refine awp_reg_seq ?_
  intro K hK
  simp only [↓DN, UP, DF, qSh, qCv, qIA, qIx, qSl, qBu, qCe, qOn, reduceCtorEq, ↓reduceIte, nLT, nLE, nEQ, nAdd, nMul, nPow, nSub, zLT, zLE, zNat, RMsg148]
  refine hK _ _ ?_
  clear hK K
  refine awp_block ?_
  by_cases hk1 : k = 1
  · refine awp_reg_seq ?_
    intro K hK
    simp only [↓DN, UP, DF, qSh, qCv, qIA, qIx, qSl, qBu, qCe, qOn, reduceCtorEq, ↓reduceIte, nLT, nLE, nEQ, nAdd, nMul, nPow, nSub, zLT, zLE, zNat, RMsg148, yesI hk1]
    refine hK _ _ ?_
    clear hK K
    refine awp_cond_k ?_
    intro X Y hX hY
    simp only [↓DN, UP, DF, qSh, qCv, qIA, qIx, qSl, qBu, qCe, qOn, reduceCtorEq, ↓reduceIte, nLT, nLE, nEQ, nAdd, nMul, nPow, nSub, zLT, zLE, zNat, RMsg148, DB]
    refine hX ?_
    clear hX hY X Y
    by_cases h1 : l = 0
    · refine awp_reg_seq ?_
      intro K hK
      simp only [↓DN, UP, DF, qSh, qCv, qIA, qIx, qSl, qBu, qCe, qOn, reduceCtorEq, ↓reduceIte, nLT, nLE, nEQ, nAdd, nMul, nPow, nSub, zLT, zLE, zNat, RMsg148, yesI h1]
      refine acallk (named_calls nm _) ?_
      rintro r s1 ⟨rfl, rfl⟩
      by_cases h2 : 1 ≤ nm.length ∧ nm.length ≤ 16
      · simp only [↓AXq_nil, ↓AXq_cons, pval, DX, Nat.reduceBEq, ↓DN, UP, DF, qSh, qCv, qIA, qIx, qSl, qBu, qCe, qOn, reduceCtorEq, ↓reduceIte, nLT, nLE, nEQ, nAdd, nMul, nPow, nSub, zLT, zLE, zNat, RMsg148, decide_eq_true h2]
        refine acallk (rightP_calls key _) ?_
        rintro r s2 ⟨rfl, rfl⟩
        by_cases h3 : Pub key
        · simp only [↓AXq_nil, ↓AXq_cons, pval, DX, Nat.reduceBEq, ↓DN, UP, DF, qSh, qCv, qIA, qIx, qSl, qBu, qCe, qOn, reduceCtorEq, ↓reduceIte, nLT, nLE, nEQ, nAdd, nMul, nPow, nSub, zLT, zLE, zNat, RMsg148, decide_eq_true h3]
          refine acallk (rightP_calls ini _) ?_
          rintro r s3 ⟨rfl, rfl⟩
          simp only [↓AXq_nil, ↓AXq_cons, pval, DX, Nat.reduceBEq, ↓DN, UP, DF, qSh, qCv, qIA, qIx, qSl, qBu, qCe, qOn, reduceCtorEq, ↓reduceIte, nLT, nLE, nEQ, nAdd, nMul, nPow, nSub, zLT, zLE, zNat, RMsg148]
          refine hK _ _ ?_
          clear hK K
          refine awp_ret ?_
          try simp only [thenQ, blockQ]
          simp only [retQ, AEnds, aresL, ares, List.toList_toArray, ↓upd_same]; try simp only [↓DN, UP, DF, qSh, qCv, qIA, qIx, qSl, qBu, qCe, qOn, reduceCtorEq, ↓reduceIte, nLT, nLE, nEQ, nAdd, nMul, nPow, nSub, zLT, zLE, zNat, RMsg148, DT]
          exact ⟨_, _, AV.weak.refl _, AS.le.refl _, by simp [PropV.right, hk1, h1, h2, h3], rfl⟩
        · simp only [↓AXq_nil, ↓AXq_cons, pval, DX, Nat.reduceBEq, ↓DN, UP, DF, qSh, qCv, qIA, qIx, qSl, qBu, qCe, qOn, reduceCtorEq, ↓reduceIte, nLT, nLE, nEQ, nAdd, nMul, nPow, nSub, zLT, zLE, zNat, RMsg148, decide_eq_false h3]
          refine hK _ _ ?_
          clear hK K
          refine awp_ret ?_
          try simp only [thenQ, blockQ]
          simp only [retQ, AEnds, aresL, ares, List.toList_toArray, ↓upd_same]; try simp only [↓DN, UP, DF, qSh, qCv, qIA, qIx, qSl, qBu, qCe, qOn, reduceCtorEq, ↓reduceIte, nLT, nLE, nEQ, nAdd, nMul, nPow, nSub, zLT, zLE, zNat, RMsg148, DT]
          exact ⟨_, _, AV.weak.refl _, AS.le.refl _, by simp [PropV.right, hk1, h3], rfl⟩
      · simp only [↓AXq_nil, ↓AXq_cons, pval, DX, Nat.reduceBEq, ↓DN, UP, DF, qSh, qCv, qIA, qIx, qSl, qBu, qCe, qOn, reduceCtorEq, ↓reduceIte, nLT, nLE, nEQ, nAdd, nMul, nPow, nSub, zLT, zLE, zNat, RMsg148, decide_eq_false h2]
        refine hK _ _ ?_
        clear hK K
        refine awp_ret ?_
        try simp only [thenQ, blockQ]
        simp only [retQ, AEnds, aresL, ares, List.toList_toArray, ↓upd_same]; try simp only [↓DN, UP, DF, qSh, qCv, qIA, qIx, qSl, qBu, qCe, qOn, reduceCtorEq, ↓reduceIte, nLT, nLE, nEQ, nAdd, nMul, nPow, nSub, zLT, zLE, zNat, RMsg148, DT]
        exact ⟨_, _, AV.weak.refl _, AS.le.refl _, by simp [PropV.right, hk1]; omega, rfl⟩
    · refine awp_reg_seq ?_
      intro K hK
      simp only [↓DN, UP, DF, qSh, qCv, qIA, qIx, qSl, qBu, qCe, qOn, reduceCtorEq, ↓reduceIte, nLT, nLE, nEQ, nAdd, nMul, nPow, nSub, zLT, zLE, zNat, RMsg148, notI h1]
      refine hK _ _ ?_
      clear hK K
      refine awp_ret ?_
      try simp only [thenQ, blockQ]
      simp only [retQ, AEnds, aresL, ares, List.toList_toArray, ↓upd_same]; try simp only [↓DN, UP, DF, qSh, qCv, qIA, qIx, qSl, qBu, qCe, qOn, reduceCtorEq, ↓reduceIte, nLT, nLE, nEQ, nAdd, nMul, nPow, nSub, zLT, zLE, zNat, RMsg148, DT]
      exact ⟨_, _, AV.weak.refl _, AS.le.refl _, by simp [PropV.right, hk1, h1], rfl⟩
  · refine awp_reg_seq ?_
    intro K hK
    simp only [↓DN, UP, DF, qSh, qCv, qIA, qIx, qSl, qBu, qCe, qOn, reduceCtorEq, ↓reduceIte, nLT, nLE, nEQ, nAdd, nMul, nPow, nSub, zLT, zLE, zNat, RMsg148, notI hk1]
    refine hK _ _ ?_
    clear hK K
    refine awp_cond_k ?_
    intro X Y hX hY
    simp only [↓DN, UP, DF, qSh, qCv, qIA, qIx, qSl, qBu, qCe, qOn, reduceCtorEq, ↓reduceIte, nLT, nLE, nEQ, nAdd, nMul, nPow, nSub, zLT, zLE, zNat, RMsg148, DB]
    refine hY ?_
    clear hX hY X Y
    by_cases hk2 : k = 2
    · refine awp_reg_seq ?_
      intro K hK
      simp only [↓DN, UP, DF, qSh, qCv, qIA, qIx, qSl, qBu, qCe, qOn, reduceCtorEq, ↓reduceIte, nLT, nLE, nEQ, nAdd, nMul, nPow, nSub, zLT, zLE, zNat, RMsg148, yesI hk2]
      refine hK _ _ ?_
      clear hK K
      refine awp_cond_k ?_
      intro X Y hX hY
      simp only [↓DN, UP, DF, qSh, qCv, qIA, qIx, qSl, qBu, qCe, qOn, reduceCtorEq, ↓reduceIte, nLT, nLE, nEQ, nAdd, nMul, nPow, nSub, zLT, zLE, zNat, RMsg148, DB]
      refine hX ?_
      clear hX hY X Y
      refine awp_reg_seq ?_
      intro K hK
      simp only [↓DN, UP, DF, qSh, qCv, qIA, qIx, qSl, qBu, qCe, qOn, reduceCtorEq, ↓reduceIte, nLT, nLE, nEQ, nAdd, nMul, nPow, nSub, zLT, zLE, zNat, RMsg148]
      refine acallk (leaf_calls l _) ?_
      rintro r s1 ⟨rfl, rfl⟩
      by_cases h1 : 0 ≤ l ∧ l < 32
      · by_cases h2 : nm.length = 0
        · simp only [↓AXq_nil, ↓AXq_cons, pval, DX, Nat.reduceBEq, ↓DN, UP, DF, qSh, qCv, qIA, qIx, qSl, qBu, qCe, qOn, reduceCtorEq, ↓reduceIte, nLT, nLE, nEQ, nAdd, nMul, nPow, nSub, zLT, zLE, zNat, RMsg148, decide_eq_true h1, nat0 h2]
          refine acallk (rightP_calls key _) ?_
          rintro r s2 ⟨rfl, rfl⟩
          by_cases h3 : Pub key
          · by_cases h4 : ini = 0
            · simp only [↓AXq_nil, ↓AXq_cons, pval, DX, Nat.reduceBEq, ↓DN, UP, DF, qSh, qCv, qIA, qIx, qSl, qBu, qCe, qOn, reduceCtorEq, ↓reduceIte, nLT, nLE, nEQ, nAdd, nMul, nPow, nSub, zLT, zLE, zNat, RMsg148, decide_eq_true h3, nat0 h4]
              refine hK _ _ ?_
              clear hK K
              refine awp_ret ?_
              try simp only [thenQ, blockQ]
              simp only [retQ, AEnds, aresL, ares, List.toList_toArray, ↓upd_same]; try simp only [↓DN, UP, DF, qSh, qCv, qIA, qIx, qSl, qBu, qCe, qOn, reduceCtorEq, ↓reduceIte, nLT, nLE, nEQ, nAdd, nMul, nPow, nSub, zLT, zLE, zNat, RMsg148, DT]
              exact ⟨_, _, AV.weak.refl _, AS.le.refl _, by simp [PropV.right, hk2, h1, h3, h4, List.eq_nil_of_length_eq_zero h2], rfl⟩
            · simp only [↓AXq_nil, ↓AXq_cons, pval, DX, Nat.reduceBEq, ↓DN, UP, DF, qSh, qCv, qIA, qIx, qSl, qBu, qCe, qOn, reduceCtorEq, ↓reduceIte, nLT, nLE, nEQ, nAdd, nMul, nPow, nSub, zLT, zLE, zNat, RMsg148, decide_eq_true h3, nat0F h4]
              refine hK _ _ ?_
              clear hK K
              refine awp_ret ?_
              try simp only [thenQ, blockQ]
              simp only [retQ, AEnds, aresL, ares, List.toList_toArray, ↓upd_same]; try simp only [↓DN, UP, DF, qSh, qCv, qIA, qIx, qSl, qBu, qCe, qOn, reduceCtorEq, ↓reduceIte, nLT, nLE, nEQ, nAdd, nMul, nPow, nSub, zLT, zLE, zNat, RMsg148, DT]
              exact ⟨_, _, AV.weak.refl _, AS.le.refl _, by simp [PropV.right, hk2, h4], rfl⟩
          · simp only [↓AXq_nil, ↓AXq_cons, pval, DX, Nat.reduceBEq, ↓DN, UP, DF, qSh, qCv, qIA, qIx, qSl, qBu, qCe, qOn, reduceCtorEq, ↓reduceIte, nLT, nLE, nEQ, nAdd, nMul, nPow, nSub, zLT, zLE, zNat, RMsg148, decide_eq_false h3]
            refine hK _ _ ?_
            clear hK K
            refine awp_ret ?_
            try simp only [thenQ, blockQ]
            simp only [retQ, AEnds, aresL, ares, List.toList_toArray, ↓upd_same]; try simp only [↓DN, UP, DF, qSh, qCv, qIA, qIx, qSl, qBu, qCe, qOn, reduceCtorEq, ↓reduceIte, nLT, nLE, nEQ, nAdd, nMul, nPow, nSub, zLT, zLE, zNat, RMsg148, DT]
            exact ⟨_, _, AV.weak.refl _, AS.le.refl _, by simp [PropV.right, hk2, h3], rfl⟩
        · simp only [↓AXq_nil, ↓AXq_cons, pval, DX, Nat.reduceBEq, ↓DN, UP, DF, qSh, qCv, qIA, qIx, qSl, qBu, qCe, qOn, reduceCtorEq, ↓reduceIte, nLT, nLE, nEQ, nAdd, nMul, nPow, nSub, zLT, zLE, zNat, RMsg148, decide_eq_true h1, nat0F h2]
          refine hK _ _ ?_
          clear hK K
          refine awp_ret ?_
          try simp only [thenQ, blockQ]
          simp only [retQ, AEnds, aresL, ares, List.toList_toArray, ↓upd_same]; try simp only [↓DN, UP, DF, qSh, qCv, qIA, qIx, qSl, qBu, qCe, qOn, reduceCtorEq, ↓reduceIte, nLT, nLE, nEQ, nAdd, nMul, nPow, nSub, zLT, zLE, zNat, RMsg148, DT]
          exact ⟨_, _, AV.weak.refl _, AS.le.refl _, by simp [PropV.right, hk2]; intro _ _ h; exact absurd (by simp [h]) h2, rfl⟩
      · simp only [↓AXq_nil, ↓AXq_cons, pval, DX, Nat.reduceBEq, ↓DN, UP, DF, qSh, qCv, qIA, qIx, qSl, qBu, qCe, qOn, reduceCtorEq, ↓reduceIte, nLT, nLE, nEQ, nAdd, nMul, nPow, nSub, zLT, zLE, zNat, RMsg148, decide_eq_false h1]
        refine hK _ _ ?_
        clear hK K
        refine awp_ret ?_
        try simp only [thenQ, blockQ]
        simp only [retQ, AEnds, aresL, ares, List.toList_toArray, ↓upd_same]; try simp only [↓DN, UP, DF, qSh, qCv, qIA, qIx, qSl, qBu, qCe, qOn, reduceCtorEq, ↓reduceIte, nLT, nLE, nEQ, nAdd, nMul, nPow, nSub, zLT, zLE, zNat, RMsg148, DT]
        exact ⟨_, _, AV.weak.refl _, AS.le.refl _, by simp [PropV.right, hk2]; omega, rfl⟩
    · refine awp_reg_seq ?_
      intro K hK
      simp only [↓DN, UP, DF, qSh, qCv, qIA, qIx, qSl, qBu, qCe, qOn, reduceCtorEq, ↓reduceIte, nLT, nLE, nEQ, nAdd, nMul, nPow, nSub, zLT, zLE, zNat, RMsg148, notI hk2]
      refine hK _ _ ?_
      clear hK K
      refine awp_cond_k ?_
      intro X Y hX hY
      simp only [↓DN, UP, DF, qSh, qCv, qIA, qIx, qSl, qBu, qCe, qOn, reduceCtorEq, ↓reduceIte, nLT, nLE, nEQ, nAdd, nMul, nPow, nSub, zLT, zLE, zNat, RMsg148, DB]
      refine hY ?_
      clear hX hY X Y
      by_cases hk3 : k = 3
      · refine awp_reg_seq ?_
        intro K hK
        simp only [↓DN, UP, DF, qSh, qCv, qIA, qIx, qSl, qBu, qCe, qOn, reduceCtorEq, ↓reduceIte, nLT, nLE, nEQ, nAdd, nMul, nPow, nSub, zLT, zLE, zNat, RMsg148, yesI hk3]
        refine hK _ _ ?_
        clear hK K
        refine awp_cond_k ?_
        intro X Y hX hY
        simp only [↓DN, UP, DF, qSh, qCv, qIA, qIx, qSl, qBu, qCe, qOn, reduceCtorEq, ↓reduceIte, nLT, nLE, nEQ, nAdd, nMul, nPow, nSub, zLT, zLE, zNat, RMsg148, DB]
        refine hX ?_
        clear hX hY X Y
        refine awp_reg_seq ?_
        intro K hK
        simp only [↓DN, UP, DF, qSh, qCv, qIA, qIx, qSl, qBu, qCe, qOn, reduceCtorEq, ↓reduceIte, nLT, nLE, nEQ, nAdd, nMul, nPow, nSub, zLT, zLE, zNat, RMsg148]
        refine acallk (leaf_calls l _) ?_
        rintro r s1 ⟨rfl, rfl⟩
        by_cases h1 : 0 ≤ l ∧ l < 32
        · rcases ff3 ((nm.length : Int) == 0) ((key : Int) == 0) ((ini : Int) == 0) with hd | hd | hd | hd
          all_goals
            simp only [↓AXq_nil, ↓AXq_cons, pval, DX, Nat.reduceBEq, ↓DN, UP, DF, qSh, qCv, qIA, qIx, qSl, qBu, qCe, qOn, reduceCtorEq, ↓reduceIte, nLT, nLE, nEQ, nAdd, nMul, nPow, nSub, zLT, zLE, zNat, RMsg148, decide_eq_true h1, hd]
            refine hK _ _ ?_
            clear hK K
            refine awp_ret ?_
            try simp only [thenQ, blockQ]
            simp only [retQ, AEnds, aresL, ares, List.toList_toArray, ↓upd_same]; try simp only [↓DN, UP, DF, qSh, qCv, qIA, qIx, qSl, qBu, qCe, qOn, reduceCtorEq, ↓reduceIte, nLT, nLE, nEQ, nAdd, nMul, nPow, nSub, zLT, zLE, zNat, RMsg148, DT]
            refine ⟨_, _, AV.weak.refl _, AS.le.refl _, ?_, rfl⟩
            simp only [beq_iff_eq, beq_eq_false_iff_ne, ne_eq] at hd
            congr 2
            symm
            first
              | exact decide_eq_true (by unfold PropV.right; simp only; omega)
              | exact decide_eq_false (by unfold PropV.right; simp only; omega)
        · simp only [↓AXq_nil, ↓AXq_cons, pval, DX, Nat.reduceBEq, ↓DN, UP, DF, qSh, qCv, qIA, qIx, qSl, qBu, qCe, qOn, reduceCtorEq, ↓reduceIte, nLT, nLE, nEQ, nAdd, nMul, nPow, nSub, zLT, zLE, zNat, RMsg148, decide_eq_false h1]
          refine hK _ _ ?_
          clear hK K
          refine awp_ret ?_
          try simp only [thenQ, blockQ]
          simp only [retQ, AEnds, aresL, ares, List.toList_toArray, ↓upd_same]; try simp only [↓DN, UP, DF, qSh, qCv, qIA, qIx, qSl, qBu, qCe, qOn, reduceCtorEq, ↓reduceIte, nLT, nLE, nEQ, nAdd, nMul, nPow, nSub, zLT, zLE, zNat, RMsg148, DT]
          exact ⟨_, _, AV.weak.refl _, AS.le.refl _, by simp [PropV.right, hk3]; omega, rfl⟩
      · refine awp_reg_seq ?_
        intro K hK
        simp only [↓DN, UP, DF, qSh, qCv, qIA, qIx, qSl, qBu, qCe, qOn, reduceCtorEq, ↓reduceIte, nLT, nLE, nEQ, nAdd, nMul, nPow, nSub, zLT, zLE, zNat, RMsg148, notI hk3]
        refine hK _ _ ?_
        clear hK K
        refine awp_cond_k ?_
        intro X Y hX hY
        simp only [↓DN, UP, DF, qSh, qCv, qIA, qIx, qSl, qBu, qCe, qOn, reduceCtorEq, ↓reduceIte, nLT, nLE, nEQ, nAdd, nMul, nPow, nSub, zLT, zLE, zNat, RMsg148, DB]
        refine hY ?_
        clear hX hY X Y
        refine awp_skip ?_
        simp only [blockQ, thenQ, if_true, if_false]
        refine hK _ _ ?_
        clear hK K
        refine awp_reg_seq ?_
        intro K hK
        simp only [↓DN, UP, DF, qSh, qCv, qIA, qIx, qSl, qBu, qCe, qOn, reduceCtorEq, ↓reduceIte, nLT, nLE, nEQ, nAdd, nMul, nPow, nSub, zLT, zLE, zNat, RMsg148]
        refine hK _ _ ?_
        clear hK K
        refine awp_ret ?_
        try simp only [thenQ, blockQ]
        simp only [retQ, AEnds, aresL, ares, List.toList_toArray, ↓upd_same]; try simp only [↓DN, UP, DF, qSh, qCv, qIA, qIx, qSl, qBu, qCe, qOn, reduceCtorEq, ↓reduceIte, nLT, nLE, nEQ, nAdd, nMul, nPow, nSub, zLT, zLE, zNat, RMsg148, DT]
        exact ⟨_, _, AV.weak.refl _, AS.le.refl _, by simp [PropV.right, hk1, hk2, hk3], rfl⟩

end Go.Proofs.Ytcnilmidfhpckaa


set_option autoImplicit false
namespace Go.Proofs.Ytcnilmidfhpckaa
open Go Go.AM Go.Proofs

theorem RMsg252 : type_of% (And.intro (And.intro (And.intro (And.intro (And.intro (And.intro @Try.underlying3 T.c3) (And.intro T.g3 T.b3)) (And.intro (And.intro T.z3 @Try.underlying5) (And.intro T.c5 T.g5))) (And.intro (And.intro (And.intro T.b5 T.z5) (And.intro @Try.underlying28 T.c28)) (And.intro (And.intro T.g28 T.b28) (And.intro T.z28 T.s28)))) (And.intro (And.intro (And.intro (And.intro @Try.underlying42 T.c42) (And.intro T.g42 T.b42)) (And.intro (And.intro T.z42 @Try.underlying80) (And.intro T.c80 T.g80))) (And.intro (And.intro (And.intro T.b80 T.z80) (And.intro T.h80 T.f80_0)) (And.intro (And.intro T.f80_1 T.f80_2) (And.intro T.f80_3 (And.intro T.f80_4 T.k54)))))) Try.ntmps52) :=
  (And.intro (And.intro (And.intro (And.intro (And.intro (And.intro @Try.underlying3 T.c3) (And.intro T.g3 T.b3)) (And.intro (And.intro T.z3 @Try.underlying5) (And.intro T.c5 T.g5))) (And.intro (And.intro (And.intro T.b5 T.z5) (And.intro @Try.underlying28 T.c28)) (And.intro (And.intro T.g28 T.b28) (And.intro T.z28 T.s28)))) (And.intro (And.intro (And.intro (And.intro @Try.underlying42 T.c42) (And.intro T.g42 T.b42)) (And.intro (And.intro T.z42 @Try.underlying80) (And.intro T.c80 T.g80))) (And.intro (And.intro (And.intro T.b80 T.z80) (And.intro T.h80 T.f80_0)) (And.intro (And.intro T.f80_1 T.f80_2) (And.intro T.f80_3 (And.intro T.f80_4 T.k54)))))) Try.ntmps52)

variable {Γ : Nat → List AV}

theorem neI {a b : Int} (h : a ≠ b) : (a != b) = true := by simpa using h
theorem eqI {a b : Int} (h : a = b) : (a != b) = false := by simpa using h
theorem ne0N {a : Nat} (h : a ≠ 0) : ((a : Int) != 0) = true := by simpa using h
theorem eq0N {a : Nat} (h : a = 0) : ((a : Int) != 0) = false := by subst h; rfl

set_option maxHeartbeats 4000000 in
theorem refProper_calls (p : PropV) (s : AS) : ACalls Try.prog Γ 52 [.agg p.cells] s (fun r s' => r = .v (.bool (decide p.right)) ∧ s' = s) := by
  refine acalls_body Try.func52 rfl Try.ntmps52 Try.results52 (by simp) ?_
  obtain ⟨k, l, nm, key, ini⟩ := p
  unfold PropV.cells
  refine awp_reg_frz 1 (by simp [dsts]) ?_
  intro K hK
  simp only [↓AXq_nil, ↓AXq_cons, pval, DX, Nat.reduceBEq, ↓DN, UP, DF, qSh, qCv, qIA, qIx, qSl, qBu, qCe, qOn, reduceCtorEq, ↓reduceIte, nLT, nLE, nEQ, nAdd, nMul, nPow, nSub, zLT, zLE, zNat, RMsg252]
  intro o ho
  refine hK _ _ o _ (by simp only [upd, nEQ, ↓reduceIte]) ho ?_
  clear hK K ho
  refine awp_seq_k ?_
  intro K hK
  by_cases hk1 : k = 1
  · refine awp_reg_seq ?_
    intro K hK
    simp only [↓DN, UP, DF, qSh, qCv, qIA, qIx, qSl, qBu, qCe, qOn, reduceCtorEq, ↓reduceIte, nLT, nLE, nEQ, nAdd, nMul, nPow, nSub, zLT, zLE, zNat, RMsg252, yesI hk1]
    refine hK _ _ ?_
    clear hK K
    refine awp_cond_k ?_
    intro X Y hX hY
    simp only [↓DN, UP, DF, qSh, qCv, qIA, qIx, qSl, qBu, qCe, qOn, reduceCtorEq, ↓reduceIte, nLT, nLE, nEQ, nAdd, nMul, nPow, nSub, zLT, zLE, zNat, RMsg252, DB]
    refine hX ?_
    clear hX hY X Y
    rcases ff3 (l == 0) (decide ((1 : Int) ≤ (nm.length : Int))) (decide ((nm.length : Int) ≤ 16)) with hd | hd | hd | hd
    case inr.inr.inr =>
      refine awp_reg_seq ?_
      intro K hK
      simp only [↓DN, UP, DF, qSh, qCv, qIA, qIx, qSl, qBu, qCe, qOn, reduceCtorEq, ↓reduceIte, nLT, nLE, nEQ, nAdd, nMul, nPow, nSub, zLT, zLE, zNat, RMsg252, hd]
      refine acallk (refRightP_calls key _) ?_
      rintro r s2 ⟨rfl, rfl⟩
      simp only [beq_iff_eq, decide_eq_true_eq] at hd
      obtain ⟨h1, h2, h2'⟩ := hd
      by_cases h3 : Pub key
      · simp only [↓AXq_nil, ↓AXq_cons, pval, DX, Nat.reduceBEq, ↓DN, UP, DF, qSh, qCv, qIA, qIx, qSl, qBu, qCe, qOn, reduceCtorEq, ↓reduceIte, nLT, nLE, nEQ, nAdd, nMul, nPow, nSub, zLT, zLE, zNat, RMsg252, decide_eq_true h3]
        refine acallk (refRightP_calls ini _) ?_
        rintro r s3 ⟨rfl, rfl⟩
        simp only [↓AXq_nil, ↓AXq_cons, pval, DX, Nat.reduceBEq, ↓DN, UP, DF, qSh, qCv, qIA, qIx, qSl, qBu, qCe, qOn, reduceCtorEq, ↓reduceIte, nLT, nLE, nEQ, nAdd, nMul, nPow, nSub, zLT, zLE, zNat, RMsg252]
        refine hK _ _ ?_
        clear hK K
        refine awp_ret ?_
        try simp only [thenQ, blockQ]
        simp only [retQ, AEnds, aresL, ares, List.toList_toArray, ↓upd_same]; try simp only [↓DN, UP, DF, qSh, qCv, qIA, qIx, qSl, qBu, qCe, qOn, reduceCtorEq, ↓reduceIte, nLT, nLE, nEQ, nAdd, nMul, nPow, nSub, zLT, zLE, zNat, RMsg252, DT]
        refine ⟨_, _, AV.weak.refl _, AS.le.refl _, ?_, rfl⟩
        have q1 : 1 ≤ nm.length := by omega
        have q2 : nm.length ≤ 16 := by omega
        simp [PropV.right, hk1, h1, h3, q1, q2]
      · simp only [↓AXq_nil, ↓AXq_cons, pval, DX, Nat.reduceBEq, ↓DN, UP, DF, qSh, qCv, qIA, qIx, qSl, qBu, qCe, qOn, reduceCtorEq, ↓reduceIte, nLT, nLE, nEQ, nAdd, nMul, nPow, nSub, zLT, zLE, zNat, RMsg252, decide_eq_false h3]
        refine hK _ _ ?_
        clear hK K
        refine awp_ret ?_
        try simp only [thenQ, blockQ]
        simp only [retQ, AEnds, aresL, ares, List.toList_toArray, ↓upd_same]; try simp only [↓DN, UP, DF, qSh, qCv, qIA, qIx, qSl, qBu, qCe, qOn, reduceCtorEq, ↓reduceIte, nLT, nLE, nEQ, nAdd, nMul, nPow, nSub, zLT, zLE, zNat, RMsg252, DT]
        exact ⟨_, _, AV.weak.refl _, AS.le.refl _, by simp [PropV.right, hk1, h3], rfl⟩
    all_goals
      refine awp_reg_seq ?_
      intro K hK
      simp only [↓DN, UP, DF, qSh, qCv, qIA, qIx, qSl, qBu, qCe, qOn, reduceCtorEq, ↓reduceIte, nLT, nLE, nEQ, nAdd, nMul, nPow, nSub, zLT, zLE, zNat, RMsg252, hd]
      refine hK _ _ ?_
      clear hK K
      refine awp_ret ?_
      try simp only [thenQ, blockQ]
      simp only [retQ, AEnds, aresL, ares, List.toList_toArray, ↓upd_same]; try simp only [↓DN, UP, DF, qSh, qCv, qIA, qIx, qSl, qBu, qCe, qOn, reduceCtorEq, ↓reduceIte, nLT, nLE, nEQ, nAdd, nMul, nPow, nSub, zLT, zLE, zNat, RMsg252, DT]
      refine ⟨_, _, AV.weak.refl _, AS.le.refl _, ?_, rfl⟩
      simp only [beq_iff_eq, beq_eq_false_iff_ne, ne_eq, decide_eq_true_eq, decide_eq_false_iff_not] at hd
      congr 2
      symm
      exact decide_eq_false (by unfold PropV.right; simp only; omega)
  · refine awp_reg_seq ?_
    intro K hK
    simp only [↓DN, UP, DF, qSh, qCv, qIA, qIx, qSl, qBu, qCe, qOn, reduceCtorEq, ↓reduceIte, nLT, nLE, nEQ, nAdd, nMul, nPow, nSub, zLT, zLE, zNat, RMsg252, notI hk1]
    refine hK _ _ ?_
    clear hK K
    refine awp_cond_k ?_
    intro X Y hX hY
    simp only [↓DN, UP, DF, qSh, qCv, qIA, qIx, qSl, qBu, qCe, qOn, reduceCtorEq, ↓reduceIte, nLT, nLE, nEQ, nAdd, nMul, nPow, nSub, zLT, zLE, zNat, RMsg252, DB]
    refine hY ?_
    clear hX hY X Y
    refine awp_skip ?_
    refine hK _ _ ?_
    clear hK K
    refine awp_seq_k ?_
    intro K hK
    by_cases hk23 : k = 2 ∨ k = 3
    · have hkk : ((k != 2) = false ∧ (k == 2) = true ∧ (k == 3) = false) ∨ ((k != 2) = true ∧ (k != 3) = false ∧ (k == 2) = false ∧ (k == 3) = true) := by
        rcases hk23 with rfl | rfl
        · exact Or.inl ⟨rfl, rfl, rfl⟩
        · exact Or.inr ⟨rfl, rfl, rfl, rfl⟩
      rcases tt4 (decide (l < 0)) (decide (31 < l)) (decide (0 < (nm.length : Int))) ((ini : Int) != 0) with hd | hd | hd | hd | hd
      case inr.inr.inr.inr =>
        have hd' := hd
        simp only [decide_eq_false_iff_not, bne_eq_false_iff_eq] at hd'
        obtain ⟨h1, h2, h3, h4⟩ := hd'
        have h4 : ini = 0 := by omega
        have h3 : nm = [] := List.eq_nil_of_length_eq_zero (by omega)
        have q1 : 0 ≤ l := by omega
        have q2 : l < 32 := by omega
        rcases hkk with hkk | hkk
        · refine awp_reg_seq ?_
          intro K hK
          simp only [↓DN, UP, DF, qSh, qCv, qIA, qIx, qSl, qBu, qCe, qOn, reduceCtorEq, ↓reduceIte, nLT, nLE, nEQ, nAdd, nMul, nPow, nSub, zLT, zLE, zNat, RMsg252, hd, hkk]
          refine hK _ _ ?_
          clear hK K
          refine awp_cond_k ?_
          intro X Y hX hY
          simp only [↓DN, UP, DF, qSh, qCv, qIA, qIx, qSl, qBu, qCe, qOn, reduceCtorEq, ↓reduceIte, nLT, nLE, nEQ, nAdd, nMul, nPow, nSub, zLT, zLE, zNat, RMsg252, DB]
          refine hY ?_
          clear hX hY X Y
          refine awp_skip ?_
          refine hK _ _ ?_
          clear hK K
          refine awp_reg_seq ?_
          intro K hK
          simp only [↓DN, UP, DF, qSh, qCv, qIA, qIx, qSl, qBu, qCe, qOn, reduceCtorEq, ↓reduceIte, nLT, nLE, nEQ, nAdd, nMul, nPow, nSub, zLT, zLE, zNat, RMsg252, hkk]
          refine acallk (refRightP_calls key _) ?_
          rintro r s2 ⟨rfl, rfl⟩
          have hk2 : k = 2 := by simpa using hkk.2.1
          by_cases h5 : Pub key
          · simp only [↓AXq_nil, ↓AXq_cons, pval, DX, Nat.reduceBEq, ↓DN, UP, DF, qSh, qCv, qIA, qIx, qSl, qBu, qCe, qOn, reduceCtorEq, ↓reduceIte, nLT, nLE, nEQ, nAdd, nMul, nPow, nSub, zLT, zLE, zNat, RMsg252, decide_eq_true h5]
            refine hK _ _ ?_
            clear hK K
            refine awp_ret ?_
            simp only [retQ, AEnds, aresL, ares, List.toList_toArray, ↓upd_same]; try simp only [↓DN, UP, DF, qSh, qCv, qIA, qIx, qSl, qBu, qCe, qOn, reduceCtorEq, ↓reduceIte, nLT, nLE, nEQ, nAdd, nMul, nPow, nSub, zLT, zLE, zNat, RMsg252, DT]
            exact ⟨_, _, AV.weak.refl _, AS.le.refl _, by simp [PropV.right, hk2, h5, h3, h4, q1, q2], rfl⟩
          · simp only [↓AXq_nil, ↓AXq_cons, pval, DX, Nat.reduceBEq, ↓DN, UP, DF, qSh, qCv, qIA, qIx, qSl, qBu, qCe, qOn, reduceCtorEq, ↓reduceIte, nLT, nLE, nEQ, nAdd, nMul, nPow, nSub, zLT, zLE, zNat, RMsg252, decide_eq_false h5, hkk]
            refine hK _ _ ?_
            clear hK K
            refine awp_ret ?_
            simp only [retQ, AEnds, aresL, ares, List.toList_toArray, ↓upd_same]; try simp only [↓DN, UP, DF, qSh, qCv, qIA, qIx, qSl, qBu, qCe, qOn, reduceCtorEq, ↓reduceIte, nLT, nLE, nEQ, nAdd, nMul, nPow, nSub, zLT, zLE, zNat, RMsg252, DT]
            exact ⟨_, _, AV.weak.refl _, AS.le.refl _, by simp [PropV.right, hk2, h5], rfl⟩
        · refine awp_reg_seq ?_
          intro K hK
          simp only [↓DN, UP, DF, qSh, qCv, qIA, qIx, qSl, qBu, qCe, qOn, reduceCtorEq, ↓reduceIte, nLT, nLE, nEQ, nAdd, nMul, nPow, nSub, zLT, zLE, zNat, RMsg252, hd, hkk]
          refine hK _ _ ?_
          clear hK K
          refine awp_cond_k ?_
          intro X Y hX hY
          simp only [↓DN, UP, DF, qSh, qCv, qIA, qIx, qSl, qBu, qCe, qOn, reduceCtorEq, ↓reduceIte, nLT, nLE, nEQ, nAdd, nMul, nPow, nSub, zLT, zLE, zNat, RMsg252, DB]
          refine hY ?_
          clear hX hY X Y
          refine awp_skip ?_
          refine hK _ _ ?_
          clear hK K
          have hk3 : k = 3 := by simpa using hkk.2.2.2
          by_cases h5 : key = 0
          · refine awp_reg_seq ?_
            intro K hK
            simp only [↓DN, UP, DF, qSh, qCv, qIA, qIx, qSl, qBu, qCe, qOn, reduceCtorEq, ↓reduceIte, nLT, nLE, nEQ, nAdd, nMul, nPow, nSub, zLT, zLE, zNat, RMsg252, hkk, nat0 h5]
            refine hK _ _ ?_
            clear hK K
            refine awp_ret ?_
            simp only [retQ, AEnds, aresL, ares, List.toList_toArray, ↓upd_same]; try simp only [↓DN, UP, DF, qSh, qCv, qIA, qIx, qSl, qBu, qCe, qOn, reduceCtorEq, ↓reduceIte, nLT, nLE, nEQ, nAdd, nMul, nPow, nSub, zLT, zLE, zNat, RMsg252, DT]
            exact ⟨_, _, AV.weak.refl _, AS.le.refl _, by simp [PropV.right, hk3, h5, h3, h4, q1, q2], rfl⟩
          · refine awp_reg_seq ?_
            intro K hK
            simp only [↓DN, UP, DF, qSh, qCv, qIA, qIx, qSl, qBu, qCe, qOn, reduceCtorEq, ↓reduceIte, nLT, nLE, nEQ, nAdd, nMul, nPow, nSub, zLT, zLE, zNat, RMsg252, hkk, nat0F h5]
            refine hK _ _ ?_
            clear hK K
            refine awp_ret ?_
            simp only [retQ, AEnds, aresL, ares, List.toList_toArray, ↓upd_same]; try simp only [↓DN, UP, DF, qSh, qCv, qIA, qIx, qSl, qBu, qCe, qOn, reduceCtorEq, ↓reduceIte, nLT, nLE, nEQ, nAdd, nMul, nPow, nSub, zLT, zLE, zNat, RMsg252, DT]
            exact ⟨_, _, AV.weak.refl _, AS.le.refl _, by simp [PropV.right, hk3, h5], rfl⟩
      all_goals
        rcases hkk with hkk | hkk
        all_goals
          refine awp_reg_seq ?_
          intro K hK
          simp only [↓DN, UP, DF, qSh, qCv, qIA, qIx, qSl, qBu, qCe, qOn, reduceCtorEq, ↓reduceIte, nLT, nLE, nEQ, nAdd, nMul, nPow, nSub, zLT, zLE, zNat, RMsg252, hd, hkk]
          refine hK _ _ ?_
          clear hK K
          refine awp_cond_k ?_
          intro X Y hX hY
          simp only [↓DN, UP, DF, qSh, qCv, qIA, qIx, qSl, qBu, qCe, qOn, reduceCtorEq, ↓reduceIte, nLT, nLE, nEQ, nAdd, nMul, nPow, nSub, zLT, zLE, zNat, RMsg252, DB]
          refine hX ?_
          clear hX hY X Y
          refine awp_reg_seq ?_
          intro K hK
          simp only [↓DN, UP, DF, qSh, qCv, qIA, qIx, qSl, qBu, qCe, qOn, reduceCtorEq, ↓reduceIte, nLT, nLE, nEQ, nAdd, nMul, nPow, nSub, zLT, zLE, zNat, RMsg252]
          refine hK _ _ ?_
          clear hK K
          refine awp_ret ?_
          try simp only [thenQ, blockQ]
          simp only [retQ, AEnds, aresL, ares, List.toList_toArray, ↓upd_same]; try simp only [↓DN, UP, DF, qSh, qCv, qIA, qIx, qSl, qBu, qCe, qOn, reduceCtorEq, ↓reduceIte, nLT, nLE, nEQ, nAdd, nMul, nPow, nSub, zLT, zLE, zNat, RMsg252, DT]
          refine ⟨_, _, AV.weak.refl _, AS.le.refl _, ?_, rfl⟩
          simp only [beq_iff_eq, beq_eq_false_iff_ne, bne_eq_false_iff_eq, bne_iff_ne, ne_eq, decide_eq_true_eq, decide_eq_false_iff_not] at hd hkk
          congr 2
          symm
          exact decide_eq_false (by unfold PropV.right; simp only; omega)
    · have q2 : k ≠ 2 := fun h => hk23 (Or.inl h)
      have q3 : k ≠ 3 := fun h => hk23 (Or.inr h)
      refine awp_reg_seq ?_
      intro K hK
      simp only [↓DN, UP, DF, qSh, qCv, qIA, qIx, qSl, qBu, qCe, qOn, reduceCtorEq, ↓reduceIte, nLT, nLE, nEQ, nAdd, nMul, nPow, nSub, zLT, zLE, zNat, RMsg252, neI q2, neI q3]
      refine hK _ _ ?_
      clear hK K
      refine awp_cond_k ?_
      intro X Y hX hY
      simp only [↓DN, UP, DF, qSh, qCv, qIA, qIx, qSl, qBu, qCe, qOn, reduceCtorEq, ↓reduceIte, nLT, nLE, nEQ, nAdd, nMul, nPow, nSub, zLT, zLE, zNat, RMsg252, DB]
      refine hX ?_
      clear hX hY X Y
      refine awp_reg_seq ?_
      intro K hK
      simp only [↓DN, UP, DF, qSh, qCv, qIA, qIx, qSl, qBu, qCe, qOn, reduceCtorEq, ↓reduceIte, nLT, nLE, nEQ, nAdd, nMul, nPow, nSub, zLT, zLE, zNat, RMsg252]
      refine hK _ _ ?_
      clear hK K
      refine awp_ret ?_
      try simp only [thenQ, blockQ]
      simp only [retQ, AEnds, aresL, ares, List.toList_toArray, ↓upd_same]; try simp only [↓DN, UP, DF, qSh, qCv, qIA, qIx, qSl, qBu, qCe, qOn, reduceCtorEq, ↓reduceIte, nLT, nLE, nEQ, nAdd, nMul, nPow, nSub, zLT, zLE, zNat, RMsg252, DT]
      exact ⟨_, _, AV.weak.refl _, AS.le.refl _, by simp [PropV.right, hk1, q2, q3], rfl⟩

end Go.Proofs.Ytcnilmidfhpckaa


set_option autoImplicit false
namespace Go.Proofs.Ytcnilmidfhpckaa
open Go Go.AM Go.Proofs

theorem RMsg3100 : type_of% (And.intro (And.intro (And.intro (And.intro (And.intro (And.intro @Try.underlying3 (And.intro T.c3 T.g3)) (And.intro T.b3 (And.intro T.z3 @Try.underlying4))) (And.intro (And.intro T.c4 (And.intro T.g4 T.b4)) (And.intro T.z4 (And.intro @Try.underlying5 T.c5)))) (And.intro (And.intro (And.intro T.g5 (And.intro T.b5 T.z5)) (And.intro @Try.underlying28 (And.intro T.c28 T.g28))) (And.intro (And.intro T.b28 (And.intro T.z28 T.s28)) (And.intro @Try.underlying42 (And.intro T.c42 T.g42))))) (And.intro (And.intro (And.intro (And.intro T.b42 (And.intro T.z42 @Try.underlying81)) (And.intro T.c81 (And.intro T.g81 T.b81))) (And.intro (And.intro T.z81 (And.intro T.s81 @Try.underlying83)) (And.intro T.c83 (And.intro T.g83 T.b83)))) (And.intro (And.intro (And.intro T.z83 (And.intro T.h83 @Try.underlying85)) (And.intro T.c85 (And.intro T.g85 T.b85))) (And.intro (And.intro T.z85 (And.intro T.h85 T.f83_0)) (And.intro (And.intro T.f83_1 T.f85_0) (And.intro T.f85_1 T.k99)))))) Try.ntmps100) :=
  (And.intro (And.intro (And.intro (And.intro (And.intro (And.intro @Try.underlying3 (And.intro T.c3 T.g3)) (And.intro T.b3 (And.intro T.z3 @Try.underlying4))) (And.intro (And.intro T.c4 (And.intro T.g4 T.b4)) (And.intro T.z4 (And.intro @Try.underlying5 T.c5)))) (And.intro (And.intro (And.intro T.g5 (And.intro T.b5 T.z5)) (And.intro @Try.underlying28 (And.intro T.c28 T.g28))) (And.intro (And.intro T.b28 (And.intro T.z28 T.s28)) (And.intro @Try.underlying42 (And.intro T.c42 T.g42))))) (And.intro (And.intro (And.intro (And.intro T.b42 (And.intro T.z42 @Try.underlying81)) (And.intro T.c81 (And.intro T.g81 T.b81))) (And.intro (And.intro T.z81 (And.intro T.s81 @Try.underlying83)) (And.intro T.c83 (And.intro T.g83 T.b83)))) (And.intro (And.intro (And.intro T.z83 (And.intro T.h83 @Try.underlying85)) (And.intro T.c85 (And.intro T.g85 T.b85))) (And.intro (And.intro T.z85 (And.intro T.h85 T.f83_0)) (And.intro (And.intro T.f83_1 T.f85_0) (And.intro T.f85_1 T.k99)))))) Try.ntmps100)

variable {Γ : Nat → List AV}

theorem take_all {α : Type} {Q : α → Prop} {l : List α} {i : Nat} (h : i < l.length) (hall : ∀ x ∈ l.take i, Q x) (hx : Q l[i]) : ∀ x ∈ l.take (i + 1), Q x := by
  rw [List.take_succ_eq_append_getElem h]
  intro p hp
  rcases List.mem_append.1 hp with hp | hp
  · exact hall p hp
  · simp only [List.mem_singleton] at hp
    subst hp
    exact hx
theorem take_full {α : Type} {Q : α → Prop} {l : List α} {i : Nat} (h : ¬ i < l.length) (hall : ∀ x ∈ l.take i, Q x) : ∀ x ∈ l, Q x := by
  rwa [List.take_of_length_le (by omega)] at hall
theorem eye_succM (i : Nat) (h : i < 9223372036854775807) : iadd .i64 (i : Int) 1 = ((i + 1 : Nat) : Int) := by
  rw [iadd_i64 (by omega)]
  rfl
theorem n48 {n : Nat} (h : n = 48) : ((n : Int) != 48) = false := by subst h; rfl
theorem n48T {n : Nat} (h : n ≠ 48) : ((n : Int) != 48) = true := by simp only [bne_iff_ne, ne_eq]; omega

set_option maxHeartbeats 4000000 in
set_option maxRecDepth 100000 in
theorem step_calls (p : StepV) (hl : p.seals.length ≤ 9223372036854775807) (s : AS) : ACalls Try.prog Γ 100 [.agg p.cells] s (fun r s' => r = .v (.bool (decide p.right)) ∧ s' = s) := by
  refine acalls_body Try.func100 rfl Try.ntmps100 Try.results100 (by simp) ?_
  obtain ⟨key, ss⟩ := p
  simp only at hl
  unfold StepV.cells
  have hrow := fun i (h : i < ss.length) => row_at (c := SealV.cells) (k := 2) (fun _ => rfl) h
  generalize hX : rowC SealV.cells ss = X at *
  refine awp_reg_frz 1 (by simp [dsts]) ?_
  intro K hK
  simp only [↓AXq_nil, ↓AXq_cons, pval, DX, Nat.reduceBEq, ↓DN, UP, DF, qSh, qCv, qIA, qIx, qSl, qBu, qCe, qOn, reduceCtorEq, ↓reduceIte, nLT, nLE, nEQ, nAdd, nMul, nPow, nSub, zLT, zLE, zNat, RMsg3100]
  intro o ho
  refine hK _ _ o _ (by simp only [upd, nEQ, ↓reduceIte]) ho ?_
  clear hK K ho
  refine awp_seq_k ?_
  intro K hK
  refine awp_reg_seq ?_
  intro K hK
  simp only [↓DN, UP, DF, qSh, qCv, qIA, qIx, qSl, qBu, qCe, qOn, reduceCtorEq, ↓reduceIte, nLT, nLE, nEQ, nAdd, nMul, nPow, nSub, zLT, zLE, zNat, RMsg3100]
  refine hK _ _ ?_
  clear hK K
  refine awp_block ?_
  refine awp_loop (fun E s1 => ∃ i : Nat, i ≤ ss.length ∧ E 8 = .v (.int .i64 i) ∧ E 7 = .v (.int .i64 ss.length) ∧ E 6 = .sl 2 ss.length X .any ∧ E 1 = .rop [.v (.int .u64 key), .sl 2 ss.length X .any] ∧ (∀ p ∈ ss.take i, p.right) ∧ s1 = s)
    (fun E _ => match E 8 with | .v (.int _ i) => ss.length - i.toNat | _ => 0) ?_ ?_
  · exact ⟨0, Nat.zero_le _, by simp only [upd, ↓reduceIte]; rfl, by simp only [upd, nEQ, ↓reduceIte], by simp only [upd, nEQ, ↓reduceIte], by simp only [upd, nEQ, ↓reduceIte], by simp, rfl⟩
  · rintro E1 s1 ⟨i, hi, g8, g7, g6, g1, hall, rfl⟩ -
    by_cases hi' : i < ss.length
    · refine awp_reg_seq ?_
      intro K hK
      simp only [↓DN, UP, DF, qSh, qCv, qIA, qIx, qSl, qBu, qCe, qOn, reduceCtorEq, ↓reduceIte, nLT, nLE, nEQ, nAdd, nMul, nPow, nSub, zLT, zLE, zNat, RMsg3100, g8, g7, eye_lt_nat, decide_eq_true hi']
      refine hK _ _ ?_
      clear hK K
      refine awp_seq_k ?_
      intro K3 hK3
      refine awp_cond_k ?_
      intro X Y hX hY
      simp only [↓DN, UP, DF, qSh, qCv, qIA, qIx, qSl, qBu, qCe, qOn, reduceCtorEq, ↓reduceIte, nLT, nLE, nEQ, nAdd, nMul, nPow, nSub, zLT, zLE, zNat, RMsg3100, DB]
      refine hX ?_
      clear hX hY X Y
      refine awp_skip ?_
      refine hK3 _ _ ?_
      clear hK3 K3
      refine awp_seq_k ?_
      intro K3 hK3
      refine awp_block ?_
      have hat := hrow i hi'
      have hge : (0 : Int) ≤ (i : Int) := by omega
      obtain ⟨y, hy⟩ : ∃ y, y = ss[i] := ⟨_, rfl⟩
      rw [← hy] at hat
      have hym : y ∈ ss := by rw [hy]; exact List.getElem_mem hi'
      have htk : y.right → ∀ x ∈ ss.take (i + 1), x.right := fun h => take_all hi' hall (by rw [← hy]; exact h)
      have hbad : ¬ y.right → decide (StepV.right ⟨key, ss⟩) = false := fun h => decide_eq_false fun hr => h (hr.1 y hym)
      clear hy
      obtain ⟨f, t⟩ := y
      unfold SealV.cells at hat
      refine awp_reg_frz 4 (by simp [dsts]) ?_
      intro K2 hK2
      simp only [↓AXq_nil, ↓AXq_cons, pval, DX, Nat.reduceBEq, ↓DN, UP, DF, qSh, qCv, qIA, qIx, qSl, qBu, qCe, qOn, reduceCtorEq, ↓reduceIte, nLT, nLE, nEQ, nAdd, nMul, nPow, nSub, zLT, zLE, zNat, RMsg3100, g8, g6, eye_lt_nat, hi', hge, hat]
      intro o ho
      refine hK2 _ _ o _ (by simp only [upd, nEQ, ↓reduceIte]) ho ?_
      clear hK2 K2 ho
      refine awp_reg_seq ?_
      intro K hK
      simp only [↓DN, UP, DF, qSh, qCv, qIA, qIx, qSl, qBu, qCe, qOn, reduceCtorEq, ↓reduceIte, nLT, nLE, nEQ, nAdd, nMul, nPow, nSub, zLT, zLE, zNat, RMsg3100]
      refine acallk (rightP_calls f _) ?_
      rintro r s2 ⟨rfl, rfl⟩
      by_cases h1 : Pub f
      · by_cases h2 : t.length = 48
        · simp only [↓AXq_nil, ↓AXq_cons, pval, DX, Nat.reduceBEq, ↓DN, UP, DF, qSh, qCv, qIA, qIx, qSl, qBu, qCe, qOn, reduceCtorEq, ↓reduceIte, nLT, nLE, nEQ, nAdd, nMul, nPow, nSub, zLT, zLE, zNat, RMsg3100, decide_eq_true h1, n48 h2]
          refine hK _ _ ?_
          clear hK K
          refine awp_cond_k ?_
          intro X Y hX hY
          simp only [↓DN, UP, DF, qSh, qCv, qIA, qIx, qSl, qBu, qCe, qOn, reduceCtorEq, ↓reduceIte, nLT, nLE, nEQ, nAdd, nMul, nPow, nSub, zLT, zLE, zNat, RMsg3100, DB]
          refine hY ?_
          clear hX hY X Y
          refine awp_skip ?_
          simp only [blockQ, thenQ, if_true, if_false]
          refine hK3 _ _ ?_
          clear hK3 K3
          refine awp_reg_end ?_
          intro K hK
          simp only [↓DN, UP, DF, qSh, qCv, qIA, qIx, qSl, qBu, qCe, qOn, reduceCtorEq, ↓reduceIte, nLT, nLE, nEQ, nAdd, nMul, nPow, nSub, zLT, zLE, zNat, RMsg3100, g8, eye_succM i (by omega)]
          refine hK _ _ ?_
          clear hK K
          refine ⟨⟨i + 1, by omega, by simp only [upd, ↓reduceIte], by simp only [upd, g7, nEQ, ↓reduceIte], by simp only [upd, g6, nEQ, ↓reduceIte], by simp only [upd, g1, nEQ, ↓reduceIte], htk ⟨h1, h2⟩, rfl⟩, ?_⟩
          simp only [g8, upd, ↓reduceIte]
          omega
        · simp only [↓AXq_nil, ↓AXq_cons, pval, DX, Nat.reduceBEq, ↓DN, UP, DF, qSh, qCv, qIA, qIx, qSl, qBu, qCe, qOn, reduceCtorEq, ↓reduceIte, nLT, nLE, nEQ, nAdd, nMul, nPow, nSub, zLT, zLE, zNat, RMsg3100, decide_eq_true h1, n48T h2]
          refine hK _ _ ?_
          clear hK K
          refine awp_cond_k ?_
          intro X Y hX hY
          simp only [↓DN, UP, DF, qSh, qCv, qIA, qIx, qSl, qBu, qCe, qOn, reduceCtorEq, ↓reduceIte, nLT, nLE, nEQ, nAdd, nMul, nPow, nSub, zLT, zLE, zNat, RMsg3100, DB]
          refine hX ?_
          clear hX hY X Y
          refine awp_reg_seq ?_
          intro K hK
          simp only [↓DN, UP, DF, qSh, qCv, qIA, qIx, qSl, qBu, qCe, qOn, reduceCtorEq, ↓reduceIte, nLT, nLE, nEQ, nAdd, nMul, nPow, nSub, zLT, zLE, zNat, RMsg3100]
          refine hK _ _ ?_
          clear hK K
          refine awp_ret ?_
          try simp only [thenQ, blockQ]
          simp only [retQ, AEnds, aresL, ares, List.toList_toArray, ↓upd_same]; try simp only [↓DN, UP, DF, qSh, qCv, qIA, qIx, qSl, qBu, qCe, qOn, reduceCtorEq, ↓reduceIte, nLT, nLE, nEQ, nAdd, nMul, nPow, nSub, zLT, zLE, zNat, RMsg3100, DT]
          exact ⟨_, _, AV.weak.refl _, AS.le.refl _, by rw [hbad fun h => h2 h.2], rfl⟩
      · simp only [↓AXq_nil, ↓AXq_cons, pval, DX, Nat.reduceBEq, ↓DN, UP, DF, qSh, qCv, qIA, qIx, qSl, qBu, qCe, qOn, reduceCtorEq, ↓reduceIte, nLT, nLE, nEQ, nAdd, nMul, nPow, nSub, zLT, zLE, zNat, RMsg3100, decide_eq_false h1]
        refine hK _ _ ?_
        clear hK K
        refine awp_cond_k ?_
        intro X Y hX hY
        simp only [↓DN, UP, DF, qSh, qCv, qIA, qIx, qSl, qBu, qCe, qOn, reduceCtorEq, ↓reduceIte, nLT, nLE, nEQ, nAdd, nMul, nPow, nSub, zLT, zLE, zNat, RMsg3100, DB]
        refine hX ?_
        clear hX hY X Y
        refine awp_reg_seq ?_
        intro K hK
        simp only [↓DN, UP, DF, qSh, qCv, qIA, qIx, qSl, qBu, qCe, qOn, reduceCtorEq, ↓reduceIte, nLT, nLE, nEQ, nAdd, nMul, nPow, nSub, zLT, zLE, zNat, RMsg3100]
        refine hK _ _ ?_
        clear hK K
        refine awp_ret ?_
        try simp only [thenQ, blockQ]
        simp only [retQ, AEnds, aresL, ares, List.toList_toArray, ↓upd_same]; try simp only [↓DN, UP, DF, qSh, qCv, qIA, qIx, qSl, qBu, qCe, qOn, reduceCtorEq, ↓reduceIte, nLT, nLE, nEQ, nAdd, nMul, nPow, nSub, zLT, zLE, zNat, RMsg3100, DT]
        exact ⟨_, _, AV.weak.refl _, AS.le.refl _, by rw [hbad fun h => h1 h.1], rfl⟩
    · have hfull := take_full hi' hall
      refine awp_reg_seq ?_
      intro K hK
      simp only [↓DN, UP, DF, qSh, qCv, qIA, qIx, qSl, qBu, qCe, qOn, reduceCtorEq, ↓reduceIte, nLT, nLE, nEQ, nAdd, nMul, nPow, nSub, zLT, zLE, zNat, RMsg3100, g8, g7, eye_lt_nat, decide_eq_false hi']
      refine hK _ _ ?_
      clear hK K
      refine awp_seq_k ?_
      intro K3 hK3
      refine awp_cond_k ?_
      intro X Y hX hY
      simp only [↓DN, UP, DF, qSh, qCv, qIA, qIx, qSl, qBu, qCe, qOn, reduceCtorEq, ↓reduceIte, nLT, nLE, nEQ, nAdd, nMul, nPow, nSub, zLT, zLE, zNat, RMsg3100, DB]
      refine hY ?_
      clear hX hY X Y
      refine awp_exit ?_
      simp only [thenQ, blockQ, if_true]
      refine hK _ _ ?_
      clear hK K hK3 K3
      refine awp_reg_seq ?_
      intro K hK
      simp only [↓DN, UP, DF, qSh, qCv, qIA, qIx, qSl, qBu, qCe, qOn, reduceCtorEq, ↓reduceIte, nLT, nLE, nEQ, nAdd, nMul, nPow, nSub, zLT, zLE, zNat, RMsg3100, g1]
      refine acallk (rightP_calls key _) ?_
      rintro r s2 ⟨rfl, rfl⟩
      by_cases h1 : Pub key
      · simp only [↓AXq_nil, ↓AXq_cons, pval, DX, Nat.reduceBEq, ↓DN, UP, DF, qSh, qCv, qIA, qIx, qSl, qBu, qCe, qOn, reduceCtorEq, ↓reduceIte, nLT, nLE, nEQ, nAdd, nMul, nPow, nSub, zLT, zLE, zNat, RMsg3100, g1, decide_eq_true h1]
        refine hK _ _ ?_
        clear hK K
        refine awp_ret ?_
        simp only [retQ, AEnds, aresL, ares, List.toList_toArray, ↓upd_same]; try simp only [↓DN, UP, DF, qSh, qCv, qIA, qIx, qSl, qBu, qCe, qOn, reduceCtorEq, ↓reduceIte, nLT, nLE, nEQ, nAdd, nMul, nPow, nSub, zLT, zLE, zNat, RMsg3100, DT]
        refine ⟨_, _, AV.weak.refl _, AS.le.refl _, ?_, rfl⟩
        congr 2
        refine decide_eq_decide.2 ⟨fun h => ⟨hfull, h1, by simp only; omega⟩, fun h => by have := h.2.2; simp only at this; omega⟩
      · simp only [↓AXq_nil, ↓AXq_cons, pval, DX, Nat.reduceBEq, ↓DN, UP, DF, qSh, qCv, qIA, qIx, qSl, qBu, qCe, qOn, reduceCtorEq, ↓reduceIte, nLT, nLE, nEQ, nAdd, nMul, nPow, nSub, zLT, zLE, zNat, RMsg3100, g1, decide_eq_false h1]
        refine hK _ _ ?_
        clear hK K
        refine awp_ret ?_
        simp only [retQ, AEnds, aresL, ares, List.toList_toArray, ↓upd_same]; try simp only [↓DN, UP, DF, qSh, qCv, qIA, qIx, qSl, qBu, qCe, qOn, reduceCtorEq, ↓reduceIte, nLT, nLE, nEQ, nAdd, nMul, nPow, nSub, zLT, zLE, zNat, RMsg3100, DT]
        exact ⟨_, _, AV.weak.refl _, AS.le.refl _, by rw [decide_eq_false fun h => h1 h.2.1], rfl⟩

end Go.Proofs.Ytcnilmidfhpckaa


set_option autoImplicit false
namespace Go.Proofs.Ytcnilmidfhpckaa
open Go Go.AM Go.Proofs

theorem RMsg451 : type_of% (And.intro (And.intro (And.intro (And.intro (And.intro (And.intro (And.intro @Try.underlying3 T.c3) (And.intro T.g3 (And.intro T.b3 T.z3))) (And.intro (And.intro @Try.underlying4 T.c4) (And.intro T.g4 (And.intro T.b4 T.z4)))) (And.intro (And.intro (And.intro @Try.underlying5 T.c5) (And.intro T.g5 (And.intro T.b5 T.z5))) (And.intro (And.intro @Try.underlying28 T.c28) (And.intro T.g28 (And.intro T.b28 T.z28))))) (And.intro (And.intro (And.intro (And.intro T.s28 @Try.underlying41) (And.intro T.c41 (And.intro T.g41 T.b41))) (And.intro (And.intro T.z41 T.s41) (And.intro @Try.underlying42 (And.intro T.c42 T.g42)))) (And.intro (And.intro (And.intro T.b42 T.z42) (And.intro @Try.underlying43 (And.intro T.c43 T.g43))) (And.intro (And.intro T.b43 T.z43) (And.intro T.s43 (And.intro @Try.underlying45 T.c45)))))) (And.intro (And.intro (And.intro (And.intro (And.intro T.g45 T.b45) (And.intro T.z45 (And.intro T.h45 @Try.underlying47))) (And.intro (And.intro T.c47 T.g47) (And.intro T.b47 (And.intro T.z47 T.h47)))) (And.intro (And.intro (And.intro @Try.underlying80 T.c80) (And.intro T.g80 (And.intro T.b80 T.z80))) (And.intro (And.intro T.h80 @Try.underlying81) (And.intro T.c81 (And.intro T.g81 T.b81))))) (And.intro (And.intro (And.intro (And.intro T.z81 T.s81) (And.intro @Try.underlying83 (And.intro T.c83 T.g83))) (And.intro (And.intro T.b83 T.z83) (And.intro T.h83 (And.intro @Try.underlying85 T.c85)))) (And.intro (And.intro (And.intro T.g85 T.b85) (And.intro T.z85 (And.intro T.h85 T.f45_0))) (And.intro (And.intro T.f45_1 (And.intro T.f45_2 T.f47_4)) (And.intro T.f47_5 (And.intro T.k99 T.k100))))))) Try.ntmps51) :=
  (And.intro (And.intro (And.intro (And.intro (And.intro (And.intro (And.intro @Try.underlying3 T.c3) (And.intro T.g3 (And.intro T.b3 T.z3))) (And.intro (And.intro @Try.underlying4 T.c4) (And.intro T.g4 (And.intro T.b4 T.z4)))) (And.intro (And.intro (And.intro @Try.underlying5 T.c5) (And.intro T.g5 (And.intro T.b5 T.z5))) (And.intro (And.intro @Try.underlying28 T.c28) (And.intro T.g28 (And.intro T.b28 T.z28))))) (And.intro (And.intro (And.intro (And.intro T.s28 @Try.underlying41) (And.intro T.c41 (And.intro T.g41 T.b41))) (And.intro (And.intro T.z41 T.s41) (And.intro @Try.underlying42 (And.intro T.c42 T.g42)))) (And.intro (And.intro (And.intro T.b42 T.z42) (And.intro @Try.underlying43 (And.intro T.c43 T.g43))) (And.intro (And.intro T.b43 T.z43) (And.intro T.s43 (And.intro @Try.underlying45 T.c45)))))) (And.intro (And.intro (And.intro (And.intro (And.intro T.g45 T.b45) (And.intro T.z45 (And.intro T.h45 @Try.underlying47))) (And.intro (And.intro T.c47 T.g47) (And.intro T.b47 (And.intro T.z47 T.h47)))) (And.intro (And.intro (And.intro @Try.underlying80 T.c80) (And.intro T.g80 (And.intro T.b80 T.z80))) (And.intro (And.intro T.h80 @Try.underlying81) (And.intro T.c81 (And.intro T.g81 T.b81))))) (And.intro (And.intro (And.intro (And.intro T.z81 T.s81) (And.intro @Try.underlying83 (And.intro T.c83 T.g83))) (And.intro (And.intro T.b83 T.z83) (And.intro T.h83 (And.intro @Try.underlying85 T.c85)))) (And.intro (And.intro (And.intro T.g85 T.b85) (And.intro T.z85 (And.intro T.h85 T.f45_0))) (And.intro (And.intro T.f45_1 (And.intro T.f45_2 T.f47_4)) (And.intro T.f47_5 (And.intro T.k99 T.k100))))))) Try.ntmps51)
theorem RMsg420 : type_of% (And.intro (And.intro (And.intro (And.intro (And.intro (And.intro (And.intro @Try.underlying3 T.c3) (And.intro T.g3 T.b3)) (And.intro (And.intro T.z3 @Try.underlying4) (And.intro T.c4 T.g4))) (And.intro (And.intro (And.intro T.b4 T.z4) (And.intro @Try.underlying5 T.c5)) (And.intro (And.intro T.g5 T.b5) (And.intro T.z5 @Try.underlying28)))) (And.intro (And.intro (And.intro (And.intro T.c28 T.g28) (And.intro T.b28 T.z28)) (And.intro (And.intro T.s28 @Try.underlying41) (And.intro T.c41 T.g41))) (And.intro (And.intro (And.intro T.b41 T.z41) (And.intro T.s41 @Try.underlying42)) (And.intro (And.intro T.c42 T.g42) (And.intro T.b42 (And.intro T.z42 @Try.underlying43)))))) (And.intro (And.intro (And.intro (And.intro (And.intro T.c43 T.g43) (And.intro T.b43 T.z43)) (And.intro (And.intro T.s43 @Try.underlying45) (And.intro T.c45 T.g45))) (And.intro (And.intro (And.intro T.b45 T.z45) (And.intro T.h45 @Try.underlying47)) (And.intro (And.intro T.c47 T.g47) (And.intro T.b47 T.z47)))) (And.intro (And.intro (And.intro (And.intro T.h47 @Try.underlying80) (And.intro T.c80 T.g80)) (And.intro (And.intro T.b80 T.z80) (And.intro T.h80 T.f47_0))) (And.intro (And.intro (And.intro T.f47_1 T.f47_2) (And.intro T.f47_3 T.f47_6)) (And.intro (And.intro T.f47_7 T.k49) (And.intro T.k50 (And.intro T.k48 T.k51))))))) Try.ntmps20) :=
  (And.intro (And.intro (And.intro (And.intro (And.intro (And.intro (And.intro @Try.underlying3 T.c3) (And.intro T.g3 T.b3)) (And.intro (And.intro T.z3 @Try.underlying4) (And.intro T.c4 T.g4))) (And.intro (And.intro (And.intro T.b4 T.z4) (And.intro @Try.underlying5 T.c5)) (And.intro (And.intro T.g5 T.b5) (And.intro T.z5 @Try.underlying28)))) (And.intro (And.intro (And.intro (And.intro T.c28 T.g28) (And.intro T.b28 T.z28)) (And.intro (And.intro T.s28 @Try.underlying41) (And.intro T.c41 T.g41))) (And.intro (And.intro (And.intro T.b41 T.z41) (And.intro T.s41 @Try.underlying42)) (And.intro (And.intro T.c42 T.g42) (And.intro T.b42 (And.intro T.z42 @Try.underlying43)))))) (And.intro (And.intro (And.intro (And.intro (And.intro T.c43 T.g43) (And.intro T.b43 T.z43)) (And.intro (And.intro T.s43 @Try.underlying45) (And.intro T.c45 T.g45))) (And.intro (And.intro (And.intro T.b45 T.z45) (And.intro T.h45 @Try.underlying47)) (And.intro (And.intro T.c47 T.g47) (And.intro T.b47 T.z47)))) (And.intro (And.intro (And.intro (And.intro T.h47 @Try.underlying80) (And.intro T.c80 T.g80)) (And.intro (And.intro T.b80 T.z80) (And.intro T.h80 T.f47_0))) (And.intro (And.intro (And.intro T.f47_1 T.f47_2) (And.intro T.f47_3 T.f47_6)) (And.intro (And.intro T.f47_7 T.k49) (And.intro T.k50 (And.intro T.k48 T.k51))))))) Try.ntmps20)

variable {Γ : Nat → List AV}

set_option maxHeartbeats 4000000 in
set_option maxRecDepth 100000 in
theorem pathed_calls (c : CommitV) (hl : c.path.steps.length ≤ 9223372036854775807) (hls : ∀ x ∈ c.path.steps, x.seals.length ≤ 9223372036854775807) (s : AS) : ACalls Try.prog Γ 51 [.agg c.cells] s (fun r s' => r = .v (.bool (decide c.pathed)) ∧ s' = s) := by
  refine acalls_body Try.func51 rfl Try.ntmps51 Try.results51 (by simp) ?_
  obtain ⟨g, e, sd, ps, hp, ⟨pk, pp, pst⟩, cf, mb⟩ := c
  simp only at hl hls
  unfold CommitV.cells
  have hrow := fun i (h : i < pst.length) => row_at (c := StepV.cells) (k := 2) (fun _ => rfl) h
  generalize hX : rowC StepV.cells pst = X at *
  generalize hZ : rowC PropV.cells ps = Z at *
  refine awp_reg_frz 1 (by simp [dsts]) ?_
  intro K hK
  simp only [↓AXq_nil, ↓AXq_cons, pval, DX, Nat.reduceBEq, ↓DN, UP, DF, qSh, qCv, qIA, qIx, qSl, qBu, qCe, qOn, reduceCtorEq, ↓reduceIte, nLT, nLE, nEQ, nAdd, nMul, nPow, nSub, zLT, zLE, zNat, RMsg451]
  intro o ho
  refine hK _ _ o _ (by simp only [upd, nEQ, ↓reduceIte]) ho ?_
  clear hK K ho
  refine awp_reg_frz 3 (by simp [dsts]) ?_
  intro K hK
  simp only [↓AXq_nil, ↓AXq_cons, pval, DX, Nat.reduceBEq, ↓DN, UP, DF, qSh, qCv, qIA, qIx, qSl, qBu, qCe, qOn, reduceCtorEq, ↓reduceIte, nLT, nLE, nEQ, nAdd, nMul, nPow, nSub, zLT, zLE, zNat, RMsg451]
  intro o ho
  refine hK _ _ o _ (by simp only [upd, nEQ, ↓reduceIte]) ho ?_
  clear hK K ho
  refine awp_seq_k ?_
  intro K hK
  cases hp with
  | false =>
    refine awp_reg_seq ?_
    intro K hK
    simp only [↓DN, UP, DF, qSh, qCv, qIA, qIx, qSl, qBu, qCe, qOn, reduceCtorEq, ↓reduceIte, nLT, nLE, nEQ, nAdd, nMul, nPow, nSub, zLT, zLE, zNat, RMsg451]
    refine hK _ _ ?_
    clear hK K
    refine awp_cond_k ?_
    intro X Y hX hY
    simp only [↓DN, UP, DF, qSh, qCv, qIA, qIx, qSl, qBu, qCe, qOn, reduceCtorEq, ↓reduceIte, nLT, nLE, nEQ, nAdd, nMul, nPow, nSub, zLT, zLE, zNat, RMsg451, DB]
    refine hX ?_
    clear hX hY X Y
    have hno : decide (CommitV.pathed ⟨g, e, sd, ps, false, ⟨pk, pp, pst⟩, cf, mb⟩) = decide (pk = 0 ∧ pp.length = 0 ∧ pst.length = 0) :=
      decide_eq_decide.2 ⟨fun h => h.2 rfl, fun h => ⟨fun q => (by cases q), fun _ => h⟩⟩
    rw [hno] at hK ⊢
    rcases ff3 ((pk : Int) == 0) ((pp.length : Int) == 0) ((pst.length : Int) == 0) with hd | hd | hd | hd
    all_goals
      refine awp_reg_seq ?_
      intro K hK
      simp only [↓DN, UP, DF, qSh, qCv, qIA, qIx, qSl, qBu, qCe, qOn, reduceCtorEq, ↓reduceIte, nLT, nLE, nEQ, nAdd, nMul, nPow, nSub, zLT, zLE, zNat, RMsg451, hd]
      refine hK _ _ ?_
      clear hK K
      refine awp_ret ?_
      try simp only [thenQ, blockQ]
      simp only [retQ, AEnds, aresL, ares, List.toList_toArray, ↓upd_same]; try simp only [↓DN, UP, DF, qSh, qCv, qIA, qIx, qSl, qBu, qCe, qOn, reduceCtorEq, ↓reduceIte, nLT, nLE, nEQ, nAdd, nMul, nPow, nSub, zLT, zLE, zNat, RMsg451, DT]
      refine ⟨_, _, AV.weak.refl _, AS.le.refl _, ?_, rfl⟩
      simp only [beq_iff_eq, beq_eq_false_iff_ne, ne_eq] at hd
      congr 2
      symm
      first
        | exact decide_eq_true (by omega)
        | exact decide_eq_false (by omega)
  | true =>
    have hyes : decide (CommitV.pathed ⟨g, e, sd, ps, true, ⟨pk, pp, pst⟩, cf, mb⟩) = decide (PathV.right ⟨pk, pp, pst⟩) :=
      decide_eq_decide.2 ⟨fun h => h.1 rfl, fun h => ⟨fun _ => h, fun q => (by cases q)⟩⟩
    rw [hyes] at hK ⊢
    clear hyes
    refine awp_reg_seq ?_
    intro K hK
    simp only [↓DN, UP, DF, qSh, qCv, qIA, qIx, qSl, qBu, qCe, qOn, reduceCtorEq, ↓reduceIte, nLT, nLE, nEQ, nAdd, nMul, nPow, nSub, zLT, zLE, zNat, RMsg451]
    refine hK _ _ ?_
    clear hK K
    refine awp_cond_k ?_
    intro X Y hX hY
    simp only [↓DN, UP, DF, qSh, qCv, qIA, qIx, qSl, qBu, qCe, qOn, reduceCtorEq, ↓reduceIte, nLT, nLE, nEQ, nAdd, nMul, nPow, nSub, zLT, zLE, zNat, RMsg451, DB]
    refine hY ?_
    clear hX hY X Y
    refine awp_skip ?_
    refine hK _ _ ?_
    clear hK K
    refine awp_seq_k ?_
    intro K hK
    refine awp_reg_seq ?_
    intro K hK
    simp only [↓DN, UP, DF, qSh, qCv, qIA, qIx, qSl, qBu, qCe, qOn, reduceCtorEq, ↓reduceIte, nLT, nLE, nEQ, nAdd, nMul, nPow, nSub, zLT, zLE, zNat, RMsg451]
    refine hK _ _ ?_
    clear hK K
    refine awp_block ?_
    refine awp_loop (fun E s1 => ∃ i : Nat, i ≤ pst.length ∧ E 29 = .v (.int .i64 i) ∧ E 28 = .v (.int .i64 pst.length) ∧ E 27 = .sl 2 pst.length X .any ∧ E 3 = .rop [.v (.int .u64 pk), .sl 1 pp.length (pp.map byteV) .any, .sl 2 pst.length X .any] ∧ (∀ p ∈ pst.take i, p.right) ∧ s1 = s)
      (fun E _ => match E 29 with | .v (.int _ i) => pst.length - i.toNat | _ => 0) ?_ ?_
    · exact ⟨0, Nat.zero_le _, by simp only [upd, ↓reduceIte]; rfl, by simp only [upd, nEQ, ↓reduceIte], by simp only [upd, nEQ, ↓reduceIte], by simp only [upd, nEQ, ↓reduceIte], by simp, rfl⟩
    · rintro E1 s1 ⟨i, hi, g8, g7, g6, g1, hall, rfl⟩ -
      by_cases hi' : i < pst.length
      · refine awp_reg_seq ?_
        intro K hK
        simp only [↓DN, UP, DF, qSh, qCv, qIA, qIx, qSl, qBu, qCe, qOn, reduceCtorEq, ↓reduceIte, nLT, nLE, nEQ, nAdd, nMul, nPow, nSub, zLT, zLE, zNat, RMsg451, g8, g7, eye_lt_nat, decide_eq_true hi']
        refine hK _ _ ?_
        clear hK K
        refine awp_seq_k ?_
        intro K3 hK3
        refine awp_cond_k ?_
        intro X Y hX hY
        simp only [↓DN, UP, DF, qSh, qCv, qIA, qIx, qSl, qBu, qCe, qOn, reduceCtorEq, ↓reduceIte, nLT, nLE, nEQ, nAdd, nMul, nPow, nSub, zLT, zLE, zNat, RMsg451, DB]
        refine hX ?_
        clear hX hY X Y
        refine awp_skip ?_
        refine hK3 _ _ ?_
        clear hK3 K3
        refine awp_seq_k ?_
        intro K3 hK3
        refine awp_block ?_
        have hat := hrow i hi'
        have hge : (0 : Int) ≤ (i : Int) := by omega
        obtain ⟨y, hy⟩ : ∃ y, y = pst[i] := ⟨_, rfl⟩
        rw [← hy] at hat
        have hym : y ∈ pst := by rw [hy]; exact List.getElem_mem hi'
        have htk : y.right → ∀ x ∈ pst.take (i + 1), x.right := fun h => take_all hi' hall (by rw [← hy]; exact h)
        have hbad : ¬ y.right → decide (PathV.right ⟨pk, pp, pst⟩) = false := fun h => decide_eq_false fun hr => h (hr.1 y hym)
        have hst := fun s => step_calls (Γ := Γ) y (hls y hym) s
        clear hy
        obtain ⟨f, t⟩ := y
        unfold StepV.cells at hat hst
        generalize rowC SealV.cells t = T at *
        refine awp_reg_frz 5 (by simp [dsts]) ?_
        intro K2 hK2
        simp only [↓AXq_nil, ↓AXq_cons, pval, DX, Nat.reduceBEq, ↓DN, UP, DF, qSh, qCv, qIA, qIx, qSl, qBu, qCe, qOn, reduceCtorEq, ↓reduceIte, nLT, nLE, nEQ, nAdd, nMul, nPow, nSub, zLT, zLE, zNat, RMsg451, g8, g6, eye_lt_nat, hi', hge, hat]
        intro o ho
        refine hK2 _ _ o _ (by simp only [upd, nEQ, ↓reduceIte]) ho ?_
        clear hK2 K2 ho
        refine awp_reg_seq ?_
        intro K hK
        simp only [↓DN, UP, DF, qSh, qCv, qIA, qIx, qSl, qBu, qCe, qOn, reduceCtorEq, ↓reduceIte, nLT, nLE, nEQ, nAdd, nMul, nPow, nSub, zLT, zLE, zNat, RMsg451]
        refine acallk (hst _) ?_
        rintro r s2 ⟨rfl, rfl⟩
        by_cases h1 : StepV.right ⟨f, t⟩
        · simp only [↓AXq_nil, ↓AXq_cons, pval, DX, Nat.reduceBEq, ↓DN, UP, DF, qSh, qCv, qIA, qIx, qSl, qBu, qCe, qOn, reduceCtorEq, ↓reduceIte, nLT, nLE, nEQ, nAdd, nMul, nPow, nSub, zLT, zLE, zNat, RMsg451, decide_eq_true h1]
          refine hK _ _ ?_
          clear hK K
          refine awp_cond_k ?_
          intro X Y hX hY
          simp only [↓DN, UP, DF, qSh, qCv, qIA, qIx, qSl, qBu, qCe, qOn, reduceCtorEq, ↓reduceIte, nLT, nLE, nEQ, nAdd, nMul, nPow, nSub, zLT, zLE, zNat, RMsg451, DB]
          refine hY ?_
          clear hX hY X Y
          refine awp_skip ?_
          simp only [blockQ, thenQ, if_true, if_false]
          refine hK3 _ _ ?_
          clear hK3 K3
          refine awp_reg_end ?_
          intro K hK
          simp only [↓DN, UP, DF, qSh, qCv, qIA, qIx, qSl, qBu, qCe, qOn, reduceCtorEq, ↓reduceIte, nLT, nLE, nEQ, nAdd, nMul, nPow, nSub, zLT, zLE, zNat, RMsg451, g8, eye_succM i (by omega)]
          refine hK _ _ ?_
          clear hK K
          refine ⟨⟨i + 1, by omega, by simp only [upd, ↓reduceIte], by simp only [upd, g7, nEQ, ↓reduceIte], by simp only [upd, g6, nEQ, ↓reduceIte], by simp only [upd, g1, nEQ, ↓reduceIte], htk h1, rfl⟩, ?_⟩
          simp only [g8, upd, ↓reduceIte]
          omega
        · simp only [↓AXq_nil, ↓AXq_cons, pval, DX, Nat.reduceBEq, ↓DN, UP, DF, qSh, qCv, qIA, qIx, qSl, qBu, qCe, qOn, reduceCtorEq, ↓reduceIte, nLT, nLE, nEQ, nAdd, nMul, nPow, nSub, zLT, zLE, zNat, RMsg451, decide_eq_false h1]
          refine hK _ _ ?_
          clear hK K
          refine awp_cond_k ?_
          intro X Y hX hY
          simp only [↓DN, UP, DF, qSh, qCv, qIA, qIx, qSl, qBu, qCe, qOn, reduceCtorEq, ↓reduceIte, nLT, nLE, nEQ, nAdd, nMul, nPow, nSub, zLT, zLE, zNat, RMsg451, DB]
          refine hX ?_
          clear hX hY X Y
          refine awp_reg_seq ?_
          intro K hK
          simp only [↓DN, UP, DF, qSh, qCv, qIA, qIx, qSl, qBu, qCe, qOn, reduceCtorEq, ↓reduceIte, nLT, nLE, nEQ, nAdd, nMul, nPow, nSub, zLT, zLE, zNat, RMsg451]
          refine hK _ _ ?_
          clear hK K
          refine awp_ret ?_
          try simp only [thenQ, blockQ]
          simp only [retQ, AEnds, aresL, ares, List.toList_toArray, ↓upd_same]; try simp only [↓DN, UP, DF, qSh, qCv, qIA, qIx, qSl, qBu, qCe, qOn, reduceCtorEq, ↓reduceIte, nLT, nLE, nEQ, nAdd, nMul, nPow, nSub, zLT, zLE, zNat, RMsg451, DT]
          exact ⟨_, _, AV.weak.refl _, AS.le.refl _, by rw [hbad h1], rfl⟩
      · have hfull := take_full hi' hall
        refine awp_reg_seq ?_
        intro K hK
        simp only [↓DN, UP, DF, qSh, qCv, qIA, qIx, qSl, qBu, qCe, qOn, reduceCtorEq, ↓reduceIte, nLT, nLE, nEQ, nAdd, nMul, nPow, nSub, zLT, zLE, zNat, RMsg451, g8, g7, eye_lt_nat, decide_eq_false hi']
        refine hK _ _ ?_
        clear hK K
        refine awp_seq_k ?_
        intro K3 hK3
        refine awp_cond_k ?_
        intro X Y hX hY
        simp only [↓DN, UP, DF, qSh, qCv, qIA, qIx, qSl, qBu, qCe, qOn, reduceCtorEq, ↓reduceIte, nLT, nLE, nEQ, nAdd, nMul, nPow, nSub, zLT, zLE, zNat, RMsg451, DB]
        refine hY ?_
        clear hX hY X Y
        refine awp_exit ?_
        simp only [thenQ, blockQ, if_true]
        refine hK _ _ ?_
        clear hK K hK3 K3
        refine awp_reg_seq ?_
        intro K hK
        simp only [↓DN, UP, DF, qSh, qCv, qIA, qIx, qSl, qBu, qCe, qOn, reduceCtorEq, ↓reduceIte, nLT, nLE, nEQ, nAdd, nMul, nPow, nSub, zLT, zLE, zNat, RMsg451, g1]
        refine acallk (rightP_calls pk _) ?_
        rintro r s2 ⟨rfl, rfl⟩
        by_cases h1 : Pub pk
        · rcases tt2 ((pp.length : Int) == 0) ((pp.length : Int) == 32) with hd | hd | hd
          all_goals
            simp only [↓AXq_nil, ↓AXq_cons, pval, DX, Nat.reduceBEq, ↓DN, UP, DF, qSh, qCv, qIA, qIx, qSl, qBu, qCe, qOn, reduceCtorEq, ↓reduceIte, nLT, nLE, nEQ, nAdd, nMul, nPow, nSub, zLT, zLE, zNat, RMsg451, g1, decide_eq_true h1, hd]
            refine hK _ _ ?_
            clear hK K
            refine awp_ret ?_
            simp only [retQ, AEnds, aresL, ares, List.toList_toArray, ↓upd_same]; try simp only [↓DN, UP, DF, qSh, qCv, qIA, qIx, qSl, qBu, qCe, qOn, reduceCtorEq, ↓reduceIte, nLT, nLE, nEQ, nAdd, nMul, nPow, nSub, zLT, zLE, zNat, RMsg451, DT]
            refine ⟨_, _, AV.weak.refl _, AS.le.refl _, ?_, rfl⟩
            simp only [beq_iff_eq, beq_eq_false_iff_ne, ne_eq] at hd
          · congr 2
            exact decide_eq_decide.2 ⟨fun h => ⟨hfull, h1, Or.inl (by simp only; omega), by simp only; omega⟩, fun h => by have := h.2.2.2; simp only at this; omega⟩
          · congr 2
            exact decide_eq_decide.2 ⟨fun h => ⟨hfull, h1, Or.inr (by simp only; omega), by simp only; omega⟩, fun h => by have := h.2.2.2; simp only at this; omega⟩
          · congr 2
            symm
            exact decide_eq_false fun h => by have := h.2.2.1; simp only at this; omega
        · simp only [↓AXq_nil, ↓AXq_cons, pval, DX, Nat.reduceBEq, ↓DN, UP, DF, qSh, qCv, qIA, qIx, qSl, qBu, qCe, qOn, reduceCtorEq, ↓reduceIte, nLT, nLE, nEQ, nAdd, nMul, nPow, nSub, zLT, zLE, zNat, RMsg451, g1, decide_eq_false h1]
          refine hK _ _ ?_
          clear hK K
          refine awp_ret ?_
          simp only [retQ, AEnds, aresL, ares, List.toList_toArray, ↓upd_same]; try simp only [↓DN, UP, DF, qSh, qCv, qIA, qIx, qSl, qBu, qCe, qOn, reduceCtorEq, ↓reduceIte, nLT, nLE, nEQ, nAdd, nMul, nPow, nSub, zLT, zLE, zNat, RMsg451, DT]
          exact ⟨_, _, AV.weak.refl _, AS.le.refl _, by rw [decide_eq_false fun h => h1 h.2.1], rfl⟩

def CommitV.fits (c : CommitV) : Prop := c.props.length ≤ 9223372036854775807 ∧ c.path.steps.length ≤ 9223372036854775807 ∧ ∀ x ∈ c.path.steps, x.seals.length ≤ 9223372036854775807

set_option maxHeartbeats 4000000 in
set_option maxRecDepth 100000 in
theorem mright_calls (c : CommitV) (hf : CommitV.fits c) (s : AS) : ACalls Try.prog Γ 20 [.agg c.cells] s (fun r s' => r = .v (.bool (decide c.right)) ∧ s' = s) := by
  refine acalls_body Try.func20 rfl Try.ntmps20 Try.results20 (by simp) ?_
  have hpa := fun s => pathed_calls (Γ := Γ) c hf.2.1 hf.2.2 s
  have hl := hf.1
  clear hf
  obtain ⟨b, hb⟩ : ∃ b, b = decide c.pathed := ⟨_, rfl⟩
  rw [← hb] at hpa
  have hbp : c.pathed ↔ b = true := by rw [hb]; exact (decide_eq_true_iff).symm
  have hR : (∀ x ∈ c.props, x.right) → decide c.right = decide ((1 ≤ c.group.length ∧ c.group.length ≤ 16) ∧ (0 ≤ c.epoch ∧ c.epoch ≤ 1048576) ∧ (0 ≤ c.sender ∧ c.sender < 32) ∧ c.props.length ≤ 16 ∧ b = true ∧ c.confirm.length = 32 ∧ c.member.length = 32) := by
    intro h
    refine decide_eq_decide.2 ⟨fun q => ?_, fun q => ?_⟩
    · obtain ⟨_, q1, q2, q3, q4, q5, q6⟩ := q
      exact ⟨q1, q2, q3, q4, hbp.1 q5, q6⟩
    · obtain ⟨q1, q2, q3, q4, q5, q6⟩ := q
      exact ⟨h, q1, q2, q3, q4, hbp.2 q5, q6⟩
  have hbad0 : ∀ y, y ∈ c.props → ¬ y.right → decide c.right = false := fun y hy h => decide_eq_false fun q => h (q.1 y hy)
  generalize decide c.right = R at *
  clear hb hbp
  obtain ⟨g, e, sd, ps, hp, ⟨pk, pp, pst⟩, cf, mb⟩ := c
  simp only at hl hR hbad0
  unfold CommitV.cells at hpa ⊢
  have hrow := fun i (h : i < ps.length) => row_at (c := PropV.cells) (k := 5) (fun _ => rfl) h
  generalize hX : rowC StepV.cells pst = X at *
  generalize hZ : rowC PropV.cells ps = Z at *
  refine awp_reg_frz 1 (by simp [dsts]) ?_
  intro K hK
  simp only [↓AXq_nil, ↓AXq_cons, pval, DX, Nat.reduceBEq, ↓DN, UP, DF, qSh, qCv, qIA, qIx, qSl, qBu, qCe, qOn, reduceCtorEq, ↓reduceIte, nLT, nLE, nEQ, nAdd, nMul, nPow, nSub, zLT, zLE, zNat, RMsg420]
  intro o ho
  refine hK _ _ o _ (by simp only [upd, nEQ, ↓reduceIte]) ho ?_
  clear hK K ho
  refine awp_seq_k ?_
  intro K hK
  refine awp_reg_seq ?_
  intro K hK
  simp only [↓DN, UP, DF, qSh, qCv, qIA, qIx, qSl, qBu, qCe, qOn, reduceCtorEq, ↓reduceIte, nLT, nLE, nEQ, nAdd, nMul, nPow, nSub, zLT, zLE, zNat, RMsg420]
  refine hK _ _ ?_
  clear hK K
  refine awp_block ?_
  refine awp_loop (fun E s1 => ∃ i : Nat, i ≤ ps.length ∧ E 8 = .v (.int .i64 i) ∧ E 7 = .v (.int .i64 ps.length) ∧ E 6 = .sl 5 ps.length Z .any ∧ E 1 = .rop [.sl 1 g.length (g.map byteV) .any, .v (.int .i64 e), .v (.int .i64 sd), .sl 5 ps.length Z .any, .v (.bool hp), .v (.int .u64 pk), .sl 1 pp.length (pp.map byteV) .any, .sl 2 pst.length X .any, .sl 1 cf.length (cf.map byteV) .any, .sl 1 mb.length (mb.map byteV) .any] ∧ (∀ p ∈ ps.take i, p.right) ∧ s1 = s)
    (fun E _ => match E 8 with | .v (.int _ i) => ps.length - i.toNat | _ => 0) ?_ ?_
  · exact ⟨0, Nat.zero_le _, by simp only [upd, ↓reduceIte]; rfl, by simp only [upd, nEQ, ↓reduceIte], by simp only [upd, nEQ, ↓reduceIte], by simp only [upd, nEQ, ↓reduceIte], by simp, rfl⟩
  · rintro E1 s1 ⟨i, hi, g8, g7, g6, g1, hall, rfl⟩ -
    by_cases hi' : i < ps.length
    · refine awp_reg_seq ?_
      intro K hK
      simp only [↓DN, UP, DF, qSh, qCv, qIA, qIx, qSl, qBu, qCe, qOn, reduceCtorEq, ↓reduceIte, nLT, nLE, nEQ, nAdd, nMul, nPow, nSub, zLT, zLE, zNat, RMsg420, g8, g7, eye_lt_nat, decide_eq_true hi']
      refine hK _ _ ?_
      clear hK K
      refine awp_seq_k ?_
      intro K3 hK3
      refine awp_cond_k ?_
      intro X Y hX hY
      simp only [↓DN, UP, DF, qSh, qCv, qIA, qIx, qSl, qBu, qCe, qOn, reduceCtorEq, ↓reduceIte, nLT, nLE, nEQ, nAdd, nMul, nPow, nSub, zLT, zLE, zNat, RMsg420, DB]
      refine hX ?_
      clear hX hY X Y
      refine awp_skip ?_
      refine hK3 _ _ ?_
      clear hK3 K3
      refine awp_seq_k ?_
      intro K3 hK3
      refine awp_block ?_
      have hat := hrow i hi'
      have hge : (0 : Int) ≤ (i : Int) := by omega
      obtain ⟨y, hy⟩ : ∃ y, y = ps[i] := ⟨_, rfl⟩
      rw [← hy] at hat
      have hym : y ∈ ps := by rw [hy]; exact List.getElem_mem hi'
      have htk : y.right → ∀ x ∈ ps.take (i + 1), x.right := fun h => take_all hi' hall (by rw [← hy]; exact h)
      have hbad := hbad0 y hym
      have hst := fun s => proper_calls (Γ := Γ) y s
      clear hy
      obtain ⟨pk1, pk2, pk3, pk4, pk5⟩ := y
      unfold PropV.cells at hat hst
      refine awp_reg_frz 4 (by simp [dsts]) ?_
      intro K2 hK2
      simp only [↓AXq_nil, ↓AXq_cons, pval, DX, Nat.reduceBEq, ↓DN, UP, DF, qSh, qCv, qIA, qIx, qSl, qBu, qCe, qOn, reduceCtorEq, ↓reduceIte, nLT, nLE, nEQ, nAdd, nMul, nPow, nSub, zLT, zLE, zNat, RMsg420, g8, g6, eye_lt_nat, hi', hge, hat]
      intro o ho
      refine hK2 _ _ o _ (by simp only [upd, nEQ, ↓reduceIte]) ho ?_
      clear hK2 K2 ho
      refine awp_reg_seq ?_
      intro K hK
      simp only [↓DN, UP, DF, qSh, qCv, qIA, qIx, qSl, qBu, qCe, qOn, reduceCtorEq, ↓reduceIte, nLT, nLE, nEQ, nAdd, nMul, nPow, nSub, zLT, zLE, zNat, RMsg420]
      refine acallk (hst _) ?_
      rintro r s2 ⟨rfl, rfl⟩
      by_cases h1 : PropV.right ⟨pk1, pk2, pk3, pk4, pk5⟩
      · simp only [↓AXq_nil, ↓AXq_cons, pval, DX, Nat.reduceBEq, ↓DN, UP, DF, qSh, qCv, qIA, qIx, qSl, qBu, qCe, qOn, reduceCtorEq, ↓reduceIte, nLT, nLE, nEQ, nAdd, nMul, nPow, nSub, zLT, zLE, zNat, RMsg420, decide_eq_true h1]
        refine hK _ _ ?_
        clear hK K
        refine awp_cond_k ?_
        intro X Y hX hY
        simp only [↓DN, UP, DF, qSh, qCv, qIA, qIx, qSl, qBu, qCe, qOn, reduceCtorEq, ↓reduceIte, nLT, nLE, nEQ, nAdd, nMul, nPow, nSub, zLT, zLE, zNat, RMsg420, DB]
        refine hY ?_
        clear hX hY X Y
        refine awp_skip ?_
        simp only [blockQ, thenQ, if_true, if_false]
        refine hK3 _ _ ?_
        clear hK3 K3
        refine awp_reg_end ?_
        intro K hK
        simp only [↓DN, UP, DF, qSh, qCv, qIA, qIx, qSl, qBu, qCe, qOn, reduceCtorEq, ↓reduceIte, nLT, nLE, nEQ, nAdd, nMul, nPow, nSub, zLT, zLE, zNat, RMsg420, g8, eye_succM i (by omega)]
        refine hK _ _ ?_
        clear hK K
        refine ⟨⟨i + 1, by omega, by simp only [upd, ↓reduceIte], by simp only [upd, g7, nEQ, ↓reduceIte], by simp only [upd, g6, nEQ, ↓reduceIte], by simp only [upd, g1, nEQ, ↓reduceIte], htk h1, rfl⟩, ?_⟩
        simp only [g8, upd, ↓reduceIte]
        omega
      · simp only [↓AXq_nil, ↓AXq_cons, pval, DX, Nat.reduceBEq, ↓DN, UP, DF, qSh, qCv, qIA, qIx, qSl, qBu, qCe, qOn, reduceCtorEq, ↓reduceIte, nLT, nLE, nEQ, nAdd, nMul, nPow, nSub, zLT, zLE, zNat, RMsg420, decide_eq_false h1]
        refine hK _ _ ?_
        clear hK K
        refine awp_cond_k ?_
        intro X Y hX hY
        simp only [↓DN, UP, DF, qSh, qCv, qIA, qIx, qSl, qBu, qCe, qOn, reduceCtorEq, ↓reduceIte, nLT, nLE, nEQ, nAdd, nMul, nPow, nSub, zLT, zLE, zNat, RMsg420, DB]
        refine hX ?_
        clear hX hY X Y
        refine awp_reg_seq ?_
        intro K hK
        simp only [↓DN, UP, DF, qSh, qCv, qIA, qIx, qSl, qBu, qCe, qOn, reduceCtorEq, ↓reduceIte, nLT, nLE, nEQ, nAdd, nMul, nPow, nSub, zLT, zLE, zNat, RMsg420]
        refine hK _ _ ?_
        clear hK K
        refine awp_ret ?_
        try simp only [thenQ, blockQ]
        simp only [retQ, AEnds, aresL, ares, List.toList_toArray, ↓upd_same]; try simp only [↓DN, UP, DF, qSh, qCv, qIA, qIx, qSl, qBu, qCe, qOn, reduceCtorEq, ↓reduceIte, nLT, nLE, nEQ, nAdd, nMul, nPow, nSub, zLT, zLE, zNat, RMsg420, DT]
        exact ⟨_, _, AV.weak.refl _, AS.le.refl _, by rw [hbad h1], rfl⟩
    · have hR := hR (take_full hi' hall)
      clear hbad0
      refine awp_reg_seq ?_
      intro K hK
      simp only [↓DN, UP, DF, qSh, qCv, qIA, qIx, qSl, qBu, qCe, qOn, reduceCtorEq, ↓reduceIte, nLT, nLE, nEQ, nAdd, nMul, nPow, nSub, zLT, zLE, zNat, RMsg420, g8, g7, eye_lt_nat, decide_eq_false hi']
      refine hK _ _ ?_
      clear hK K
      refine awp_seq_k ?_
      intro K3 hK3
      refine awp_cond_k ?_
      intro X Y hX hY
      simp only [↓DN, UP, DF, qSh, qCv, qIA, qIx, qSl, qBu, qCe, qOn, reduceCtorEq, ↓reduceIte, nLT, nLE, nEQ, nAdd, nMul, nPow, nSub, zLT, zLE, zNat, RMsg420, DB]
      refine hY ?_
      clear hX hY X Y
      refine awp_exit ?_
      simp only [thenQ, blockQ, if_true]
      refine hK _ _ ?_
      clear hK K hK3 K3
      refine awp_reg_seq ?_
      intro K hK
      simp only [↓DN, UP, DF, qSh, qCv, qIA, qIx, qSl, qBu, qCe, qOn, reduceCtorEq, ↓reduceIte, nLT, nLE, nEQ, nAdd, nMul, nPow, nSub, zLT, zLE, zNat, RMsg420, g1]
      refine acallk (named_calls g _) ?_
      rintro r s2 ⟨rfl, rfl⟩
      by_cases h1 : 1 ≤ g.length ∧ g.length ≤ 16
      · rcases ff2 (decide (0 ≤ e)) (decide (e ≤ 1048576)) with hd | hd | hd
        case inr.inr =>
          simp only [↓AXq_nil, ↓AXq_cons, pval, DX, Nat.reduceBEq, ↓DN, UP, DF, qSh, qCv, qIA, qIx, qSl, qBu, qCe, qOn, reduceCtorEq, ↓reduceIte, nLT, nLE, nEQ, nAdd, nMul, nPow, nSub, zLT, zLE, zNat, RMsg420, g1, decide_eq_true h1, hd]
          refine acallk (leaf_calls sd _) ?_
          rintro r s3 ⟨rfl, rfl⟩
          simp only [decide_eq_true_eq] at hd
          by_cases h2 : 0 ≤ sd ∧ sd < 32
          · by_cases h3 : ps.length ≤ 16
            · simp only [↓AXq_nil, ↓AXq_cons, pval, DX, Nat.reduceBEq, ↓DN, UP, DF, qSh, qCv, qIA, qIx, qSl, qBu, qCe, qOn, reduceCtorEq, ↓reduceIte, nLT, nLE, nEQ, nAdd, nMul, nPow, nSub, zLT, zLE, zNat, RMsg420, g1, decide_eq_true h2, decide_eq_true (show (ps.length : Int) ≤ 16 by omega)]
              refine acallk (hpa _) ?_
              rintro r s4 ⟨rfl, rfl⟩
              cases b with
              | true =>
                rcases ff2 ((cf.length : Int) == 32) ((mb.length : Int) == 32) with hd2 | hd2 | hd2
                all_goals
                  simp only [↓AXq_nil, ↓AXq_cons, pval, DX, Nat.reduceBEq, ↓DN, UP, DF, qSh, qCv, qIA, qIx, qSl, qBu, qCe, qOn, reduceCtorEq, ↓reduceIte, nLT, nLE, nEQ, nAdd, nMul, nPow, nSub, zLT, zLE, zNat, RMsg420, g1, hd2]
                  refine hK _ _ ?_
                  clear hK K
                  refine awp_ret ?_
                  simp only [retQ, AEnds, aresL, ares, List.toList_toArray, ↓upd_same]; try simp only [↓DN, UP, DF, qSh, qCv, qIA, qIx, qSl, qBu, qCe, qOn, reduceCtorEq, ↓reduceIte, nLT, nLE, nEQ, nAdd, nMul, nPow, nSub, zLT, zLE, zNat, RMsg420, DT]
                  refine ⟨_, _, AV.weak.refl _, AS.le.refl _, ?_, rfl⟩
                  simp only [beq_iff_eq, beq_eq_false_iff_ne, ne_eq] at hd2
                  rw [hR]
                  congr 2
                  symm
                  first
                    | exact decide_eq_true ⟨h1, hd, h2, h3, rfl, by omega, by omega⟩
                    | exact decide_eq_false fun h => by omega
              | false =>
                simp only [↓AXq_nil, ↓AXq_cons, pval, DX, Nat.reduceBEq, ↓DN, UP, DF, qSh, qCv, qIA, qIx, qSl, qBu, qCe, qOn, reduceCtorEq, ↓reduceIte, nLT, nLE, nEQ, nAdd, nMul, nPow, nSub, zLT, zLE, zNat, RMsg420, g1]
                refine hK _ _ ?_
                clear hK K
                refine awp_ret ?_
                simp only [retQ, AEnds, aresL, ares, List.toList_toArray, ↓upd_same]; try simp only [↓DN, UP, DF, qSh, qCv, qIA, qIx, qSl, qBu, qCe, qOn, reduceCtorEq, ↓reduceIte, nLT, nLE, nEQ, nAdd, nMul, nPow, nSub, zLT, zLE, zNat, RMsg420, DT]
                exact ⟨_, _, AV.weak.refl _, AS.le.refl _, by rw [hR]; simp, rfl⟩
            · simp only [↓AXq_nil, ↓AXq_cons, pval, DX, Nat.reduceBEq, ↓DN, UP, DF, qSh, qCv, qIA, qIx, qSl, qBu, qCe, qOn, reduceCtorEq, ↓reduceIte, nLT, nLE, nEQ, nAdd, nMul, nPow, nSub, zLT, zLE, zNat, RMsg420, g1, decide_eq_true h2, decide_eq_false (show ¬ (ps.length : Int) ≤ 16 by omega)]
              refine hK _ _ ?_
              clear hK K
              refine awp_ret ?_
              simp only [retQ, AEnds, aresL, ares, List.toList_toArray, ↓upd_same]; try simp only [↓DN, UP, DF, qSh, qCv, qIA, qIx, qSl, qBu, qCe, qOn, reduceCtorEq, ↓reduceIte, nLT, nLE, nEQ, nAdd, nMul, nPow, nSub, zLT, zLE, zNat, RMsg420, DT]
              exact ⟨_, _, AV.weak.refl _, AS.le.refl _, by rw [hR, decide_eq_false fun h => h3 h.2.2.2.1], rfl⟩
          · simp only [↓AXq_nil, ↓AXq_cons, pval, DX, Nat.reduceBEq, ↓DN, UP, DF, qSh, qCv, qIA, qIx, qSl, qBu, qCe, qOn, reduceCtorEq, ↓reduceIte, nLT, nLE, nEQ, nAdd, nMul, nPow, nSub, zLT, zLE, zNat, RMsg420, g1, decide_eq_false h2]
            refine hK _ _ ?_
            clear hK K
            refine awp_ret ?_
            simp only [retQ, AEnds, aresL, ares, List.toList_toArray, ↓upd_same]; try simp only [↓DN, UP, DF, qSh, qCv, qIA, qIx, qSl, qBu, qCe, qOn, reduceCtorEq, ↓reduceIte, nLT, nLE, nEQ, nAdd, nMul, nPow, nSub, zLT, zLE, zNat, RMsg420, DT]
            exact ⟨_, _, AV.weak.refl _, AS.le.refl _, by rw [hR, decide_eq_false fun h => h2 h.2.2.1], rfl⟩
        all_goals
          simp only [↓AXq_nil, ↓AXq_cons, pval, DX, Nat.reduceBEq, ↓DN, UP, DF, qSh, qCv, qIA, qIx, qSl, qBu, qCe, qOn, reduceCtorEq, ↓reduceIte, nLT, nLE, nEQ, nAdd, nMul, nPow, nSub, zLT, zLE, zNat, RMsg420, g1, decide_eq_true h1, hd]
          refine hK _ _ ?_
          clear hK K
          refine awp_ret ?_
          simp only [retQ, AEnds, aresL, ares, List.toList_toArray, ↓upd_same]; try simp only [↓DN, UP, DF, qSh, qCv, qIA, qIx, qSl, qBu, qCe, qOn, reduceCtorEq, ↓reduceIte, nLT, nLE, nEQ, nAdd, nMul, nPow, nSub, zLT, zLE, zNat, RMsg420, DT]
          refine ⟨_, _, AV.weak.refl _, AS.le.refl _, ?_, rfl⟩
          simp only [decide_eq_true_eq, decide_eq_false_iff_not] at hd
          rw [hR, decide_eq_false fun h => by have := h.2.1; omega]
      · simp only [↓AXq_nil, ↓AXq_cons, pval, DX, Nat.reduceBEq, ↓DN, UP, DF, qSh, qCv, qIA, qIx, qSl, qBu, qCe, qOn, reduceCtorEq, ↓reduceIte, nLT, nLE, nEQ, nAdd, nMul, nPow, nSub, zLT, zLE, zNat, RMsg420, g1, decide_eq_false h1]
        refine hK _ _ ?_
        clear hK K
        refine awp_ret ?_
        simp only [retQ, AEnds, aresL, ares, List.toList_toArray, ↓upd_same]; try simp only [↓DN, UP, DF, qSh, qCv, qIA, qIx, qSl, qBu, qCe, qOn, reduceCtorEq, ↓reduceIte, nLT, nLE, nEQ, nAdd, nMul, nPow, nSub, zLT, zLE, zNat, RMsg420, DT]
        exact ⟨_, _, AV.weak.refl _, AS.le.refl _, by rw [hR, decide_eq_false fun h => h1 h.1], rfl⟩

theorem fits_of_wf {c : CommitV} (h : c.wf) : CommitV.fits c := by
  obtain ⟨h1, ⟨h2, h3, h4⟩, h5⟩ := h
  unfold maxLen at h4 h5
  refine ⟨by omega, by omega, fun x hx => ?_⟩
  have := (h3 x hx).2.2
  unfold maxLen at this
  omega

end Go.Proofs.Ytcnilmidfhpckaa


