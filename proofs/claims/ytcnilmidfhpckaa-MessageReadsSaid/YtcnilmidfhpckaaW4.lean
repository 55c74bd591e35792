/- Contracts of the program's functions, each walked once; the conditions stand in each theorem. -/
import Derived.Test.YtcnilmidfhpckaaAMp6
import Derived.Test.YtcnilmidfhpckaaW3
import Derived.Test.YtcnilmidfhpckaaW2
import Derived.Test.YtcnilmidfhpckaaAMp4
set_option linter.unusedSimpArgs false
set_option linter.unusedVariables false
open Nat renaming reduceLT → nLT, reduceLeDiff → nLE, reduceEqDiff → nEQ, reduceAdd → nAdd, reduceMul → nMul, reducePow → nPow, reduceSub → nSub
open Int renaming reduceLT → zLT, reduceLE → zLE, reduceToNat → zNat
open Go.AM renaming ashift → qSh, aconv → qCv, aindexAddr → qIA, aindex → qIx, aslice → qSl, abuiltin → qBu
open Go.AM.AV renaming cells → qCe, one → qOn
set_option autoImplicit false
namespace Go.Proofs.Ytcnilmidfhpckaa
open Go Go.AM Go.Proofs

theorem RMsg451 : type_of% (And.intro (And.intro (And.intro (And.intro (And.intro (And.intro (And.intro @Try.underlying3 T.c3) (And.intro T.g3 (And.intro T.b3 T.z3))) (And.intro (And.intro @Try.underlying4 T.c4) (And.intro T.g4 (And.intro T.b4 T.z4)))) (And.intro (And.intro (And.intro @Try.underlying5 T.c5) (And.intro T.g5 (And.intro T.b5 T.z5))) (And.intro (And.intro @Try.underlying28 T.c28) (And.intro T.g28 (And.intro T.b28 T.z28))))) (And.intro (And.intro (And.intro (And.intro T.s28 @Try.underlying41) (And.intro T.c41 (And.intro T.g41 T.b41))) (And.intro (And.intro T.z41 T.s41) (And.intro @Try.underlying42 (And.intro T.c42 T.g42)))) (And.intro (And.intro (And.intro T.b42 T.z42) (And.intro @Try.underlying43 (And.intro T.c43 T.g43))) (And.intro (And.intro T.b43 T.z43) (And.intro T.s43 (And.intro @Try.underlying45 T.c45)))))) (And.intro (And.intro (And.intro (And.intro (And.intro T.g45 T.b45) (And.intro T.z45 (And.intro T.h45 @Try.underlying47))) (And.intro (And.intro T.c47 T.g47) (And.intro T.b47 (And.intro T.z47 T.h47)))) (And.intro (And.intro (And.intro @Try.underlying80 T.c80) (And.intro T.g80 (And.intro T.b80 T.z80))) (And.intro (And.intro T.h80 @Try.underlying81) (And.intro T.c81 (And.intro T.g81 T.b81))))) (And.intro (And.intro (And.intro (And.intro T.z81 T.s81) (And.intro @Try.underlying83 (And.intro T.c83 T.g83))) (And.intro (And.intro T.b83 T.z83) (And.intro T.h83 (And.intro @Try.underlying85 T.c85)))) (And.intro (And.intro (And.intro T.g85 T.b85) (And.intro T.z85 (And.intro T.h85 T.f45_0))) (And.intro (And.intro T.f45_1 (And.intro T.f45_2 T.f47_4)) (And.intro T.f47_5 (And.intro T.k99 T.k100))))))) Try.ntmps51) :=
  (And.intro (And.intro (And.intro (And.intro (And.intro (And.intro (And.intro @Try.underlying3 T.c3) (And.intro T.g3 (And.intro T.b3 T.z3))) (And.intro (And.intro @Try.underlying4 T.c4) (And.intro T.g4 (And.intro T.b4 T.z4)))) (And.intro (And.intro (And.intro @Try.underlying5 T.c5) (And.intro T.g5 (And.intro T.b5 T.z5))) (And.intro (And.intro @Try.underlying28 T.c28) (And.intro T.g28 (And.intro T.b28 T.z28))))) (And.intro (And.intro (And.intro (And.intro T.s28 @Try.underlying41) (And.intro T.c41 (And.intro T.g41 T.b41))) (And.intro (And.intro T.z41 T.s41) (And.intro @Try.underlying42 (And.intro T.c42 T.g42)))) (And.intro (And.intro (And.intro T.b42 T.z42) (And.intro @Try.underlying43 (And.intro T.c43 T.g43))) (And.intro (And.intro T.b43 T.z43) (And.intro T.s43 (And.intro @Try.underlying45 T.c45)))))) (And.intro (And.intro (And.intro (And.intro (And.intro T.g45 T.b45) (And.intro T.z45 (And.intro T.h45 @Try.underlying47))) (And.intro (And.intro T.c47 T.g47) (And.intro T.b47 (And.intro T.z47 T.h47)))) (And.intro (And.intro (And.intro @Try.underlying80 T.c80) (And.intro T.g80 (And.intro T.b80 T.z80))) (And.intro (And.intro T.h80 @Try.underlying81) (And.intro T.c81 (And.intro T.g81 T.b81))))) (And.intro (And.intro (And.intro (And.intro T.z81 T.s81) (And.intro @Try.underlying83 (And.intro T.c83 T.g83))) (And.intro (And.intro T.b83 T.z83) (And.intro T.h83 (And.intro @Try.underlying85 T.c85)))) (And.intro (And.intro (And.intro T.g85 T.b85) (And.intro T.z85 (And.intro T.h85 T.f45_0))) (And.intro (And.intro T.f45_1 (And.intro T.f45_2 T.f47_4)) (And.intro T.f47_5 (And.intro T.k99 T.k100))))))) Try.ntmps51)
theorem RMsg420 : type_of% (And.intro (And.intro (And.intro (And.intro (And.intro (And.intro (And.intro @Try.underlying3 T.c3) (And.intro T.g3 T.b3)) (And.intro (And.intro T.z3 @Try.underlying4) (And.intro T.c4 T.g4))) (And.intro (And.intro (And.intro T.b4 T.z4) (And.intro @Try.underlying5 T.c5)) (And.intro (And.intro T.g5 T.b5) (And.intro T.z5 @Try.underlying28)))) (And.intro (And.intro (And.intro (And.intro T.c28 T.g28) (And.intro T.b28 T.z28)) (And.intro (And.intro T.s28 @Try.underlying41) (And.intro T.c41 T.g41))) (And.intro (And.intro (And.intro T.b41 T.z41) (And.intro T.s41 @Try.underlying42)) (And.intro (And.intro T.c42 T.g42) (And.intro T.b42 (And.intro T.z42 @Try.underlying43)))))) (And.intro (And.intro (And.intro (And.intro (And.intro T.c43 T.g43) (And.intro T.b43 T.z43)) (And.intro (And.intro T.s43 @Try.underlying45) (And.intro T.c45 T.g45))) (And.intro (And.intro (And.intro T.b45 T.z45) (And.intro T.h45 @Try.underlying47)) (And.intro (And.intro T.c47 T.g47) (And.intro T.b47 T.z47)))) (And.intro (And.intro (And.intro (And.intro T.h47 @Try.underlying80) (And.intro T.c80 T.g80)) (And.intro (And.intro T.b80 T.z80) (And.intro T.h80 T.f47_0))) (And.intro (And.intro (And.intro T.f47_1 T.f47_2) (And.intro T.f47_3 T.f47_6)) (And.intro (And.intro T.f47_7 T.k49) (And.intro T.k50 (And.intro T.k48 T.k51))))))) Try.ntmps20) :=
  (And.intro (And.intro (And.intro (And.intro (And.intro (And.intro (And.intro @Try.underlying3 T.c3) (And.intro T.g3 T.b3)) (And.intro (And.intro T.z3 @Try.underlying4) (And.intro T.c4 T.g4))) (And.intro (And.intro (And.intro T.b4 T.z4) (And.intro @Try.underlying5 T.c5)) (And.intro (And.intro T.g5 T.b5) (And.intro T.z5 @Try.underlying28)))) (And.intro (And.intro (And.intro (And.intro T.c28 T.g28) (And.intro T.b28 T.z28)) (And.intro (And.intro T.s28 @Try.underlying41) (And.intro T.c41 T.g41))) (And.intro (And.intro (And.intro T.b41 T.z41) (And.intro T.s41 @Try.underlying42)) (And.intro (And.intro T.c42 T.g42) (And.intro T.b42 (And.intro T.z42 @Try.underlying43)))))) (And.intro (And.intro (And.intro (And.intro (And.intro T.c43 T.g43) (And.intro T.b43 T.z43)) (And.intro (And.intro T.s43 @Try.underlying45) (And.intro T.c45 T.g45))) (And.intro (And.intro (And.intro T.b45 T.z45) (And.intro T.h45 @Try.underlying47)) (And.intro (And.intro T.c47 T.g47) (And.intro T.b47 T.z47)))) (And.intro (And.intro (And.intro (And.intro T.h47 @Try.underlying80) (And.intro T.c80 T.g80)) (And.intro (And.intro T.b80 T.z80) (And.intro T.h80 T.f47_0))) (And.intro (And.intro (And.intro T.f47_1 T.f47_2) (And.intro T.f47_3 T.f47_6)) (And.intro (And.intro T.f47_7 T.k49) (And.intro T.k50 (And.intro T.k48 T.k51))))))) Try.ntmps20)

variable {Γ : Nat → List AV}

set_option maxHeartbeats 4000000 in
set_option maxRecDepth 100000 in
theorem pathed_calls (c : CommitV) (hl : c.path.steps.length ≤ 9223372036854775807) (hls : ∀ x ∈ c.path.steps, x.seals.length ≤ 9223372036854775807) (s : AS) : ACalls Try.prog Γ 51 [.agg c.cells] s (fun r s' => r = .v (.bool (decide c.pathed)) ∧ s' = s) := by
  refine acalls_body Try.func51 rfl Try.ntmps51 Try.results51 (by simp) ?_
  obtain ⟨g, e, sd, ps, hp, ⟨pk, pp, pst⟩, cf, mb⟩ := c
  simp only at hl hls
  unfold CommitV.cells
  have hrow := fun i (h : i < pst.length) => row_at (c := StepV.cells) (k := 2) (fun _ => rfl) h
  generalize hX : rowC StepV.cells pst = X at *
  generalize hZ : rowC PropV.cells ps = Z at *
  refine awp_reg_frz 1 (by simp [dsts]) ?_
  intro K hK
  simp only [↓AXq_nil, ↓AXq_cons, pval, DX, Nat.reduceBEq, ↓DN, UP, DF, qSh, qCv, qIA, qIx, qSl, qBu, qCe, qOn, reduceCtorEq, ↓reduceIte, nLT, nLE, nEQ, nAdd, nMul, nPow, nSub, zLT, zLE, zNat, RMsg451]
  intro o ho
  refine hK _ _ o _ (by simp only [upd, nEQ, ↓reduceIte]) ho ?_
  clear hK K ho
  refine awp_reg_frz 3 (by simp [dsts]) ?_
  intro K hK
  simp only [↓AXq_nil, ↓AXq_cons, pval, DX, Nat.reduceBEq, ↓DN, UP, DF, qSh, qCv, qIA, qIx, qSl, qBu, qCe, qOn, reduceCtorEq, ↓reduceIte, nLT, nLE, nEQ, nAdd, nMul, nPow, nSub, zLT, zLE, zNat, RMsg451]
  intro o ho
  refine hK _ _ o _ (by simp only [upd, nEQ, ↓reduceIte]) ho ?_
  clear hK K ho
  refine awp_seq_k ?_
  intro K hK
  cases hp with
  | false =>
    refine awp_reg_seq ?_
    intro K hK
    simp only [↓DN, UP, DF, qSh, qCv, qIA, qIx, qSl, qBu, qCe, qOn, reduceCtorEq, ↓reduceIte, nLT, nLE, nEQ, nAdd, nMul, nPow, nSub, zLT, zLE, zNat, RMsg451]
    refine hK _ _ ?_
    clear hK K
    refine awp_cond_k ?_
    intro X Y hX hY
    simp only [↓DN, UP, DF, qSh, qCv, qIA, qIx, qSl, qBu, qCe, qOn, reduceCtorEq, ↓reduceIte, nLT, nLE, nEQ, nAdd, nMul, nPow, nSub, zLT, zLE, zNat, RMsg451, DB]
    refine hX ?_
    clear hX hY X Y
    have hno : decide (CommitV.pathed ⟨g, e, sd, ps, false, ⟨pk, pp, pst⟩, cf, mb⟩) = decide (pk = 0 ∧ pp.length = 0 ∧ pst.length = 0) :=
      decide_eq_decide.2 ⟨fun h => h.2 rfl, fun h => ⟨fun q => (by cases q), fun _ => h⟩⟩
    rw [hno] at hK ⊢
    rcases ff3 ((pk : Int) == 0) ((pp.length : Int) == 0) ((pst.length : Int) == 0) with hd | hd | hd | hd
    all_goals
      refine awp_reg_seq ?_
      intro K hK
      simp only [↓DN, UP, DF, qSh, qCv, qIA, qIx, qSl, qBu, qCe, qOn, reduceCtorEq, ↓reduceIte, nLT, nLE, nEQ, nAdd, nMul, nPow, nSub, zLT, zLE, zNat, RMsg451, hd]
      refine hK _ _ ?_
      clear hK K
      refine awp_ret ?_
      try simp only [thenQ, blockQ]
      simp only [retQ, AEnds, aresL, ares, List.toList_toArray, ↓upd_same]; try simp only [↓DN, UP, DF, qSh, qCv, qIA, qIx, qSl, qBu, qCe, qOn, reduceCtorEq, ↓reduceIte, nLT, nLE, nEQ, nAdd, nMul, nPow, nSub, zLT, zLE, zNat, RMsg451, DT]
      refine ⟨_, _, AV.weak.refl _, AS.le.refl _, ?_, rfl⟩
      simp only [beq_iff_eq, beq_eq_false_iff_ne, ne_eq] at hd
      congr 2
      symm
      first
        | exact decide_eq_true (by omega)
        | exact decide_eq_false (by omega)
  | true =>
    have hyes : decide (CommitV.pathed ⟨g, e, sd, ps, true, ⟨pk, pp, pst⟩, cf, mb⟩) = decide (PathV.right ⟨pk, pp, pst⟩) :=
      decide_eq_decide.2 ⟨fun h => h.1 rfl, fun h => ⟨fun _ => h, fun q => (by cases q)⟩⟩
    rw [hyes] at hK ⊢
    clear hyes
    refine awp_reg_seq ?_
    intro K hK
    simp only [↓DN, UP, DF, qSh, qCv, qIA, qIx, qSl, qBu, qCe, qOn, reduceCtorEq, ↓reduceIte, nLT, nLE, nEQ, nAdd, nMul, nPow, nSub, zLT, zLE, zNat, RMsg451]
    refine hK _ _ ?_
    clear hK K
    refine awp_cond_k ?_
    intro X Y hX hY
    simp only [↓DN, UP, DF, qSh, qCv, qIA, qIx, qSl, qBu, qCe, qOn, reduceCtorEq, ↓reduceIte, nLT, nLE, nEQ, nAdd, nMul, nPow, nSub, zLT, zLE, zNat, RMsg451, DB]
    refine hY ?_
    clear hX hY X Y
    refine awp_skip ?_
    refine hK _ _ ?_
    clear hK K
    refine awp_seq_k ?_
    intro K hK
    refine awp_reg_seq ?_
    intro K hK
    simp only [↓DN, UP, DF, qSh, qCv, qIA, qIx, qSl, qBu, qCe, qOn, reduceCtorEq, ↓reduceIte, nLT, nLE, nEQ, nAdd, nMul, nPow, nSub, zLT, zLE, zNat, RMsg451]
    refine hK _ _ ?_
    clear hK K
    refine awp_block ?_
    refine awp_loop (fun E s1 => ∃ i : Nat, i ≤ pst.length ∧ E 29 = .v (.int .i64 i) ∧ E 28 = .v (.int .i64 pst.length) ∧ E 27 = .sl 2 pst.length X .any ∧ E 3 = .rop [.v (.int .u64 pk), .sl 1 pp.length (pp.map byteV) .any, .sl 2 pst.length X .any] ∧ (∀ p ∈ pst.take i, p.right) ∧ s1 = s)
      (fun E _ => match E 29 with | .v (.int _ i) => pst.length - i.toNat | _ => 0) ?_ ?_
    · exact ⟨0, Nat.zero_le _, by simp only [upd, ↓reduceIte]; rfl, by simp only [upd, nEQ, ↓reduceIte], by simp only [upd, nEQ, ↓reduceIte], by simp only [upd, nEQ, ↓reduceIte], by simp, rfl⟩
    · rintro E1 s1 ⟨i, hi, g8, g7, g6, g1, hall, rfl⟩ -
      by_cases hi' : i < pst.length
      · refine awp_reg_seq ?_
        intro K hK
        simp only [↓DN, UP, DF, qSh, qCv, qIA, qIx, qSl, qBu, qCe, qOn, reduceCtorEq, ↓reduceIte, nLT, nLE, nEQ, nAdd, nMul, nPow, nSub, zLT, zLE, zNat, RMsg451, g8, g7, eye_lt_nat, decide_eq_true hi']
        refine hK _ _ ?_
        clear hK K
        refine awp_seq_k ?_
        intro K3 hK3
        refine awp_cond_k ?_
        intro X Y hX hY
        simp only [↓DN, UP, DF, qSh, qCv, qIA, qIx, qSl, qBu, qCe, qOn, reduceCtorEq, ↓reduceIte, nLT, nLE, nEQ, nAdd, nMul, nPow, nSub, zLT, zLE, zNat, RMsg451, DB]
        refine hX ?_
        clear hX hY X Y
        refine awp_skip ?_
        refine hK3 _ _ ?_
        clear hK3 K3
        refine awp_seq_k ?_
        intro K3 hK3
        refine awp_block ?_
        have hat := hrow i hi'
        have hge : (0 : Int) ≤ (i : Int) := by omega
        obtain ⟨y, hy⟩ : ∃ y, y = pst[i] := ⟨_, rfl⟩
        rw [← hy] at hat
        have hym : y ∈ pst := by rw [hy]; exact List.getElem_mem hi'
        have htk : y.right → ∀ x ∈ pst.take (i + 1), x.right := fun h => take_all hi' hall (by rw [← hy]; exact h)
        have hbad : ¬ y.right → decide (PathV.right ⟨pk, pp, pst⟩) = false := fun h => decide_eq_false fun hr => h (hr.1 y hym)
        have hst := fun s => step_calls (Γ := Γ) y (hls y hym) s
        clear hy
        obtain ⟨f, t⟩ := y
        unfold StepV.cells at hat hst
        generalize rowC SealV.cells t = T at *
        refine awp_reg_frz 5 (by simp [dsts]) ?_
        intro K2 hK2
        simp only [↓AXq_nil, ↓AXq_cons, pval, DX, Nat.reduceBEq, ↓DN, UP, DF, qSh, qCv, qIA, qIx, qSl, qBu, qCe, qOn, reduceCtorEq, ↓reduceIte, nLT, nLE, nEQ, nAdd, nMul, nPow, nSub, zLT, zLE, zNat, RMsg451, g8, g6, eye_lt_nat, hi', hge, hat]
        intro o ho
        refine hK2 _ _ o _ (by simp only [upd, nEQ, ↓reduceIte]) ho ?_
        clear hK2 K2 ho
        refine awp_reg_seq ?_
        intro K hK
        simp only [↓DN, UP, DF, qSh, qCv, qIA, qIx, qSl, qBu, qCe, qOn, reduceCtorEq, ↓reduceIte, nLT, nLE, nEQ, nAdd, nMul, nPow, nSub, zLT, zLE, zNat, RMsg451]
        refine acallk (hst _) ?_
        rintro r s2 ⟨rfl, rfl⟩
        by_cases h1 : StepV.right ⟨f, t⟩
        · simp only [↓AXq_nil, ↓AXq_cons, pval, DX, Nat.reduceBEq, ↓DN, UP, DF, qSh, qCv, qIA, qIx, qSl, qBu, qCe, qOn, reduceCtorEq, ↓reduceIte, nLT, nLE, nEQ, nAdd, nMul, nPow, nSub, zLT, zLE, zNat, RMsg451, decide_eq_true h1]
          refine hK _ _ ?_
          clear hK K
          refine awp_cond_k ?_
          intro X Y hX hY
          simp only [↓DN, UP, DF, qSh, qCv, qIA, qIx, qSl, qBu, qCe, qOn, reduceCtorEq, ↓reduceIte, nLT, nLE, nEQ, nAdd, nMul, nPow, nSub, zLT, zLE, zNat, RMsg451, DB]
          refine hY ?_
          clear hX hY X Y
          refine awp_skip ?_
          simp only [blockQ, thenQ, if_true, if_false]
          refine hK3 _ _ ?_
          clear hK3 K3
          refine awp_reg_end ?_
          intro K hK
          simp only [↓DN, UP, DF, qSh, qCv, qIA, qIx, qSl, qBu, qCe, qOn, reduceCtorEq, ↓reduceIte, nLT, nLE, nEQ, nAdd, nMul, nPow, nSub, zLT, zLE, zNat, RMsg451, g8, eye_succM i (by omega)]
          refine hK _ _ ?_
          clear hK K
          refine ⟨⟨i + 1, by omega, by simp only [upd, ↓reduceIte], by simp only [upd, g7, nEQ, ↓reduceIte], by simp only [upd, g6, nEQ, ↓reduceIte], by simp only [upd, g1, nEQ, ↓reduceIte], htk h1, rfl⟩, ?_⟩
          simp only [g8, upd, ↓reduceIte]
          omega
        · simp only [↓AXq_nil, ↓AXq_cons, pval, DX, Nat.reduceBEq, ↓DN, UP, DF, qSh, qCv, qIA, qIx, qSl, qBu, qCe, qOn, reduceCtorEq, ↓reduceIte, nLT, nLE, nEQ, nAdd, nMul, nPow, nSub, zLT, zLE, zNat, RMsg451, decide_eq_false h1]
          refine hK _ _ ?_
          clear hK K
          refine awp_cond_k ?_
          intro X Y hX hY
          simp only [↓DN, UP, DF, qSh, qCv, qIA, qIx, qSl, qBu, qCe, qOn, reduceCtorEq, ↓reduceIte, nLT, nLE, nEQ, nAdd, nMul, nPow, nSub, zLT, zLE, zNat, RMsg451, DB]
          refine hX ?_
          clear hX hY X Y
          refine awp_reg_seq ?_
          intro K hK
          simp only [↓DN, UP, DF, qSh, qCv, qIA, qIx, qSl, qBu, qCe, qOn, reduceCtorEq, ↓reduceIte, nLT, nLE, nEQ, nAdd, nMul, nPow, nSub, zLT, zLE, zNat, RMsg451]
          refine hK _ _ ?_
          clear hK K
          refine awp_ret ?_
          try simp only [thenQ, blockQ]
          simp only [retQ, AEnds, aresL, ares, List.toList_toArray, ↓upd_same]; try simp only [↓DN, UP, DF, qSh, qCv, qIA, qIx, qSl, qBu, qCe, qOn, reduceCtorEq, ↓reduceIte, nLT, nLE, nEQ, nAdd, nMul, nPow, nSub, zLT, zLE, zNat, RMsg451, DT]
          exact ⟨_, _, AV.weak.refl _, AS.le.refl _, by rw [hbad h1], rfl⟩
      · have hfull := take_full hi' hall
        refine awp_reg_seq ?_
        intro K hK
        simp only [↓DN, UP, DF, qSh, qCv, qIA, qIx, qSl, qBu, qCe, qOn, reduceCtorEq, ↓reduceIte, nLT, nLE, nEQ, nAdd, nMul, nPow, nSub, zLT, zLE, zNat, RMsg451, g8, g7, eye_lt_nat, decide_eq_false hi']
        refine hK _ _ ?_
        clear hK K
        refine awp_seq_k ?_
        intro K3 hK3
        refine awp_cond_k ?_
        intro X Y hX hY
        simp only [↓DN, UP, DF, qSh, qCv, qIA, qIx, qSl, qBu, qCe, qOn, reduceCtorEq, ↓reduceIte, nLT, nLE, nEQ, nAdd, nMul, nPow, nSub, zLT, zLE, zNat, RMsg451, DB]
        refine hY ?_
        clear hX hY X Y
        refine awp_exit ?_
        simp only [thenQ, blockQ, if_true]
        refine hK _ _ ?_
        clear hK K hK3 K3
        refine awp_reg_seq ?_
        intro K hK
        simp only [↓DN, UP, DF, qSh, qCv, qIA, qIx, qSl, qBu, qCe, qOn, reduceCtorEq, ↓reduceIte, nLT, nLE, nEQ, nAdd, nMul, nPow, nSub, zLT, zLE, zNat, RMsg451, g1]
        refine acallk (rightP_calls pk _) ?_
        rintro r s2 ⟨rfl, rfl⟩
        by_cases h1 : Pub pk
        · rcases tt2 ((pp.length : Int) == 0) ((pp.length : Int) == 32) with hd | hd | hd
          all_goals
            simp only [↓AXq_nil, ↓AXq_cons, pval, DX, Nat.reduceBEq, ↓DN, UP, DF, qSh, qCv, qIA, qIx, qSl, qBu, qCe, qOn, reduceCtorEq, ↓reduceIte, nLT, nLE, nEQ, nAdd, nMul, nPow, nSub, zLT, zLE, zNat, RMsg451, g1, decide_eq_true h1, hd]
            refine hK _ _ ?_
            clear hK K
            refine awp_ret ?_
            simp only [retQ, AEnds, aresL, ares, List.toList_toArray, ↓upd_same]; try simp only [↓DN, UP, DF, qSh, qCv, qIA, qIx, qSl, qBu, qCe, qOn, reduceCtorEq, ↓reduceIte, nLT, nLE, nEQ, nAdd, nMul, nPow, nSub, zLT, zLE, zNat, RMsg451, DT]
            refine ⟨_, _, AV.weak.refl _, AS.le.refl _, ?_, rfl⟩
            simp only [beq_iff_eq, beq_eq_false_iff_ne, ne_eq] at hd
          · congr 2
            exact decide_eq_decide.2 ⟨fun h => ⟨hfull, h1, Or.inl (by simp only; omega), by simp only; omega⟩, fun h => by have := h.2.2.2; simp only at this; omega⟩
          · congr 2
            exact decide_eq_decide.2 ⟨fun h => ⟨hfull, h1, Or.inr (by simp only; omega), by simp only; omega⟩, fun h => by have := h.2.2.2; simp only at this; omega⟩
          · congr 2
            symm
            exact decide_eq_false fun h => by have := h.2.2.1; simp only at this; omega
        · simp only [↓AXq_nil, ↓AXq_cons, pval, DX, Nat.reduceBEq, ↓DN, UP, DF, qSh, qCv, qIA, qIx, qSl, qBu, qCe, qOn, reduceCtorEq, ↓reduceIte, nLT, nLE, nEQ, nAdd, nMul, nPow, nSub, zLT, zLE, zNat, RMsg451, g1, decide_eq_false h1]
          refine hK _ _ ?_
          clear hK K
          refine awp_ret ?_
          simp only [retQ, AEnds, aresL, ares, List.toList_toArray, ↓upd_same]; try simp only [↓DN, UP, DF, qSh, qCv, qIA, qIx, qSl, qBu, qCe, qOn, reduceCtorEq, ↓reduceIte, nLT, nLE, nEQ, nAdd, nMul, nPow, nSub, zLT, zLE, zNat, RMsg451, DT]
          exact ⟨_, _, AV.weak.refl _, AS.le.refl _, by rw [decide_eq_false fun h => h1 h.2.1], rfl⟩

def CommitV.fits (c : CommitV) : Prop := c.props.length ≤ 9223372036854775807 ∧ c.path.steps.length ≤ 9223372036854775807 ∧ ∀ x ∈ c.path.steps, x.seals.length ≤ 9223372036854775807

set_option maxHeartbeats 4000000 in
set_option maxRecDepth 100000 in
theorem mright_calls (c : CommitV) (hf : CommitV.fits c) (s : AS) : ACalls Try.prog Γ 20 [.agg c.cells] s (fun r s' => r = .v (.bool (decide c.right)) ∧ s' = s) := by
  refine acalls_body Try.func20 rfl Try.ntmps20 Try.results20 (by simp) ?_
  have hpa := fun s => pathed_calls (Γ := Γ) c hf.2.1 hf.2.2 s
  have hl := hf.1
  clear hf
  obtain ⟨b, hb⟩ : ∃ b, b = decide c.pathed := ⟨_, rfl⟩
  rw [← hb] at hpa
  have hbp : c.pathed ↔ b = true := by rw [hb]; exact (decide_eq_true_iff).symm
  have hR : (∀ x ∈ c.props, x.right) → decide c.right = decide ((1 ≤ c.group.length ∧ c.group.length ≤ 16) ∧ (0 ≤ c.epoch ∧ c.epoch ≤ 1048576) ∧ (0 ≤ c.sender ∧ c.sender < 32) ∧ c.props.length ≤ 16 ∧ b = true ∧ c.confirm.length = 32 ∧ c.member.length = 32) := by
    intro h
    refine decide_eq_decide.2 ⟨fun q => ?_, fun q => ?_⟩
    · obtain ⟨_, q1, q2, q3, q4, q5, q6⟩ := q
      exact ⟨q1, q2, q3, q4, hbp.1 q5, q6⟩
    · obtain ⟨q1, q2, q3, q4, q5, q6⟩ := q
      exact ⟨h, q1, q2, q3, q4, hbp.2 q5, q6⟩
  have hbad0 : ∀ y, y ∈ c.props → ¬ y.right → decide c.right = false := fun y hy h => decide_eq_false fun q => h (q.1 y hy)
  generalize decide c.right = R at *
  clear hb hbp
  obtain ⟨g, e, sd, ps, hp, ⟨pk, pp, pst⟩, cf, mb⟩ := c
  simp only at hl hR hbad0
  unfold CommitV.cells at hpa ⊢
  have hrow := fun i (h : i < ps.length) => row_at (c := PropV.cells) (k := 5) (fun _ => rfl) h
  generalize hX : rowC StepV.cells pst = X at *
  generalize hZ : rowC PropV.cells ps = Z at *
  refine awp_reg_frz 1 (by simp [dsts]) ?_
  intro K hK
  simp only [↓AXq_nil, ↓AXq_cons, pval, DX, Nat.reduceBEq, ↓DN, UP, DF, qSh, qCv, qIA, qIx, qSl, qBu, qCe, qOn, reduceCtorEq, ↓reduceIte, nLT, nLE, nEQ, nAdd, nMul, nPow, nSub, zLT, zLE, zNat, RMsg420]
  intro o ho
  refine hK _ _ o _ (by simp only [upd, nEQ, ↓reduceIte]) ho ?_
  clear hK K ho
  refine awp_seq_k ?_
  intro K hK
  refine awp_reg_seq ?_
  intro K hK
  simp only [↓DN, UP, DF, qSh, qCv, qIA, qIx, qSl, qBu, qCe, qOn, reduceCtorEq, ↓reduceIte, nLT, nLE, nEQ, nAdd, nMul, nPow, nSub, zLT, zLE, zNat, RMsg420]
  refine hK _ _ ?_
  clear hK K
  refine awp_block ?_
  refine awp_loop (fun E s1 => ∃ i : Nat, i ≤ ps.length ∧ E 8 = .v (.int .i64 i) ∧ E 7 = .v (.int .i64 ps.length) ∧ E 6 = .sl 5 ps.length Z .any ∧ E 1 = .rop [.sl 1 g.length (g.map byteV) .any, .v (.int .i64 e), .v (.int .i64 sd), .sl 5 ps.length Z .any, .v (.bool hp), .v (.int .u64 pk), .sl 1 pp.length (pp.map byteV) .any, .sl 2 pst.length X .any, .sl 1 cf.length (cf.map byteV) .any, .sl 1 mb.length (mb.map byteV) .any] ∧ (∀ p ∈ ps.take i, p.right) ∧ s1 = s)
    (fun E _ => match E 8 with | .v (.int _ i) => ps.length - i.toNat | _ => 0) ?_ ?_
  · exact ⟨0, Nat.zero_le _, by simp only [upd, ↓reduceIte]; rfl, by simp only [upd, nEQ, ↓reduceIte], by simp only [upd, nEQ, ↓reduceIte], by simp only [upd, nEQ, ↓reduceIte], by simp, rfl⟩
  · rintro E1 s1 ⟨i, hi, g8, g7, g6, g1, hall, rfl⟩ -
    by_cases hi' : i < ps.length
    · refine awp_reg_seq ?_
      intro K hK
      simp only [↓DN, UP, DF, qSh, qCv, qIA, qIx, qSl, qBu, qCe, qOn, reduceCtorEq, ↓reduceIte, nLT, nLE, nEQ, nAdd, nMul, nPow, nSub, zLT, zLE, zNat, RMsg420, g8, g7, eye_lt_nat, decide_eq_true hi']
      refine hK _ _ ?_
      clear hK K
      refine awp_seq_k ?_
      intro K3 hK3
      refine awp_cond_k ?_
      intro X Y hX hY
      simp only [↓DN, UP, DF, qSh, qCv, qIA, qIx, qSl, qBu, qCe, qOn, reduceCtorEq, ↓reduceIte, nLT, nLE, nEQ, nAdd, nMul, nPow, nSub, zLT, zLE, zNat, RMsg420, DB]
      refine hX ?_
      clear hX hY X Y
      refine awp_skip ?_
      refine hK3 _ _ ?_
      clear hK3 K3
      refine awp_seq_k ?_
      intro K3 hK3
      refine awp_block ?_
      have hat := hrow i hi'
      have hge : (0 : Int) ≤ (i : Int) := by omega
      obtain ⟨y, hy⟩ : ∃ y, y = ps[i] := ⟨_, rfl⟩
      rw [← hy] at hat
      have hym : y ∈ ps := by rw [hy]; exact List.getElem_mem hi'
      have htk : y.right → ∀ x ∈ ps.take (i + 1), x.right := fun h => take_all hi' hall (by rw [← hy]; exact h)
      have hbad := hbad0 y hym
      have hst := fun s => proper_calls (Γ := Γ) y s
      clear hy
      obtain ⟨pk1, pk2, pk3, pk4, pk5⟩ := y
      unfold PropV.cells at hat hst
      refine awp_reg_frz 4 (by simp [dsts]) ?_
      intro K2 hK2
      simp only [↓AXq_nil, ↓AXq_cons, pval, DX, Nat.reduceBEq, ↓DN, UP, DF, qSh, qCv, qIA, qIx, qSl, qBu, qCe, qOn, reduceCtorEq, ↓reduceIte, nLT, nLE, nEQ, nAdd, nMul, nPow, nSub, zLT, zLE, zNat, RMsg420, g8, g6, eye_lt_nat, hi', hge, hat]
      intro o ho
      refine hK2 _ _ o _ (by simp only [upd, nEQ, ↓reduceIte]) ho ?_
      clear hK2 K2 ho
      refine awp_reg_seq ?_
      intro K hK
      simp only [↓DN, UP, DF, qSh, qCv, qIA, qIx, qSl, qBu, qCe, qOn, reduceCtorEq, ↓reduceIte, nLT, nLE, nEQ, nAdd, nMul, nPow, nSub, zLT, zLE, zNat, RMsg420]
      refine acallk (hst _) ?_
      rintro r s2 ⟨rfl, rfl⟩
      by_cases h1 : PropV.right ⟨pk1, pk2, pk3, pk4, pk5⟩
      · simp only [↓AXq_nil, ↓AXq_cons, pval, DX, Nat.reduceBEq, ↓DN, UP, DF, qSh, qCv, qIA, qIx, qSl, qBu, qCe, qOn, reduceCtorEq, ↓reduceIte, nLT, nLE, nEQ, nAdd, nMul, nPow, nSub, zLT, zLE, zNat, RMsg420, decide_eq_true h1]
        refine hK _ _ ?_
        clear hK K
        refine awp_cond_k ?_
        intro X Y hX hY
        simp only [↓DN, UP, DF, qSh, qCv, qIA, qIx, qSl, qBu, qCe, qOn, reduceCtorEq, ↓reduceIte, nLT, nLE, nEQ, nAdd, nMul, nPow, nSub, zLT, zLE, zNat, RMsg420, DB]
        refine hY ?_
        clear hX hY X Y
        refine awp_skip ?_
        simp only [blockQ, thenQ, if_true, if_false]
        refine hK3 _ _ ?_
        clear hK3 K3
        refine awp_reg_end ?_
        intro K hK
        simp only [↓DN, UP, DF, qSh, qCv, qIA, qIx, qSl, qBu, qCe, qOn, reduceCtorEq, ↓reduceIte, nLT, nLE, nEQ, nAdd, nMul, nPow, nSub, zLT, zLE, zNat, RMsg420, g8, eye_succM i (by omega)]
        refine hK _ _ ?_
        clear hK K
        refine ⟨⟨i + 1, by omega, by simp only [upd, ↓reduceIte], by simp only [upd, g7, nEQ, ↓reduceIte], by simp only [upd, g6, nEQ, ↓reduceIte], by simp only [upd, g1, nEQ, ↓reduceIte], htk h1, rfl⟩, ?_⟩
        simp only [g8, upd, ↓reduceIte]
        omega
      · simp only [↓AXq_nil, ↓AXq_cons, pval, DX, Nat.reduceBEq, ↓DN, UP, DF, qSh, qCv, qIA, qIx, qSl, qBu, qCe, qOn, reduceCtorEq, ↓reduceIte, nLT, nLE, nEQ, nAdd, nMul, nPow, nSub, zLT, zLE, zNat, RMsg420, decide_eq_false h1]
        refine hK _ _ ?_
        clear hK K
        refine awp_cond_k ?_
        intro X Y hX hY
        simp only [↓DN, UP, DF, qSh, qCv, qIA, qIx, qSl, qBu, qCe, qOn, reduceCtorEq, ↓reduceIte, nLT, nLE, nEQ, nAdd, nMul, nPow, nSub, zLT, zLE, zNat, RMsg420, DB]
        refine hX ?_
        clear hX hY X Y
        refine awp_reg_seq ?_
        intro K hK
        simp only [↓DN, UP, DF, qSh, qCv, qIA, qIx, qSl, qBu, qCe, qOn, reduceCtorEq, ↓reduceIte, nLT, nLE, nEQ, nAdd, nMul, nPow, nSub, zLT, zLE, zNat, RMsg420]
        refine hK _ _ ?_
        clear hK K
        refine awp_ret ?_
        try simp only [thenQ, blockQ]
        simp only [retQ, AEnds, aresL, ares, List.toList_toArray, ↓upd_same]; try simp only [↓DN, UP, DF, qSh, qCv, qIA, qIx, qSl, qBu, qCe, qOn, reduceCtorEq, ↓reduceIte, nLT, nLE, nEQ, nAdd, nMul, nPow, nSub, zLT, zLE, zNat, RMsg420, DT]
        exact ⟨_, _, AV.weak.refl _, AS.le.refl _, by rw [hbad h1], rfl⟩
    · have hR := hR (take_full hi' hall)
      clear hbad0
      refine awp_reg_seq ?_
      intro K hK
      simp only [↓DN, UP, DF, qSh, qCv, qIA, qIx, qSl, qBu, qCe, qOn, reduceCtorEq, ↓reduceIte, nLT, nLE, nEQ, nAdd, nMul, nPow, nSub, zLT, zLE, zNat, RMsg420, g8, g7, eye_lt_nat, decide_eq_false hi']
      refine hK _ _ ?_
      clear hK K
      refine awp_seq_k ?_
      intro K3 hK3
      refine awp_cond_k ?_
      intro X Y hX hY
      simp only [↓DN, UP, DF, qSh, qCv, qIA, qIx, qSl, qBu, qCe, qOn, reduceCtorEq, ↓reduceIte, nLT, nLE, nEQ, nAdd, nMul, nPow, nSub, zLT, zLE, zNat, RMsg420, DB]
      refine hY ?_
      clear hX hY X Y
      refine awp_exit ?_
      simp only [thenQ, blockQ, if_true]
      refine hK _ _ ?_
      clear hK K hK3 K3
      refine awp_reg_seq ?_
      intro K hK
      simp only [↓DN, UP, DF, qSh, qCv, qIA, qIx, qSl, qBu, qCe, qOn, reduceCtorEq, ↓reduceIte, nLT, nLE, nEQ, nAdd, nMul, nPow, nSub, zLT, zLE, zNat, RMsg420, g1]
      refine acallk (named_calls g _) ?_
      rintro r s2 ⟨rfl, rfl⟩
      by_cases h1 : 1 ≤ g.length ∧ g.length ≤ 16
      · rcases ff2 (decide (0 ≤ e)) (decide (e ≤ 1048576)) with hd | hd | hd
        case inr.inr =>
          simp only [↓AXq_nil, ↓AXq_cons, pval, DX, Nat.reduceBEq, ↓DN, UP, DF, qSh, qCv, qIA, qIx, qSl, qBu, qCe, qOn, reduceCtorEq, ↓reduceIte, nLT, nLE, nEQ, nAdd, nMul, nPow, nSub, zLT, zLE, zNat, RMsg420, g1, decide_eq_true h1, hd]
          refine acallk (leaf_calls sd _) ?_
          rintro r s3 ⟨rfl, rfl⟩
          simp only [decide_eq_true_eq] at hd
          by_cases h2 : 0 ≤ sd ∧ sd < 32
          · by_cases h3 : ps.length ≤ 16
            · simp only [↓AXq_nil, ↓AXq_cons, pval, DX, Nat.reduceBEq, ↓DN, UP, DF, qSh, qCv, qIA, qIx, qSl, qBu, qCe, qOn, reduceCtorEq, ↓reduceIte, nLT, nLE, nEQ, nAdd, nMul, nPow, nSub, zLT, zLE, zNat, RMsg420, g1, decide_eq_true h2, decide_eq_true (show (ps.length : Int) ≤ 16 by omega)]
              refine acallk (hpa _) ?_
              rintro r s4 ⟨rfl, rfl⟩
              cases b with
              | true =>
                rcases ff2 ((cf.length : Int) == 32) ((mb.length : Int) == 32) with hd2 | hd2 | hd2
                all_goals
                  simp only [↓AXq_nil, ↓AXq_cons, pval, DX, Nat.reduceBEq, ↓DN, UP, DF, qSh, qCv, qIA, qIx, qSl, qBu, qCe, qOn, reduceCtorEq, ↓reduceIte, nLT, nLE, nEQ, nAdd, nMul, nPow, nSub, zLT, zLE, zNat, RMsg420, g1, hd2]
                  refine hK _ _ ?_
                  clear hK K
                  refine awp_ret ?_
                  simp only [retQ, AEnds, aresL, ares, List.toList_toArray, ↓upd_same]; try simp only [↓DN, UP, DF, qSh, qCv, qIA, qIx, qSl, qBu, qCe, qOn, reduceCtorEq, ↓reduceIte, nLT, nLE, nEQ, nAdd, nMul, nPow, nSub, zLT, zLE, zNat, RMsg420, DT]
                  refine ⟨_, _, AV.weak.refl _, AS.le.refl _, ?_, rfl⟩
                  simp only [beq_iff_eq, beq_eq_false_iff_ne, ne_eq] at hd2
                  rw [hR]
                  congr 2
                  symm
                  first
                    | exact decide_eq_true ⟨h1, hd, h2, h3, rfl, by omega, by omega⟩
                    | exact decide_eq_false fun h => by omega
              | false =>
                simp only [↓AXq_nil, ↓AXq_cons, pval, DX, Nat.reduceBEq, ↓DN, UP, DF, qSh, qCv, qIA, qIx, qSl, qBu, qCe, qOn, reduceCtorEq, ↓reduceIte, nLT, nLE, nEQ, nAdd, nMul, nPow, nSub, zLT, zLE, zNat, RMsg420, g1]
                refine hK _ _ ?_
                clear hK K
                refine awp_ret ?_
                simp only [retQ, AEnds, aresL, ares, List.toList_toArray, ↓upd_same]; try simp only [↓DN, UP, DF, qSh, qCv, qIA, qIx, qSl, qBu, qCe, qOn, reduceCtorEq, ↓reduceIte, nLT, nLE, nEQ, nAdd, nMul, nPow, nSub, zLT, zLE, zNat, RMsg420, DT]
                exact ⟨_, _, AV.weak.refl _, AS.le.refl _, by rw [hR]; simp, rfl⟩
            · simp only [↓AXq_nil, ↓AXq_cons, pval, DX, Nat.reduceBEq, ↓DN, UP, DF, qSh, qCv, qIA, qIx, qSl, qBu, qCe, qOn, reduceCtorEq, ↓reduceIte, nLT, nLE, nEQ, nAdd, nMul, nPow, nSub, zLT, zLE, zNat, RMsg420, g1, decide_eq_true h2, decide_eq_false (show ¬ (ps.length : Int) ≤ 16 by omega)]
              refine hK _ _ ?_
              clear hK K
              refine awp_ret ?_
              simp only [retQ, AEnds, aresL, ares, List.toList_toArray, ↓upd_same]; try simp only [↓DN, UP, DF, qSh, qCv, qIA, qIx, qSl, qBu, qCe, qOn, reduceCtorEq, ↓reduceIte, nLT, nLE, nEQ, nAdd, nMul, nPow, nSub, zLT, zLE, zNat, RMsg420, DT]
              exact ⟨_, _, AV.weak.refl _, AS.le.refl _, by rw [hR, decide_eq_false fun h => h3 h.2.2.2.1], rfl⟩
          · simp only [↓AXq_nil, ↓AXq_cons, pval, DX, Nat.reduceBEq, ↓DN, UP, DF, qSh, qCv, qIA, qIx, qSl, qBu, qCe, qOn, reduceCtorEq, ↓reduceIte, nLT, nLE, nEQ, nAdd, nMul, nPow, nSub, zLT, zLE, zNat, RMsg420, g1, decide_eq_false h2]
            refine hK _ _ ?_
            clear hK K
            refine awp_ret ?_
            simp only [retQ, AEnds, aresL, ares, List.toList_toArray, ↓upd_same]; try simp only [↓DN, UP, DF, qSh, qCv, qIA, qIx, qSl, qBu, qCe, qOn, reduceCtorEq, ↓reduceIte, nLT, nLE, nEQ, nAdd, nMul, nPow, nSub, zLT, zLE, zNat, RMsg420, DT]
            exact ⟨_, _, AV.weak.refl _, AS.le.refl _, by rw [hR, decide_eq_false fun h => h2 h.2.2.1], rfl⟩
        all_goals
          simp only [↓AXq_nil, ↓AXq_cons, pval, DX, Nat.reduceBEq, ↓DN, UP, DF, qSh, qCv, qIA, qIx, qSl, qBu, qCe, qOn, reduceCtorEq, ↓reduceIte, nLT, nLE, nEQ, nAdd, nMul, nPow, nSub, zLT, zLE, zNat, RMsg420, g1, decide_eq_true h1, hd]
          refine hK _ _ ?_
          clear hK K
          refine awp_ret ?_
          simp only [retQ, AEnds, aresL, ares, List.toList_toArray, ↓upd_same]; try simp only [↓DN, UP, DF, qSh, qCv, qIA, qIx, qSl, qBu, qCe, qOn, reduceCtorEq, ↓reduceIte, nLT, nLE, nEQ, nAdd, nMul, nPow, nSub, zLT, zLE, zNat, RMsg420, DT]
          refine ⟨_, _, AV.weak.refl _, AS.le.refl _, ?_, rfl⟩
          simp only [decide_eq_true_eq, decide_eq_false_iff_not] at hd
          rw [hR, decide_eq_false fun h => by have := h.2.1; omega]
      · simp only [↓AXq_nil, ↓AXq_cons, pval, DX, Nat.reduceBEq, ↓DN, UP, DF, qSh, qCv, qIA, qIx, qSl, qBu, qCe, qOn, reduceCtorEq, ↓reduceIte, nLT, nLE, nEQ, nAdd, nMul, nPow, nSub, zLT, zLE, zNat, RMsg420, g1, decide_eq_false h1]
        refine hK _ _ ?_
        clear hK K
        refine awp_ret ?_
        simp only [retQ, AEnds, aresL, ares, List.toList_toArray, ↓upd_same]; try simp only [↓DN, UP, DF, qSh, qCv, qIA, qIx, qSl, qBu, qCe, qOn, reduceCtorEq, ↓reduceIte, nLT, nLE, nEQ, nAdd, nMul, nPow, nSub, zLT, zLE, zNat, RMsg420, DT]
        exact ⟨_, _, AV.weak.refl _, AS.le.refl _, by rw [hR, decide_eq_false fun h => h1 h.1], rfl⟩

theorem fits_of_wf {c : CommitV} (h : c.wf) : CommitV.fits c := by
  obtain ⟨h1, ⟨h2, h3, h4⟩, h5⟩ := h
  unfold maxLen at h4 h5
  refine ⟨by omega, by omega, fun x hx => ?_⟩
  have := (h3 x hx).2.2
  unfold maxLen at this
  omega

end Go.Proofs.Ytcnilmidfhpckaa


set_option autoImplicit false
namespace Go.Proofs.Ytcnilmidfhpckaa
open Go Go.AM Go.Proofs

theorem RMsg5103 : type_of% (And.intro (And.intro (And.intro (And.intro (And.intro (And.intro @Try.underlying3 (And.intro T.c3 T.g3)) (And.intro (And.intro T.b3 T.z3) (And.intro @Try.underlying4 T.c4))) (And.intro (And.intro T.g4 (And.intro T.b4 T.z4)) (And.intro (And.intro @Try.underlying5 T.c5) (And.intro T.g5 T.b5)))) (And.intro (And.intro (And.intro T.z5 (And.intro @Try.underlying28 T.c28)) (And.intro (And.intro T.g28 T.b28) (And.intro T.z28 T.s28))) (And.intro (And.intro @Try.underlying32 (And.intro T.c32 T.g32)) (And.intro (And.intro T.b32 T.z32) (And.intro @Try.underlying42 T.c42))))) (And.intro (And.intro (And.intro (And.intro T.g42 (And.intro T.b42 T.z42)) (And.intro (And.intro @Try.underlying85 T.c85) (And.intro T.g85 T.b85))) (And.intro (And.intro T.z85 (And.intro T.h85 @Try.underlying98)) (And.intro (And.intro T.c98 T.g98) (And.intro T.b98 T.z98)))) (And.intro (And.intro (And.intro T.p98 (And.intro @Try.underlying145 T.c145)) (And.intro (And.intro T.g145 T.b145) (And.intro T.z145 T.h145))) (And.intro (And.intro T.f85_0 (And.intro T.f85_1 T.k110)) (And.intro (And.intro T.k99 T.k57) (And.intro T.k59 T.k62)))))) Try.ntmps103) :=
  (And.intro (And.intro (And.intro (And.intro (And.intro (And.intro @Try.underlying3 (And.intro T.c3 T.g3)) (And.intro (And.intro T.b3 T.z3) (And.intro @Try.underlying4 T.c4))) (And.intro (And.intro T.g4 (And.intro T.b4 T.z4)) (And.intro (And.intro @Try.underlying5 T.c5) (And.intro T.g5 T.b5)))) (And.intro (And.intro (And.intro T.z5 (And.intro @Try.underlying28 T.c28)) (And.intro (And.intro T.g28 T.b28) (And.intro T.z28 T.s28))) (And.intro (And.intro @Try.underlying32 (And.intro T.c32 T.g32)) (And.intro (And.intro T.b32 T.z32) (And.intro @Try.underlying42 T.c42))))) (And.intro (And.intro (And.intro (And.intro T.g42 (And.intro T.b42 T.z42)) (And.intro (And.intro @Try.underlying85 T.c85) (And.intro T.g85 T.b85))) (And.intro (And.intro T.z85 (And.intro T.h85 @Try.underlying98)) (And.intro (And.intro T.c98 T.g98) (And.intro T.b98 T.z98)))) (And.intro (And.intro (And.intro T.p98 (And.intro @Try.underlying145 T.c145)) (And.intro (And.intro T.g145 T.b145) (And.intro T.z145 T.h145))) (And.intro (And.intro T.f85_0 (And.intro T.f85_1 T.k110)) (And.intro (And.intro T.k99 T.k57) (And.intro T.k59 T.k62)))))) Try.ntmps103)
theorem RMsg5106 : type_of% (And.intro (And.intro (And.intro (And.intro (And.intro (And.intro @Try.underlying3 T.c3) (And.intro T.g3 (And.intro T.b3 T.z3))) (And.intro (And.intro @Try.underlying4 (And.intro T.c4 T.g4)) (And.intro T.b4 (And.intro T.z4 @Try.underlying9)))) (And.intro (And.intro (And.intro T.c9 T.g9) (And.intro T.b9 (And.intro T.z9 @Try.underlying42))) (And.intro (And.intro T.c42 (And.intro T.g42 T.b42)) (And.intro T.z42 (And.intro @Try.underlying111 T.c111))))) (And.intro (And.intro (And.intro (And.intro T.g111 T.b111) (And.intro T.z111 (And.intro T.p111 @Try.underlying113))) (And.intro (And.intro T.c113 (And.intro T.g113 T.b113)) (And.intro T.z113 (And.intro T.h113 @Try.underlying150)))) (And.intro (And.intro (And.intro T.c150 T.g150) (And.intro T.b150 (And.intro T.z150 T.h150))) (And.intro (And.intro T.f113_1 (And.intro T.f150_0 T.f150_1)) (And.intro T.k54 (And.intro T.k69 T.k71)))))) Try.ntmps106) :=
  (And.intro (And.intro (And.intro (And.intro (And.intro (And.intro @Try.underlying3 T.c3) (And.intro T.g3 (And.intro T.b3 T.z3))) (And.intro (And.intro @Try.underlying4 (And.intro T.c4 T.g4)) (And.intro T.b4 (And.intro T.z4 @Try.underlying9)))) (And.intro (And.intro (And.intro T.c9 T.g9) (And.intro T.b9 (And.intro T.z9 @Try.underlying42))) (And.intro (And.intro T.c42 (And.intro T.g42 T.b42)) (And.intro T.z42 (And.intro @Try.underlying111 T.c111))))) (And.intro (And.intro (And.intro (And.intro T.g111 T.b111) (And.intro T.z111 (And.intro T.p111 @Try.underlying113))) (And.intro (And.intro T.c113 (And.intro T.g113 T.b113)) (And.intro T.z113 (And.intro T.h113 @Try.underlying150)))) (And.intro (And.intro (And.intro T.c150 T.g150) (And.intro T.b150 (And.intro T.z150 T.h150))) (And.intro (And.intro T.f113_1 (And.intro T.f150_0 T.f150_1)) (And.intro T.k54 (And.intro T.k69 T.k71)))))) Try.ntmps106)
theorem RMsg598 : type_of% (And.intro (And.intro (And.intro (And.intro (And.intro (And.intro @Try.underlying4 T.c4) (And.intro T.g4 (And.intro T.b4 T.z4))) (And.intro (And.intro @Try.underlying5 T.c5) (And.intro T.g5 (And.intro T.b5 T.z5)))) (And.intro (And.intro (And.intro @Try.underlying28 T.c28) (And.intro T.g28 (And.intro T.b28 T.z28))) (And.intro (And.intro T.s28 (And.intro @Try.underlying42 T.c42)) (And.intro T.g42 (And.intro T.b42 T.z42))))) (And.intro (And.intro (And.intro (And.intro @Try.underlying85 T.c85) (And.intro T.g85 (And.intro T.b85 T.z85))) (And.intro (And.intro T.h85 (And.intro @Try.underlying86 T.c86)) (And.intro T.g86 (And.intro T.b86 T.z86)))) (And.intro (And.intro (And.intro T.p86 @Try.underlying137) (And.intro T.c137 (And.intro T.g137 T.b137))) (And.intro (And.intro T.z137 (And.intro T.h137 T.f85_0)) (And.intro T.f85_1 (And.intro T.k111 T.k44)))))) Try.ntmps98) :=
  (And.intro (And.intro (And.intro (And.intro (And.intro (And.intro @Try.underlying4 T.c4) (And.intro T.g4 (And.intro T.b4 T.z4))) (And.intro (And.intro @Try.underlying5 T.c5) (And.intro T.g5 (And.intro T.b5 T.z5)))) (And.intro (And.intro (And.intro @Try.underlying28 T.c28) (And.intro T.g28 (And.intro T.b28 T.z28))) (And.intro (And.intro T.s28 (And.intro @Try.underlying42 T.c42)) (And.intro T.g42 (And.intro T.b42 T.z42))))) (And.intro (And.intro (And.intro (And.intro @Try.underlying85 T.c85) (And.intro T.g85 (And.intro T.b85 T.z85))) (And.intro (And.intro T.h85 (And.intro @Try.underlying86 T.c86)) (And.intro T.g86 (And.intro T.b86 T.z86)))) (And.intro (And.intro (And.intro T.p86 @Try.underlying137) (And.intro T.c137 (And.intro T.g137 T.b137))) (And.intro (And.intro T.z137 (And.intro T.h137 T.f85_0)) (And.intro T.f85_1 (And.intro T.k111 T.k44)))))) Try.ntmps98)
variable {Γ : Nat → List AV}

abbrev pubOk (n : Nat) : Prop := Pub n
theorem pub_test {n : Nat} (h : pubOk n) : (decide (2 ≤ (n : Int)) && decide ((n : Int) ≤ 2305843009213693949)) = true := by rw [pub_bool]; exact decide_eq_true h
theorem pub_testF {n : Nat} (h : ¬ pubOk n) : (decide (2 ≤ (n : Int)) && decide ((n : Int) ≤ 2305843009213693949)) = false := by rw [pub_bool]; exact decide_eq_false h

/-- What is read: the sender's number and what is sealed. -/
def hFail (a : Nat) (st : EyeSt) : EyeSt := if pubOk a then st else (st.1, if st.2 = 0 then 30 else st.2)
def hRaw (most : Int) (st : EyeSt) : (Nat × List UInt8) × EyeSt :=
  let a := eyeNum 8 st
  let b := eyeText 2 most (hFail a.1 a.2)
  ((a.1, b.1), b.2)
def hRead (most : Int) (st : EyeSt) : (Nat × List UInt8) × EyeSt :=
  let q := hRaw most st
  (if q.2.2 = 0 then q.1 else (0, []), q.2)
theorem hFail_len (a : Nat) (st : EyeSt) : (hFail a st).1 = st.1 := by unfold hFail; split <;> rfl
theorem some_neH {s : AS} {p o : Nat} {cs : List AV} (h : s.objs p = some cs) (k : s.objs o = none) : p ≠ o := by
  rintro rfl
  rw [h] at k
  cases k
theorem ne_of_int {x y : Int} (h : x ≠ y) : (x == y) = false := by simpa using h

set_option maxRecDepth 100000 in
set_option maxHeartbeats 4000000 in
theorem hRead_calls (s : AS) (p : Nat) (st : EyeSt) (most : Int) (hl : st.1.length ≤ 2 ^ 44) (h : s.objs p = some (eyeC st)) :
    ACalls Try.prog Γ 103 [.ptr p 0, .v (.int .i64 most)] s (fun r s' => r = .agg [.v (.int .u64 (hRead most st).1.1), bytesV (hRead most st).1.2 .any] ∧ s' = s.set p (eyeC (hRead most st).2)) := by
  refine acalls_body Try.func103 rfl Try.ntmps103 Try.results103 (by simp) ?_
  obtain ⟨q1, e1⟩ : ∃ q, q = eyeNum 8 st := ⟨_, rfl⟩
  obtain ⟨q2, e2⟩ : ∃ q, q = hFail q1.1 q1.2 := ⟨_, rfl⟩
  obtain ⟨q3, e3⟩ : ∃ q, q = eyeText 2 most q2 := ⟨_, rfl⟩
  have l1 : q1.2.1.length ≤ 2 ^ 44 := by rw [e1]; exact Nat.le_trans (eyeNum_len _ _) hl
  have l2 : q2.1.length ≤ 2 ^ 44 := by rw [e2, hFail_len]; exact l1
  have hrr : hRead most st = (if q3.2.2 = 0 then (q1.1, q3.1) else (0, []), q3.2) := by subst e3 e2 e1; rfl
  refine awp_reg_seq ?_
  intro K hK
  simp only [↓DN, UP, DF, qSh, qCv, qIA, qIx, qSl, qBu, qCe, qOn, reduceCtorEq, ↓reduceIte, nLT, nLE, nEQ, nAdd, nMul, nPow, nSub, zLT, zLE, zNat, RMsg5103]
  intro o2 ho2
  have hp2 := some_neH h ho2
  refine hK _ _ ?_
  clear hK K
  refine awp_seq_k ?_
  intro K1 hK1
  obtain ⟨z, hz⟩ : ∃ z : List AV, z = [.v (.int .u64 0), .v (.slice none 0 0)] := ⟨_, rfl⟩
  have h1 : ∀ (E : Env) (s1 : AS) (o3 : Nat), E 0 = .ptr p 0 → E 1 = .v (.int .i64 most) → E 4 = .ptr o2 0 → E 5 = .ptr o3 0 → RdS s s1 p o2 o3 (eyeC q1.2) z [.v (.int .u64 q1.1), .v (.slice none 0 0)] → K1 E s1 := by
    intro E s1 o3 g0 gm g2 g3 J
    refine hK1 _ _ ?_
    clear hK1 K1
    refine awp_seq_k ?_
    intro K2 hK2
    have h2 : ∀ (E : Env) (s1 : AS), E 0 = .ptr p 0 → E 1 = .v (.int .i64 most) → E 4 = .ptr o2 0 → E 5 = .ptr o3 0 → RdS s s1 p o2 o3 (eyeC q2) z [.v (.int .u64 q1.1), .v (.slice none 0 0)] → K2 E s1 := by
      clear J g0 gm g2 g3 E s1
      intro E s1 g0 gm g2 g3 J
      refine hK2 _ _ ?_
      clear hK2 K2
      have jv := J.var
      have jp := J.p3
      have jp2 := J.p3.symm
      refine awp_reg_seq ?_
      intro K hK
      simp only [↓DN, UP, DF, qSh, qCv, qIA, qIx, qSl, qBu, qCe, qOn, reduceCtorEq, ↓reduceIte, nLT, nLE, nEQ, nAdd, nMul, nPow, nSub, zLT, zLE, zNat, RMsg5103, g0, gm]
      refine acallk (eyeLong_set _ p _ most (by omega) J.eye) ?_
      rintro r s2 ⟨rfl, rfl⟩
      rw [← e3]
      have J3 := (J.setEye (eyeC q3.2)).setVar [.v (.int .u64 q1.1), .sl 1 q3.1.length (q3.1.map byteV) .any]
      simp only [↓AXq_nil, ↓AXq_cons, pval, DX, Nat.reduceBEq, ↓DN, UP, DF, qSh, qCv, qIA, qIx, qSl, qBu, qCe, qOn, reduceCtorEq, ↓reduceIte, nLT, nLE, nEQ, nAdd, nMul, nPow, nSub, zLT, zLE, zNat, RMsg5103, g3, jv, jp, jp2]
      refine hK _ _ ?_
      clear hK K
      clear J jv
      generalize (s1.set p (eyeC q3.2)).set o3 [.v (.int .u64 q1.1), .sl 1 q3.1.length (q3.1.map byteV) .any] = s2 at *
      have jv := J3.var
      have jr := J3.res
      have jd := J3.d
      have jd2 := J3.d.symm
      rw [hz] at jr
      refine awp_seq_k ?_
      intro K3 hK3
      have hend : ∀ (v : AV) (cs : List AV) (s4 : AS) (E : Env), True := fun _ _ _ _ => trivial
      clear hend
      refine awp_reg_seq ?_
      intro K hK
      simp only [↓DN, UP, DF, qSh, qCv, qIA, qIx, qSl, qBu, qCe, qOn, reduceCtorEq, ↓reduceIte, nLT, nLE, nEQ, nAdd, nMul, nPow, nSub, zLT, zLE, zNat, RMsg5103, g0]
      refine acallk (eyeErr_at _ p _ J3.eye) ?_
      rintro r s4 ⟨rfl, rfl⟩
      by_cases he : q3.2.2 = 0
      · rw [he]
        simp only [↓AXq_nil, ↓AXq_cons, pval, DX, Nat.reduceBEq, ↓DN, UP, DF, qSh, qCv, qIA, qIx, qSl, qBu, qCe, qOn, reduceCtorEq, ↓reduceIte, nLT, nLE, nEQ, nAdd, nMul, nPow, nSub, zLT, zLE, zNat, RMsg5103, i64_ne_false 0 rfl]
        refine hK _ _ ?_
        clear hK K
        refine awp_cond_k ?_
        intro X Y hX hY
        simp only [↓DN, UP, DF, qSh, qCv, qIA, qIx, qSl, qBu, qCe, qOn, reduceCtorEq, ↓reduceIte, nLT, nLE, nEQ, nAdd, nMul, nPow, nSub, zLT, zLE, zNat, RMsg5103, DB]
        refine hY ?_
        clear hX hY X Y
        refine awp_skip ?_
        refine hK3 _ _ ?_
        clear hK3 K3
        refine awp_reg_seq ?_
        intro K hK
        simp only [↓DN, UP, DF, qSh, qCv, qIA, qIx, qSl, qBu, qCe, qOn, reduceCtorEq, ↓reduceIte, nLT, nLE, nEQ, nAdd, nMul, nPow, nSub, zLT, zLE, zNat, RMsg5103, g3, g2, jv, jr, jd, jd2]
        refine hK _ _ ?_
        clear hK K
        refine awp_ret ?_
        refine aends_cell (o := o2) (off := 0) (by simp only [upd, g2, nEQ, ↓reduceIte]) (AS.set_objs_same _ _ _) (by rw [T.c85]; decide) (by simp only [↓DN, UP, DF, qSh, qCv, qIA, qIx, qSl, qBu, qCe, qOn, reduceCtorEq, ↓reduceIte, nLT, nLE, nEQ, nAdd, nMul, nPow, nSub, zLT, zLE, zNat, RMsg5103]; rfl) ?_
        rw [hrr, if_pos he]
        exact ⟨_, _, AV.weak.refl _, (J3.setRes _).out, rfl, rfl⟩
      · simp only [↓AXq_nil, ↓AXq_cons, pval, DX, Nat.reduceBEq, ↓DN, UP, DF, qSh, qCv, qIA, qIx, qSl, qBu, qCe, qOn, reduceCtorEq, ↓reduceIte, nLT, nLE, nEQ, nAdd, nMul, nPow, nSub, zLT, zLE, zNat, RMsg5103, i64_ne_true _ he]
        refine hK _ _ ?_
        clear hK K
        refine awp_cond_k ?_
        intro X Y hX hY
        simp only [↓DN, UP, DF, qSh, qCv, qIA, qIx, qSl, qBu, qCe, qOn, reduceCtorEq, ↓reduceIte, nLT, nLE, nEQ, nAdd, nMul, nPow, nSub, zLT, zLE, zNat, RMsg5103, DB]
        refine hX ?_
        clear hX hY X Y
        refine awp_reg_seq ?_
        intro K hK
        simp only [↓DN, UP, DF, qSh, qCv, qIA, qIx, qSl, qBu, qCe, qOn, reduceCtorEq, ↓reduceIte, nLT, nLE, nEQ, nAdd, nMul, nPow, nSub, zLT, zLE, zNat, RMsg5103, g3, g2, jv, jr, jd, jd2]
        refine hK _ _ ?_
        clear hK K
        refine awp_ret ?_
        try simp only [thenQ, blockQ]
        refine aends_cell (o := o2) (off := 0) (by simp only [upd, g2, nEQ, ↓reduceIte]) (AS.set_objs_same _ _ _) (by rw [T.c85]; decide) (by simp only [↓DN, UP, DF, qSh, qCv, qIA, qIx, qSl, qBu, qCe, qOn, reduceCtorEq, ↓reduceIte, nLT, nLE, nEQ, nAdd, nMul, nPow, nSub, zLT, zLE, zNat, RMsg5103]; rfl) ?_
        rw [hrr, if_neg he]
        exact ⟨_, _, AV.weak_agg (AVs.weak.cons (AV.weak.refl _) (AVs.weak.cons AV.weak_nil AVs.weak.nil)), (J3.setRes _).out, rfl, rfl⟩
    clear hK2
    have jv := J.var
    have jp := J.p3
    have jp2 := J.p3.symm
    refine awp_reg_seq ?_
    intro K hK
    simp only [↓DN, UP, DF, qSh, qCv, qIA, qIx, qSl, qBu, qCe, qOn, reduceCtorEq, ↓reduceIte, nLT, nLE, nEQ, nAdd, nMul, nPow, nSub, zLT, zLE, zNat, RMsg5103, g3, jv]
    refine acallk (powerRight_calls q1.1 _) ?_
    rintro r s2 ⟨rfl, rfl⟩
    by_cases hr : pubOk q1.1
    · rw [pub_test hr]
      simp only [↓AXq_nil, ↓AXq_cons, pval, DX, Nat.reduceBEq, ↓DN, UP, DF, qSh, qCv, qIA, qIx, qSl, qBu, qCe, qOn, reduceCtorEq, ↓reduceIte, nLT, nLE, nEQ, nAdd, nMul, nPow, nSub, zLT, zLE, zNat, RMsg5103]
      refine hK _ _ ?_
      clear hK K
      refine awp_cond_k ?_
      intro X Y hX hY
      simp only [↓DN, UP, DF, qSh, qCv, qIA, qIx, qSl, qBu, qCe, qOn, reduceCtorEq, ↓reduceIte, nLT, nLE, nEQ, nAdd, nMul, nPow, nSub, zLT, zLE, zNat, RMsg5103, DB]
      refine hY ?_
      clear hX hY X Y
      refine awp_skip ?_
      have hq : q2 = q1.2 := by rw [e2]; exact if_pos hr
      rw [hq] at h2
      exact h2 _ _ (by simp only [upd, g0, nEQ, ↓reduceIte]) (by simp only [upd, gm, nEQ, ↓reduceIte]) (by simp only [upd, g2, nEQ, ↓reduceIte]) (by simp only [upd, g3, nEQ, ↓reduceIte]) J
    · rw [pub_testF hr]
      simp only [↓AXq_nil, ↓AXq_cons, pval, DX, Nat.reduceBEq, ↓DN, UP, DF, qSh, qCv, qIA, qIx, qSl, qBu, qCe, qOn, reduceCtorEq, ↓reduceIte, nLT, nLE, nEQ, nAdd, nMul, nPow, nSub, zLT, zLE, zNat, RMsg5103]
      refine hK _ _ ?_
      clear hK K
      refine awp_cond_k ?_
      intro X Y hX hY
      simp only [↓DN, UP, DF, qSh, qCv, qIA, qIx, qSl, qBu, qCe, qOn, reduceCtorEq, ↓reduceIte, nLT, nLE, nEQ, nAdd, nMul, nPow, nSub, zLT, zLE, zNat, RMsg5103, DB]
      refine hX ?_
      clear hX hY X Y
      refine awp_reg_end ?_
      intro K hK
      simp only [↓DN, UP, DF, qSh, qCv, qIA, qIx, qSl, qBu, qCe, qOn, reduceCtorEq, ↓reduceIte, nLT, nLE, nEQ, nAdd, nMul, nPow, nSub, zLT, zLE, zNat, RMsg5103, g0]
      refine acallk (eyeFail_set _ p _ 30 J.eye) ?_
      rintro r s3 ⟨rfl, rfl⟩
      simp only [↓AXq_nil, ↓AXq_cons, pval, DX, Nat.reduceBEq, ↓DN, UP, DF, qSh, qCv, qIA, qIx, qSl, qBu, qCe, qOn, reduceCtorEq, ↓reduceIte, nLT, nLE, nEQ, nAdd, nMul, nPow, nSub, zLT, zLE, zNat, RMsg5103]
      refine hK _ _ ?_
      have hq : q2 = (q1.2.1, if q1.2.2 = 0 then 30 else q1.2.2) := by rw [e2]; exact if_neg hr
      rw [hq] at h2
      exact h2 _ _ (by simp only [upd, g0, nEQ, ↓reduceIte]) (by simp only [upd, gm, nEQ, ↓reduceIte]) (by simp only [upd, g2, nEQ, ↓reduceIte]) (by simp only [upd, g3, nEQ, ↓reduceIte]) (J.setEye _)
  clear hK1
  refine awp_reg_end ?_
  intro K hK
  simp only [↓DN, UP, DF, qSh, qCv, qIA, qIx, qSl, qBu, qCe, qOn, reduceCtorEq, ↓reduceIte, nLT, nLE, nEQ, nAdd, nMul, nPow, nSub, zLT, zLE, zNat, RMsg5103]
  refine acallk (eyeU64_set _ p st (by rw [AS.set_objs_ne _ hp2]; exact h)) ?_
  rintro r s1 ⟨rfl, rfl⟩
  rw [← e1]
  simp only [↓AXq_nil, ↓AXq_cons, pval, DX, Nat.reduceBEq, ↓DN, UP, DF, qSh, qCv, qIA, qIx, qSl, qBu, qCe, qOn, reduceCtorEq, ↓reduceIte, nLT, nLE, nEQ, nAdd, nMul, nPow, nSub, zLT, zLE, zNat, RMsg5103]
  intro o3 ho3
  have hp3 : o3 ≠ p := by
    rintro rfl
    simp at ho3
  have h32 : o3 ≠ o2 := by
    rintro rfl
    simp [hp2.symm] at ho3
  have ho30 : s.objs o3 = none := by simpa [hp3, h32] using ho3
  refine hK _ _ (h1 _ _ o3 (by simp only [upd, initE, nEQ, ↓reduceIte, List.getD_cons_zero]) (by simp only [upd, initE, nEQ, ↓reduceIte, List.getD_cons_zero, List.getD_cons_succ]) (by simp only [upd, nEQ, ↓reduceIte]) (by simp only [upd, nEQ, ↓reduceIte]) ?_)
  refine ⟨AS.le_set (AS.le_set (AS.le_set (AS.drop_le s p) (AS.drop_objs_none ho2) _) (AS.drop_self _ _) _) (AS.drop_objs_none ho30) _, ?_, ?_, AS.set_objs_same _ _ _, ho2, ho30, hp2, hp3.symm, h32.symm⟩
  · rw [AS.set_objs_ne _ hp3.symm, AS.set_objs_same]
  · rw [AS.set_objs_ne _ h32.symm, AS.set_objs_ne _ hp2.symm, AS.set_objs_same, hz]

set_option maxRecDepth 100000 in
set_option maxHeartbeats 4000000 in
theorem refHRead_calls (s : AS) (p : Nat) (st : EyeSt) (most : Int) (hl : st.1.length ≤ 2 ^ 44) (h : s.objs p = some (reyeC st)) :
    ACalls Try.prog Γ 106 [.ptr p 0, .v (.int .i64 most)] s (fun r s' => r = .agg [.v (.int .u64 (hRead most st).1.1), .v (.string ⟨(hRead most st).1.2.toArray⟩)] ∧ s' = s.set p (reyeC (hRead most st).2)) := by
  refine acalls_body Try.func106 rfl Try.ntmps106 Try.results106 (by simp) ?_
  obtain ⟨q1, e1⟩ : ∃ q, q = eyeNum 8 st := ⟨_, rfl⟩
  obtain ⟨q2, e2⟩ : ∃ q, q = hFail q1.1 q1.2 := ⟨_, rfl⟩
  obtain ⟨q3, e3⟩ : ∃ q, q = eyeText 2 most q2 := ⟨_, rfl⟩
  have l1 : q1.2.1.length ≤ 2 ^ 44 := by rw [e1]; exact Nat.le_trans (eyeNum_len _ _) hl
  have l2 : q2.1.length ≤ 2 ^ 44 := by rw [e2, hFail_len]; exact l1
  have hrr : hRead most st = (if q3.2.2 = 0 then (q1.1, q3.1) else (0, []), q3.2) := by subst e3 e2 e1; rfl
  refine awp_reg_seq ?_
  intro K hK
  simp only [↓DN, UP, DF, qSh, qCv, qIA, qIx, qSl, qBu, qCe, qOn, reduceCtorEq, ↓reduceIte, nLT, nLE, nEQ, nAdd, nMul, nPow, nSub, zLT, zLE, zNat, RMsg5106]
  intro o2 ho2
  have hp2 := some_neH h ho2
  refine hK _ _ ?_
  clear hK K
  refine awp_seq_k ?_
  intro K1 hK1
  obtain ⟨z, hz⟩ : ∃ z : List AV, z = [.v (.int .u64 0), .v (.string ByteArray.empty)] := ⟨_, rfl⟩
  have h1 : ∀ (E : Env) (s1 : AS) (o3 : Nat), E 0 = .ptr p 0 → E 1 = .v (.int .i64 most) → E 4 = .ptr o2 0 → E 5 = .ptr o3 0 → RdS s s1 p o2 o3 (reyeC q1.2) z [.v (.int .u64 q1.1), .v (.string ByteArray.empty)] → K1 E s1 := by
    intro E s1 o3 g0 gm g2 g3 J
    refine hK1 _ _ ?_
    clear hK1 K1
    refine awp_seq_k ?_
    intro K2 hK2
    have h2 : ∀ (E : Env) (s1 : AS), E 0 = .ptr p 0 → E 1 = .v (.int .i64 most) → E 4 = .ptr o2 0 → E 5 = .ptr o3 0 → RdS s s1 p o2 o3 (reyeC q2) z [.v (.int .u64 q1.1), .v (.string ByteArray.empty)] → K2 E s1 := by
      clear J g0 gm g2 g3 E s1
      intro E s1 g0 gm g2 g3 J
      refine hK2 _ _ ?_
      clear hK2 K2
      have jv := J.var
      have jp := J.p3
      have jp2 := J.p3.symm
      refine awp_reg_seq ?_
      intro K hK
      simp only [↓DN, UP, DF, qSh, qCv, qIA, qIx, qSl, qBu, qCe, qOn, reduceCtorEq, ↓reduceIte, nLT, nLE, nEQ, nAdd, nMul, nPow, nSub, zLT, zLE, zNat, RMsg5106, g0, gm]
      refine acallk (reyeText_set _ p _ 2 most (by omega) (by omega) J.eye) ?_
      rintro r s2 ⟨rfl, rfl⟩
      rw [← e3]
      have J3 := (J.setEye (reyeC q3.2)).setVar [.v (.int .u64 q1.1), .v (.string ⟨q3.1.toArray⟩)]
      simp only [↓AXq_nil, ↓AXq_cons, pval, DX, Nat.reduceBEq, ↓DN, UP, DF, qSh, qCv, qIA, qIx, qSl, qBu, qCe, qOn, reduceCtorEq, ↓reduceIte, nLT, nLE, nEQ, nAdd, nMul, nPow, nSub, zLT, zLE, zNat, RMsg5106, g3, jv, jp, jp2]
      refine hK _ _ ?_
      clear hK K
      clear J jv
      generalize (s1.set p (reyeC q3.2)).set o3 [.v (.int .u64 q1.1), .v (.string ⟨q3.1.toArray⟩)] = s2 at *
      have jv := J3.var
      have jr := J3.res
      have jd := J3.d
      have jd2 := J3.d.symm
      rw [hz] at jr
      refine awp_seq_k ?_
      intro K3 hK3
      have hend : ∀ (v : AV) (cs : List AV) (s4 : AS) (E : Env), True := fun _ _ _ _ => trivial
      clear hend
      have je := J3.eye
      unfold reyeC at je
      by_cases he : q3.2.2 = 0
      · refine awp_reg_seq ?_
        intro K hK
        simp only [↓DN, UP, DF, qSh, qCv, qIA, qIx, qSl, qBu, qCe, qOn, reduceCtorEq, ↓reduceIte, nLT, nLE, nEQ, nAdd, nMul, nPow, nSub, zLT, zLE, zNat, RMsg5106, g0, je, he, show (((0 : Int) != 0)) = false from rfl]
        refine hK _ _ ?_
        clear hK K
        refine awp_cond_k ?_
        intro X Y hX hY
        simp only [↓DN, UP, DF, qSh, qCv, qIA, qIx, qSl, qBu, qCe, qOn, reduceCtorEq, ↓reduceIte, nLT, nLE, nEQ, nAdd, nMul, nPow, nSub, zLT, zLE, zNat, RMsg5106, DB]
        refine hY ?_
        clear hX hY X Y
        refine awp_skip ?_
        refine hK3 _ _ ?_
        clear hK3 K3
        refine awp_reg_seq ?_
        intro K hK
        simp only [↓DN, UP, DF, qSh, qCv, qIA, qIx, qSl, qBu, qCe, qOn, reduceCtorEq, ↓reduceIte, nLT, nLE, nEQ, nAdd, nMul, nPow, nSub, zLT, zLE, zNat, RMsg5106, g3, g2, jv, jr, jd, jd2]
        refine hK _ _ ?_
        clear hK K
        refine awp_ret ?_
        refine aends_cell (o := o2) (off := 0) (by simp only [upd, g2, nEQ, ↓reduceIte]) (AS.set_objs_same _ _ _) (by rw [T.c150]; decide) (by simp only [↓DN, UP, DF, qSh, qCv, qIA, qIx, qSl, qBu, qCe, qOn, reduceCtorEq, ↓reduceIte, nLT, nLE, nEQ, nAdd, nMul, nPow, nSub, zLT, zLE, zNat, RMsg5106]; rfl) ?_
        rw [hrr, if_pos he]
        exact ⟨_, _, AV.weak.refl _, (J3.setRes _).out, rfl, rfl⟩
      · refine awp_reg_seq ?_
        intro K hK
        simp only [↓DN, UP, DF, qSh, qCv, qIA, qIx, qSl, qBu, qCe, qOn, reduceCtorEq, ↓reduceIte, nLT, nLE, nEQ, nAdd, nMul, nPow, nSub, zLT, zLE, zNat, RMsg5106, g0, je, show (q3.2.2 != 0) = true from by simpa using he]
        refine hK _ _ ?_
        clear hK K
        refine awp_cond_k ?_
        intro X Y hX hY
        simp only [↓DN, UP, DF, qSh, qCv, qIA, qIx, qSl, qBu, qCe, qOn, reduceCtorEq, ↓reduceIte, nLT, nLE, nEQ, nAdd, nMul, nPow, nSub, zLT, zLE, zNat, RMsg5106, DB]
        refine hX ?_
        clear hX hY X Y
        refine awp_reg_seq ?_
        intro K hK
        simp only [↓DN, UP, DF, qSh, qCv, qIA, qIx, qSl, qBu, qCe, qOn, reduceCtorEq, ↓reduceIte, nLT, nLE, nEQ, nAdd, nMul, nPow, nSub, zLT, zLE, zNat, RMsg5106, g3, g2, jv, jr, jd, jd2]
        refine hK _ _ ?_
        clear hK K
        refine awp_ret ?_
        try simp only [thenQ, blockQ]
        refine aends_cell (o := o2) (off := 0) (by simp only [upd, g2, nEQ, ↓reduceIte]) (AS.set_objs_same _ _ _) (by rw [T.c150]; decide) (by simp only [↓DN, UP, DF, qSh, qCv, qIA, qIx, qSl, qBu, qCe, qOn, reduceCtorEq, ↓reduceIte, nLT, nLE, nEQ, nAdd, nMul, nPow, nSub, zLT, zLE, zNat, RMsg5106]; rfl) ?_
        rw [hrr, if_neg he]
        exact ⟨_, _, AV.weak.refl _, (J3.setRes _).out, rfl, rfl⟩
    clear hK2
    have jv := J.var
    have jp := J.p3
    have jp2 := J.p3.symm
    have je := J.eye
    unfold reyeC at je
    by_cases he : q1.2.2 = 0
    · refine awp_reg_seq ?_
      intro K hK
      simp only [↓DN, UP, DF, qSh, qCv, qIA, qIx, qSl, qBu, qCe, qOn, reduceCtorEq, ↓reduceIte, nLT, nLE, nEQ, nAdd, nMul, nPow, nSub, zLT, zLE, zNat, RMsg5106, g0, g3, jv, jp, jp2, je, he, show ((0 : Int) == 0) = true from rfl]
      refine acallk (refRight07_calls q1.1 _) ?_
      rintro r s2 ⟨rfl, rfl⟩
      by_cases hr : pubOk q1.1
      · rw [pub_test hr]
        simp only [↓AXq_nil, ↓AXq_cons, pval, DX, Nat.reduceBEq, ↓DN, UP, DF, qSh, qCv, qIA, qIx, qSl, qBu, qCe, qOn, reduceCtorEq, ↓reduceIte, nLT, nLE, nEQ, nAdd, nMul, nPow, nSub, zLT, zLE, zNat, RMsg5106]
        refine hK _ _ ?_
        clear hK K
        refine awp_cond_k ?_
        intro X Y hX hY
        simp only [↓DN, UP, DF, qSh, qCv, qIA, qIx, qSl, qBu, qCe, qOn, reduceCtorEq, ↓reduceIte, nLT, nLE, nEQ, nAdd, nMul, nPow, nSub, zLT, zLE, zNat, RMsg5106, DB]
        refine hY ?_
        clear hX hY X Y
        refine awp_skip ?_
        have hq : q2 = q1.2 := by rw [e2]; exact if_pos hr
        rw [hq] at h2
        exact h2 _ _ (by simp only [upd, g0, nEQ, ↓reduceIte]) (by simp only [upd, gm, nEQ, ↓reduceIte]) (by simp only [upd, g2, nEQ, ↓reduceIte]) (by simp only [upd, g3, nEQ, ↓reduceIte]) J
      · rw [pub_testF hr]
        simp only [↓AXq_nil, ↓AXq_cons, pval, DX, Nat.reduceBEq, ↓DN, UP, DF, qSh, qCv, qIA, qIx, qSl, qBu, qCe, qOn, reduceCtorEq, ↓reduceIte, nLT, nLE, nEQ, nAdd, nMul, nPow, nSub, zLT, zLE, zNat, RMsg5106]
        refine hK _ _ ?_
        clear hK K
        refine awp_cond_k ?_
        intro X Y hX hY
        simp only [↓DN, UP, DF, qSh, qCv, qIA, qIx, qSl, qBu, qCe, qOn, reduceCtorEq, ↓reduceIte, nLT, nLE, nEQ, nAdd, nMul, nPow, nSub, zLT, zLE, zNat, RMsg5106, DB]
        refine hX ?_
        clear hX hY X Y
        have hq : q2 = (q1.2.1, 30) := by rw [e2]; exact (if_neg hr).trans (by rw [if_pos he])
        rw [hq] at h2
        refine awp_reg_end ?_
        intro K hK
        simp only [↓DN, UP, DF, qSh, qCv, qIA, qIx, qSl, qBu, qCe, qOn, reduceCtorEq, ↓reduceIte, nLT, nLE, nEQ, nAdd, nMul, nPow, nSub, zLT, zLE, zNat, RMsg5106, g0, je]
        refine hK _ _ ?_
        exact h2 _ _ (by simp only [upd, g0, nEQ, ↓reduceIte]) (by simp only [upd, gm, nEQ, ↓reduceIte]) (by simp only [upd, g2, nEQ, ↓reduceIte]) (by simp only [upd, g3, nEQ, ↓reduceIte]) (J.setEye _)
    · refine awp_reg_seq ?_
      intro K hK
      simp only [↓DN, UP, DF, qSh, qCv, qIA, qIx, qSl, qBu, qCe, qOn, reduceCtorEq, ↓reduceIte, nLT, nLE, nEQ, nAdd, nMul, nPow, nSub, zLT, zLE, zNat, RMsg5106, g0, g3, jv, jp, jp2, je, ne_of_int he]
      refine hK _ _ ?_
      clear hK K
      refine awp_cond_k ?_
      intro X Y hX hY
      simp only [↓DN, UP, DF, qSh, qCv, qIA, qIx, qSl, qBu, qCe, qOn, reduceCtorEq, ↓reduceIte, nLT, nLE, nEQ, nAdd, nMul, nPow, nSub, zLT, zLE, zNat, RMsg5106, DB]
      refine hY ?_
      clear hX hY X Y
      refine awp_skip ?_
      have hq : q2 = q1.2 := by
        rw [e2]
        unfold hFail
        split
        · rfl
        · simp only [if_neg he]
      rw [hq] at h2
      exact h2 _ _ (by simp only [upd, g0, nEQ, ↓reduceIte]) (by simp only [upd, gm, nEQ, ↓reduceIte]) (by simp only [upd, g2, nEQ, ↓reduceIte]) (by simp only [upd, g3, nEQ, ↓reduceIte]) J
  clear hK1
  refine awp_reg_end ?_
  intro K hK
  simp only [↓DN, UP, DF, qSh, qCv, qIA, qIx, qSl, qBu, qCe, qOn, reduceCtorEq, ↓reduceIte, nLT, nLE, nEQ, nAdd, nMul, nPow, nSub, zLT, zLE, zNat, RMsg5106]
  refine acallk (reyeNumber_set _ p st 8 (by omega) (by omega) (by rw [AS.set_objs_ne _ hp2]; exact h)) ?_
  rintro r s1 ⟨rfl, rfl⟩
  rw [← e1]
  simp only [↓AXq_nil, ↓AXq_cons, pval, DX, Nat.reduceBEq, ↓DN, UP, DF, qSh, qCv, qIA, qIx, qSl, qBu, qCe, qOn, reduceCtorEq, ↓reduceIte, nLT, nLE, nEQ, nAdd, nMul, nPow, nSub, zLT, zLE, zNat, RMsg5106]
  intro o3 ho3
  have hp3 : o3 ≠ p := by
    rintro rfl
    simp at ho3
  have h32 : o3 ≠ o2 := by
    rintro rfl
    simp [hp2.symm] at ho3
  have ho30 : s.objs o3 = none := by simpa [hp3, h32] using ho3
  refine hK _ _ (h1 _ _ o3 (by simp only [upd, initE, nEQ, ↓reduceIte, List.getD_cons_zero]) (by simp only [upd, initE, nEQ, ↓reduceIte, List.getD_cons_zero, List.getD_cons_succ]) (by simp only [upd, nEQ, ↓reduceIte]) (by simp only [upd, nEQ, ↓reduceIte]) ?_)
  refine ⟨AS.le_set (AS.le_set (AS.le_set (AS.drop_le s p) (AS.drop_objs_none ho2) _) (AS.drop_self _ _) _) (AS.drop_objs_none ho30) _, ?_, ?_, AS.set_objs_same _ _ _, ho2, ho30, hp2, hp3.symm, h32.symm⟩
  · rw [AS.set_objs_ne _ hp3.symm, AS.set_objs_same]
  · rw [AS.set_objs_ne _ h32.symm, AS.set_objs_ne _ hp2.symm, AS.set_objs_same, hz]

set_option maxHeartbeats 400000 in
theorem hWrite_calls (s0 s : AS) (p : Nat) (st : List UInt8 × Bool) (f : Nat) (t : List UInt8) (hf : f < 2 ^ 64) (hl : st.1.length + t.length + 20 ≤ 2 ^ 45) (h : PenS s0 s p st) :
    ACalls Try.prog Γ 98 [.ptr p 0, .agg [.v (.int .u64 f), bytesV t .any]] s (fun r s' => r = .tup [] ∧ PenS s0 s' p (penText 2 t (penNum 8 f st))) := by
  refine acalls_body Try.func98 rfl Try.ntmps98 Try.results98 (by simp) ?_
  refine awp_reg_frz 3 (by simp [dsts]) ?_
  intro K hK
  simp only [↓AXq_nil, ↓AXq_cons, pval, DX, Nat.reduceBEq, ↓DN, UP, DF, qSh, qCv, qIA, qIx, qSl, qBu, qCe, qOn, reduceCtorEq, ↓reduceIte, nLT, nLE, nEQ, nAdd, nMul, nPow, nSub, zLT, zLE, zNat, RMsg598]
  intro o ho
  refine hK _ _ o _ (by simp only [upd, nEQ, ↓reduceIte]) ho ?_
  clear hK K ho
  refine awp_reg_seq ?_
  intro K hK
  simp only [↓DN, UP, DF, qSh, qCv, qIA, qIx, qSl, qBu, qCe, qOn, reduceCtorEq, ↓reduceIte, nLT, nLE, nEQ, nAdd, nMul, nPow, nSub, zLT, zLE, zNat, RMsg598]
  refine acallk (penU64_calls s0 s p st f hf (by omega) h) ?_
  rintro r s1 ⟨rfl, h1⟩
  simp only [↓AXq_nil, ↓AXq_cons, pval, DX, Nat.reduceBEq, ↓DN, UP, DF, qSh, qCv, qIA, qIx, qSl, qBu, qCe, qOn, reduceCtorEq, ↓reduceIte, nLT, nLE, nEQ, nAdd, nMul, nPow, nSub, zLT, zLE, zNat, RMsg598]
  refine hK _ _ ?_
  clear hK K
  have hl2 : (penNum 8 f st).1.length ≤ st.1.length + 8 := by
    rw [penNum_raw]; unfold penRaw; split <;> simp
  refine awp_reg_end ?_
  intro K hK
  simp only [↓DN, UP, DF, qSh, qCv, qIA, qIx, qSl, qBu, qCe, qOn, reduceCtorEq, ↓reduceIte, nLT, nLE, nEQ, nAdd, nMul, nPow, nSub, zLT, zLE, zNat, RMsg598]
  refine acallk (penLong_calls s0 s1 p _ _ t (IsB.any t) (by omega) h1) ?_
  rintro r s2 ⟨rfl, h2⟩
  simp only [↓AXq_nil, ↓AXq_cons, pval, DX, Nat.reduceBEq, ↓DN, UP, DF, qSh, qCv, qIA, qIx, qSl, qBu, qCe, qOn, reduceCtorEq, ↓reduceIte, nLT, nLE, nEQ, nAdd, nMul, nPow, nSub, zLT, zLE, zNat, RMsg598]
  refine hK _ _ ?_
  clear hK K
  simp only [retQ, AEnds, aresL, ares, List.toList_toArray, ↓upd_same]; try simp only [↓DN, UP, DF, qSh, qCv, qIA, qIx, qSl, qBu, qCe, qOn, reduceCtorEq, ↓reduceIte, nLT, nLE, nEQ, nAdd, nMul, nPow, nSub, zLT, zLE, zNat, RMsg598, DT]
  exact ⟨_, _, AV.weak.refl _, AS.le.refl _, rfl, h2⟩

end Go.Proofs.Ytcnilmidfhpckaa


set_option autoImplicit false
namespace Go.AM
open Go

def txt (k : Nat) (l : List UInt8) : List UInt8 := be k l.length ++ l
def PropV.body (p : PropV) : List UInt8 := if p.kind = 1 then txt 1 p.name ++ (be 8 p.key ++ be 8 p.init) else if p.kind = 2 then be 1 p.leaf.toNat ++ be 8 p.key else be 1 p.leaf.toNat
def PropV.text (p : PropV) : List UInt8 := be 1 p.kind.toNat ++ p.body
def SealV.wtext (x : SealV) : List UInt8 := be 8 x.frm ++ txt 2 x.text
def flatT {α : Type} (f : α → List UInt8) (l : List α) : List UInt8 := (l.map f).flatten
def StepV.text (x : StepV) : List UInt8 := be 8 x.key ++ (be 1 x.seals.length ++ flatT SealV.wtext x.seals)
def PathV.text (x : PathV) : List UInt8 := be 8 x.key ++ (txt 1 x.parent ++ (be 1 x.steps.length ++ flatT StepV.text x.steps))
def CommitV.tail (c : CommitV) : List UInt8 := if c.hasPath then be 1 1 ++ c.path.text else be 1 0
def CommitV.content (c : CommitV) : List UInt8 :=
  be 1 1 ++ (txt 1 c.group ++ (be 8 c.epoch.toNat ++ (be 1 c.sender.toNat ++ (be 1 c.props.length ++ (flatT PropV.text c.props ++ c.tail)))))
def CommitV.text (c : CommitV) : List UInt8 := c.content ++ (txt 1 c.confirm ++ txt 1 c.member)

theorem flatT_take {α : Type} (f : α → List UInt8) {l : List α} {i : Nat} (h : i < l.length) : flatT f (l.take (i + 1)) = flatT f (l.take i) ++ f l[i] := by
  unfold flatT
  rw [List.take_succ_eq_append_getElem h, List.map_append, List.flatten_append]
  simp only [List.map_cons, List.map_nil, List.flatten_cons, List.flatten_nil, List.append_nil]
theorem flatT_len {α : Type} {f : α → List UInt8} {n : Nat} : ∀ {l : List α}, (∀ x ∈ l, (f x).length ≤ n) → (flatT f l).length ≤ l.length * n
  | [], _ => by simp [flatT]
  | a :: l, h => by
    have ih := flatT_len (l := l) fun x hx => h x (by simp [hx])
    have h1 := h a (by simp)
    have : flatT f (a :: l) = f a ++ flatT f l := rfl
    rw [this, List.length_append, List.length_cons, Nat.succ_mul]
    omega
theorem txt_len (k : Nat) (l : List UInt8) : (txt k l).length = k + l.length := by simp [txt]
theorem SealV.wtext_len {x : SealV} (h : x.right) : x.wtext.length ≤ 58 := by
  have := h.2
  simp [SealV.wtext, txt_len]; omega
theorem StepV.text_len {x : StepV} (h : x.right) : x.text.length ≤ 1865 := by
  have h1 := flatT_len (f := SealV.wtext) (n := 58) fun y hy => SealV.wtext_len (h.1 y hy)
  have h2 := h.2.2
  have h3 : x.seals.length * 58 ≤ 32 * 58 := Nat.mul_le_mul_right _ h2
  simp [StepV.text]; omega
theorem PathV.text_len {x : PathV} (h : x.right) : x.text.length ≤ 9400 := by
  have h1 := flatT_len (f := StepV.text) (n := 1865) fun y hy => StepV.text_len (h.1 y hy)
  have h2 := h.2.2.2
  have h4 := h.2.2.1
  have h3 : x.steps.length * 1865 ≤ 5 * 1865 := Nat.mul_le_mul_right _ h2
  simp [PathV.text, txt_len]; omega
theorem PropV.text_len {x : PropV} (h : x.right) : x.text.length ≤ 40 := by
  unfold PropV.text PropV.body
  rcases h with ⟨h1, h2, h3, h4, _⟩ | ⟨h1, h2, h3, h4, _⟩ | ⟨h1, h2, h3, h4, _⟩
  · rw [if_pos h1]; simp [txt_len]; omega
  · rw [if_neg (by omega), if_pos h1]; simp
  · rw [if_neg (by omega), if_neg (by omega)]; simp
theorem CommitV.content_len {c : CommitV} (h : c.right) : c.content.length ≤ 12000 := by
  obtain ⟨h1, h2, h3, h4, h5, h6, h7, h8⟩ := h
  have q1 := flatT_len (f := PropV.text) (n := 40) fun y hy => PropV.text_len (h1 y hy)
  have q2 : c.props.length * 40 ≤ 16 * 40 := Nat.mul_le_mul_right _ h5
  have q3 : c.tail.length ≤ 9401 := by
    unfold CommitV.tail
    split
    · rename_i hp
      have := PathV.text_len (h6.1 hp)
      simp; omega
    · simp
  simp [CommitV.content, txt_len]; omega
theorem CommitV.text_len {c : CommitV} (h : c.right) : c.text.length ≤ 13000 := by
  have h1 := CommitV.content_len h
  have h7 := h.2.2.2.2.2.2
  simp [CommitV.text, txt_len]; omega
end Go.AM


set_option autoImplicit false
namespace Go.Proofs.Ytcnilmidfhpckaa
open Go Go.AM Go.Proofs

theorem RMsg645 : type_of% (And.intro (And.intro (And.intro (And.intro (And.intro (And.intro @Try.underlying3 (And.intro T.c3 T.g3)) (And.intro T.b3 (And.intro T.z3 @Try.underlying4))) (And.intro (And.intro T.c4 (And.intro T.g4 T.b4)) (And.intro (And.intro T.z4 @Try.underlying5) (And.intro T.c5 T.g5)))) (And.intro (And.intro (And.intro T.b5 (And.intro T.z5 @Try.underlying28)) (And.intro T.c28 (And.intro T.g28 T.b28))) (And.intro (And.intro T.z28 (And.intro T.s28 @Try.underlying42)) (And.intro (And.intro T.c42 T.g42) (And.intro T.b42 T.z42))))) (And.intro (And.intro (And.intro (And.intro @Try.underlying80 (And.intro T.c80 T.g80)) (And.intro T.b80 (And.intro T.z80 T.h80))) (And.intro (And.intro @Try.underlying86 (And.intro T.c86 T.g86)) (And.intro (And.intro T.b86 T.z86) (And.intro T.p86 @Try.underlying137)))) (And.intro (And.intro (And.intro T.c137 (And.intro T.g137 T.b137)) (And.intro T.z137 (And.intro T.h137 T.f80_0))) (And.intro (And.intro T.f80_1 (And.intro T.f80_2 T.f80_3)) (And.intro (And.intro T.f80_4 T.k44) (And.intro T.k41 T.k43)))))) Try.ntmps45) :=
  (And.intro (And.intro (And.intro (And.intro (And.intro (And.intro @Try.underlying3 (And.intro T.c3 T.g3)) (And.intro T.b3 (And.intro T.z3 @Try.underlying4))) (And.intro (And.intro T.c4 (And.intro T.g4 T.b4)) (And.intro (And.intro T.z4 @Try.underlying5) (And.intro T.c5 T.g5)))) (And.intro (And.intro (And.intro T.b5 (And.intro T.z5 @Try.underlying28)) (And.intro T.c28 (And.intro T.g28 T.b28))) (And.intro (And.intro T.z28 (And.intro T.s28 @Try.underlying42)) (And.intro (And.intro T.c42 T.g42) (And.intro T.b42 T.z42))))) (And.intro (And.intro (And.intro (And.intro @Try.underlying80 (And.intro T.c80 T.g80)) (And.intro T.b80 (And.intro T.z80 T.h80))) (And.intro (And.intro @Try.underlying86 (And.intro T.c86 T.g86)) (And.intro (And.intro T.b86 T.z86) (And.intro T.p86 @Try.underlying137)))) (And.intro (And.intro (And.intro T.c137 (And.intro T.g137 T.b137)) (And.intro T.z137 (And.intro T.h137 T.f80_0))) (And.intro (And.intro T.f80_1 (And.intro T.f80_2 T.f80_3)) (And.intro (And.intro T.f80_4 T.k44) (And.intro T.k41 T.k43)))))) Try.ntmps45)

variable {Γ : Nat → List AV}

theorem small_nat {n : Int} (h : 0 ≤ n) (k : n < 256) (st : List UInt8 × Bool) : penSmall 1 n st = penRaw (be 1 n.toNat) st := by
  obtain ⟨m, rfl⟩ : ∃ m : Nat, n = (m : Int) := ⟨n.toNat, by omega⟩
  exact penSmall_raw (by omega) st
theorem text_raw {k : Nat} {m : List UInt8} (h : m.length < 256 ^ k) (st : List UInt8 × Bool) : penText k m st = penRaw (txt k m) st := penText_raw h st

set_option maxHeartbeats 2000000 in
theorem writeProp_calls (s0 s : AS) (p : Nat) (st : List UInt8 × Bool) (x : PropV) (hw : x.wf) (hx : x.right) (hl : st.1.length + 100 ≤ 2 ^ 45) (h : PenS s0 s p st) :
    ACalls Try.prog Γ 45 [.ptr p 0, .agg x.cells] s (fun r s' => r = .tup [] ∧ PenS s0 s' p (penRaw x.text st)) := by
  refine acalls_body Try.func45 rfl Try.ntmps45 Try.results45 (by simp) ?_
  obtain ⟨k, l, nm, key, ini⟩ := x
  obtain ⟨w1, w2⟩ := hw
  simp only at w1 w2
  unfold PropV.cells
  have hk : 0 ≤ k ∧ k < 256 := by rcases hx with h | h | h <;> (have := h.1; simp only at this; omega)
  refine awp_reg_frz 3 (by simp [dsts]) ?_
  intro K hK
  simp only [↓AXq_nil, ↓AXq_cons, pval, DX, Nat.reduceBEq, ↓DN, UP, DF, qSh, qCv, qIA, qIx, qSl, qBu, qCe, qOn, reduceCtorEq, ↓reduceIte, nLT, nLE, nEQ, nAdd, nMul, nPow, nSub, zLT, zLE, zNat, RMsg645]
  intro o ho
  refine hK _ _ o _ (by simp only [upd, nEQ, ↓reduceIte]) ho ?_
  clear hK K ho
  refine awp_reg_seq ?_
  intro K hK
  simp only [↓DN, UP, DF, qSh, qCv, qIA, qIx, qSl, qBu, qCe, qOn, reduceCtorEq, ↓reduceIte, nLT, nLE, nEQ, nAdd, nMul, nPow, nSub, zLT, zLE, zNat, RMsg645]
  refine acallk (penU8_calls s0 s p st k (by omega) (by omega) h) ?_
  rintro r s1 ⟨rfl, h1⟩
  rw [small_nat hk.1 hk.2] at h1
  have l1 := penRaw_len (be 1 k.toNat) st
  rw [length_be] at l1
  simp only [↓AXq_nil, ↓AXq_cons, pval, DX, Nat.reduceBEq, ↓DN, UP, DF, qSh, qCv, qIA, qIx, qSl, qBu, qCe, qOn, reduceCtorEq, ↓reduceIte, nLT, nLE, nEQ, nAdd, nMul, nPow, nSub, zLT, zLE, zNat, RMsg645]
  refine hK _ _ ?_
  clear hK K
  refine awp_reg_seq ?_
  intro K hK
  simp only [↓DN, UP, DF, qSh, qCv, qIA, qIx, qSl, qBu, qCe, qOn, reduceCtorEq, ↓reduceIte, nLT, nLE, nEQ, nAdd, nMul, nPow, nSub, zLT, zLE, zNat, RMsg645]
  refine hK _ _ ?_
  clear hK K
  refine awp_block ?_
  rcases hx with ⟨e1, e2, e3, e4, e5, e6⟩ | ⟨e1, e2, e3, e4, e5, e6⟩ | ⟨e1, e2, e3, e4, e5, e6⟩
  · simp only at e1 e2 e3 e4 e5 e6
    refine awp_reg_seq ?_
    intro K hK
    simp only [↓DN, UP, DF, qSh, qCv, qIA, qIx, qSl, qBu, qCe, qOn, reduceCtorEq, ↓reduceIte, nLT, nLE, nEQ, nAdd, nMul, nPow, nSub, zLT, zLE, zNat, RMsg645, yesI e1]
    refine hK _ _ ?_
    clear hK K
    refine awp_cond_k ?_
    intro X Y hX hY
    simp only [↓DN, UP, DF, qSh, qCv, qIA, qIx, qSl, qBu, qCe, qOn, reduceCtorEq, ↓reduceIte, nLT, nLE, nEQ, nAdd, nMul, nPow, nSub, zLT, zLE, zNat, RMsg645, DB]
    refine hX ?_
    clear hX hY X Y
    refine awp_reg_seq ?_
    intro K hK
    simp only [↓DN, UP, DF, qSh, qCv, qIA, qIx, qSl, qBu, qCe, qOn, reduceCtorEq, ↓reduceIte, nLT, nLE, nEQ, nAdd, nMul, nPow, nSub, zLT, zLE, zNat, RMsg645]
    refine acallk (penShort_calls s0 s1 p _ _ nm (IsB.any nm) (by omega) h1) ?_
    rintro r s2 ⟨rfl, h2⟩
    rw [text_raw (by omega), penRaw_raw] at h2
    have l2 := penRaw_len (be 1 k.toNat ++ txt 1 nm) st
    rw [List.length_append, length_be, txt_len] at l2
    simp only [↓AXq_nil, ↓AXq_cons, pval, DX, Nat.reduceBEq, ↓DN, UP, DF, qSh, qCv, qIA, qIx, qSl, qBu, qCe, qOn, reduceCtorEq, ↓reduceIte, nLT, nLE, nEQ, nAdd, nMul, nPow, nSub, zLT, zLE, zNat, RMsg645]
    refine hK _ _ ?_
    clear hK K
    refine awp_reg_seq ?_
    intro K hK
    simp only [↓DN, UP, DF, qSh, qCv, qIA, qIx, qSl, qBu, qCe, qOn, reduceCtorEq, ↓reduceIte, nLT, nLE, nEQ, nAdd, nMul, nPow, nSub, zLT, zLE, zNat, RMsg645]
    refine acallk (penU64_calls s0 s2 p _ key w1 (by omega) h2) ?_
    rintro r s3 ⟨rfl, h3⟩
    rw [penNum_raw, penRaw_raw] at h3
    have l3 := penRaw_len (be 1 k.toNat ++ txt 1 nm ++ be 8 key) st
    rw [List.length_append, List.length_append, length_be, length_be, txt_len] at l3
    simp only [↓AXq_nil, ↓AXq_cons, pval, DX, Nat.reduceBEq, ↓DN, UP, DF, qSh, qCv, qIA, qIx, qSl, qBu, qCe, qOn, reduceCtorEq, ↓reduceIte, nLT, nLE, nEQ, nAdd, nMul, nPow, nSub, zLT, zLE, zNat, RMsg645]
    refine hK _ _ ?_
    clear hK K
    refine awp_reg_end ?_
    intro K hK
    simp only [↓DN, UP, DF, qSh, qCv, qIA, qIx, qSl, qBu, qCe, qOn, reduceCtorEq, ↓reduceIte, nLT, nLE, nEQ, nAdd, nMul, nPow, nSub, zLT, zLE, zNat, RMsg645]
    refine acallk (penU64_calls s0 s3 p _ ini w2 (by omega) h3) ?_
    rintro r s4 ⟨rfl, h4⟩
    rw [penNum_raw, penRaw_raw] at h4
    simp only [↓AXq_nil, ↓AXq_cons, pval, DX, Nat.reduceBEq, ↓DN, UP, DF, qSh, qCv, qIA, qIx, qSl, qBu, qCe, qOn, reduceCtorEq, ↓reduceIte, nLT, nLE, nEQ, nAdd, nMul, nPow, nSub, zLT, zLE, zNat, RMsg645]
    refine hK _ _ ?_
    clear hK K
    try simp only [thenQ, blockQ]
    simp only [retQ, AEnds, aresL, ares, List.toList_toArray, ↓upd_same]; try simp only [↓DN, UP, DF, qSh, qCv, qIA, qIx, qSl, qBu, qCe, qOn, reduceCtorEq, ↓reduceIte, nLT, nLE, nEQ, nAdd, nMul, nPow, nSub, zLT, zLE, zNat, RMsg645, DT]
    refine ⟨_, _, AV.weak.refl _, AS.le.refl _, rfl, ?_⟩
    have : PropV.text ⟨k, l, nm, key, ini⟩ = be 1 k.toNat ++ txt 1 nm ++ be 8 key ++ be 8 ini := by
      unfold PropV.text PropV.body
      rw [if_pos e1]
      simp
    rw [this]
    exact h4
  · simp only at e1 e2 e3 e4 e5 e6
    refine awp_reg_seq ?_
    intro K hK
    simp only [↓DN, UP, DF, qSh, qCv, qIA, qIx, qSl, qBu, qCe, qOn, reduceCtorEq, ↓reduceIte, nLT, nLE, nEQ, nAdd, nMul, nPow, nSub, zLT, zLE, zNat, RMsg645, notI (show k ≠ 1 by omega)]
    refine hK _ _ ?_
    clear hK K
    refine awp_cond_k ?_
    intro X Y hX hY
    simp only [↓DN, UP, DF, qSh, qCv, qIA, qIx, qSl, qBu, qCe, qOn, reduceCtorEq, ↓reduceIte, nLT, nLE, nEQ, nAdd, nMul, nPow, nSub, zLT, zLE, zNat, RMsg645, DB]
    refine hY ?_
    clear hX hY X Y
    refine awp_reg_seq ?_
    intro K hK
    simp only [↓DN, UP, DF, qSh, qCv, qIA, qIx, qSl, qBu, qCe, qOn, reduceCtorEq, ↓reduceIte, nLT, nLE, nEQ, nAdd, nMul, nPow, nSub, zLT, zLE, zNat, RMsg645, yesI e1]
    refine hK _ _ ?_
    clear hK K
    refine awp_cond_k ?_
    intro X Y hX hY
    simp only [↓DN, UP, DF, qSh, qCv, qIA, qIx, qSl, qBu, qCe, qOn, reduceCtorEq, ↓reduceIte, nLT, nLE, nEQ, nAdd, nMul, nPow, nSub, zLT, zLE, zNat, RMsg645, DB]
    refine hX ?_
    clear hX hY X Y
    refine awp_reg_seq ?_
    intro K hK
    simp only [↓DN, UP, DF, qSh, qCv, qIA, qIx, qSl, qBu, qCe, qOn, reduceCtorEq, ↓reduceIte, nLT, nLE, nEQ, nAdd, nMul, nPow, nSub, zLT, zLE, zNat, RMsg645]
    refine acallk (penU8_calls s0 s1 p _ l (by omega) (by omega) h1) ?_
    rintro r s2 ⟨rfl, h2⟩
    rw [small_nat e2 (by omega), penRaw_raw] at h2
    have l2 := penRaw_len (be 1 k.toNat ++ be 1 l.toNat) st
    rw [List.length_append, length_be, length_be] at l2
    simp only [↓AXq_nil, ↓AXq_cons, pval, DX, Nat.reduceBEq, ↓DN, UP, DF, qSh, qCv, qIA, qIx, qSl, qBu, qCe, qOn, reduceCtorEq, ↓reduceIte, nLT, nLE, nEQ, nAdd, nMul, nPow, nSub, zLT, zLE, zNat, RMsg645]
    refine hK _ _ ?_
    clear hK K
    refine awp_reg_end ?_
    intro K hK
    simp only [↓DN, UP, DF, qSh, qCv, qIA, qIx, qSl, qBu, qCe, qOn, reduceCtorEq, ↓reduceIte, nLT, nLE, nEQ, nAdd, nMul, nPow, nSub, zLT, zLE, zNat, RMsg645]
    refine acallk (penU64_calls s0 s2 p _ key w1 (by omega) h2) ?_
    rintro r s3 ⟨rfl, h3⟩
    rw [penNum_raw, penRaw_raw] at h3
    simp only [↓AXq_nil, ↓AXq_cons, pval, DX, Nat.reduceBEq, ↓DN, UP, DF, qSh, qCv, qIA, qIx, qSl, qBu, qCe, qOn, reduceCtorEq, ↓reduceIte, nLT, nLE, nEQ, nAdd, nMul, nPow, nSub, zLT, zLE, zNat, RMsg645]
    refine hK _ _ ?_
    clear hK K
    try simp only [thenQ, blockQ]
    simp only [retQ, AEnds, aresL, ares, List.toList_toArray, ↓upd_same]; try simp only [↓DN, UP, DF, qSh, qCv, qIA, qIx, qSl, qBu, qCe, qOn, reduceCtorEq, ↓reduceIte, nLT, nLE, nEQ, nAdd, nMul, nPow, nSub, zLT, zLE, zNat, RMsg645, DT]
    refine ⟨_, _, AV.weak.refl _, AS.le.refl _, rfl, ?_⟩
    have : PropV.text ⟨k, l, nm, key, ini⟩ = be 1 k.toNat ++ be 1 l.toNat ++ be 8 key := by
      unfold PropV.text PropV.body
      rw [if_neg (show ¬ k = 1 by omega), if_pos e1]
      simp
    rw [this]
    exact h3
  · simp only at e1 e2 e3 e4 e5 e6
    refine awp_reg_seq ?_
    intro K hK
    simp only [↓DN, UP, DF, qSh, qCv, qIA, qIx, qSl, qBu, qCe, qOn, reduceCtorEq, ↓reduceIte, nLT, nLE, nEQ, nAdd, nMul, nPow, nSub, zLT, zLE, zNat, RMsg645, notI (show k ≠ 1 by omega)]
    refine hK _ _ ?_
    clear hK K
    refine awp_cond_k ?_
    intro X Y hX hY
    simp only [↓DN, UP, DF, qSh, qCv, qIA, qIx, qSl, qBu, qCe, qOn, reduceCtorEq, ↓reduceIte, nLT, nLE, nEQ, nAdd, nMul, nPow, nSub, zLT, zLE, zNat, RMsg645, DB]
    refine hY ?_
    clear hX hY X Y
    refine awp_reg_seq ?_
    intro K hK
    simp only [↓DN, UP, DF, qSh, qCv, qIA, qIx, qSl, qBu, qCe, qOn, reduceCtorEq, ↓reduceIte, nLT, nLE, nEQ, nAdd, nMul, nPow, nSub, zLT, zLE, zNat, RMsg645, notI (show k ≠ 2 by omega)]
    refine hK _ _ ?_
    clear hK K
    refine awp_cond_k ?_
    intro X Y hX hY
    simp only [↓DN, UP, DF, qSh, qCv, qIA, qIx, qSl, qBu, qCe, qOn, reduceCtorEq, ↓reduceIte, nLT, nLE, nEQ, nAdd, nMul, nPow, nSub, zLT, zLE, zNat, RMsg645, DB]
    refine hY ?_
    clear hX hY X Y
    refine awp_reg_seq ?_
    intro K hK
    simp only [↓DN, UP, DF, qSh, qCv, qIA, qIx, qSl, qBu, qCe, qOn, reduceCtorEq, ↓reduceIte, nLT, nLE, nEQ, nAdd, nMul, nPow, nSub, zLT, zLE, zNat, RMsg645, yesI e1]
    refine hK _ _ ?_
    clear hK K
    refine awp_cond_k ?_
    intro X Y hX hY
    simp only [↓DN, UP, DF, qSh, qCv, qIA, qIx, qSl, qBu, qCe, qOn, reduceCtorEq, ↓reduceIte, nLT, nLE, nEQ, nAdd, nMul, nPow, nSub, zLT, zLE, zNat, RMsg645, DB]
    refine hX ?_
    clear hX hY X Y
    refine awp_reg_end ?_
    intro K hK
    simp only [↓DN, UP, DF, qSh, qCv, qIA, qIx, qSl, qBu, qCe, qOn, reduceCtorEq, ↓reduceIte, nLT, nLE, nEQ, nAdd, nMul, nPow, nSub, zLT, zLE, zNat, RMsg645]
    refine acallk (penU8_calls s0 s1 p _ l (by omega) (by omega) h1) ?_
    rintro r s2 ⟨rfl, h2⟩
    rw [small_nat e2 (by omega), penRaw_raw] at h2
    simp only [↓AXq_nil, ↓AXq_cons, pval, DX, Nat.reduceBEq, ↓DN, UP, DF, qSh, qCv, qIA, qIx, qSl, qBu, qCe, qOn, reduceCtorEq, ↓reduceIte, nLT, nLE, nEQ, nAdd, nMul, nPow, nSub, zLT, zLE, zNat, RMsg645]
    refine hK _ _ ?_
    clear hK K
    try simp only [thenQ, blockQ]
    simp only [retQ, AEnds, aresL, ares, List.toList_toArray, ↓upd_same]; try simp only [↓DN, UP, DF, qSh, qCv, qIA, qIx, qSl, qBu, qCe, qOn, reduceCtorEq, ↓reduceIte, nLT, nLE, nEQ, nAdd, nMul, nPow, nSub, zLT, zLE, zNat, RMsg645, DT]
    refine ⟨_, _, AV.weak.refl _, AS.le.refl _, rfl, ?_⟩
    have : PropV.text ⟨k, l, nm, key, ini⟩ = be 1 k.toNat ++ be 1 l.toNat := by
      unfold PropV.text PropV.body
      rw [if_neg (show ¬ k = 1 by omega), if_neg (show ¬ k = 2 by omega)]
    rw [this]
    exact h2

theorem bit_calls (b : Bool) (s : AS) : ACalls Try.prog Γ 46 [.v (.bool b)] s (fun r s' => r = .v (.int .i64 (if b then 1 else 0)) ∧ s' = s) := by
  refine acalls_body Try.func46 rfl Try.ntmps46 Try.results46 (by simp) ?_
  refine awp_reg_seq ?_
  intro K hK
  simp only [↓DN, UP, DF, qSh, qCv, qIA, qIx, qSl, qBu, qCe, qOn, reduceCtorEq, ↓reduceIte, nLT, nLE, nEQ, nAdd, nMul, nPow, nSub, zLT, zLE, zNat, Try.ntmps46]
  refine hK _ _ ?_
  clear hK K
  refine awp_seq_k ?_
  intro K hK
  cases b with
  | true =>
    refine awp_reg_seq ?_
    intro K hK
    simp only [↓DN, UP, DF, qSh, qCv, qIA, qIx, qSl, qBu, qCe, qOn, reduceCtorEq, ↓reduceIte, nLT, nLE, nEQ, nAdd, nMul, nPow, nSub, zLT, zLE, zNat, Try.ntmps46]
    refine hK _ _ ?_
    clear hK K
    refine awp_cond_k ?_
    intro X Y hX hY
    simp only [↓DN, UP, DF, qSh, qCv, qIA, qIx, qSl, qBu, qCe, qOn, reduceCtorEq, ↓reduceIte, nLT, nLE, nEQ, nAdd, nMul, nPow, nSub, zLT, zLE, zNat, Try.ntmps46, DB]
    refine hX ?_
    clear hX hY X Y
    refine awp_reg_seq ?_
    intro K hK
    simp only [↓DN, UP, DF, qSh, qCv, qIA, qIx, qSl, qBu, qCe, qOn, reduceCtorEq, ↓reduceIte, nLT, nLE, nEQ, nAdd, nMul, nPow, nSub, zLT, zLE, zNat, Try.ntmps46]
    refine hK _ _ ?_
    clear hK K
    refine awp_ret ?_
    try simp only [thenQ, blockQ]
    simp only [retQ, AEnds, aresL, ares, List.toList_toArray, ↓upd_same]; try simp only [↓DN, UP, DF, qSh, qCv, qIA, qIx, qSl, qBu, qCe, qOn, reduceCtorEq, ↓reduceIte, nLT, nLE, nEQ, nAdd, nMul, nPow, nSub, zLT, zLE, zNat, Try.ntmps46, DT]
    exact ⟨_, _, AV.weak.refl _, AS.le.refl _, rfl, rfl⟩
  | false =>
    refine awp_reg_seq ?_
    intro K hK
    simp only [↓DN, UP, DF, qSh, qCv, qIA, qIx, qSl, qBu, qCe, qOn, reduceCtorEq, ↓reduceIte, nLT, nLE, nEQ, nAdd, nMul, nPow, nSub, zLT, zLE, zNat, Try.ntmps46]
    refine hK _ _ ?_
    clear hK K
    refine awp_cond_k ?_
    intro X Y hX hY
    simp only [↓DN, UP, DF, qSh, qCv, qIA, qIx, qSl, qBu, qCe, qOn, reduceCtorEq, ↓reduceIte, nLT, nLE, nEQ, nAdd, nMul, nPow, nSub, zLT, zLE, zNat, Try.ntmps46, DB]
    refine hY ?_
    clear hX hY X Y
    refine awp_skip ?_
    refine hK _ _ ?_
    clear hK K
    refine awp_reg_seq ?_
    intro K hK
    simp only [↓DN, UP, DF, qSh, qCv, qIA, qIx, qSl, qBu, qCe, qOn, reduceCtorEq, ↓reduceIte, nLT, nLE, nEQ, nAdd, nMul, nPow, nSub, zLT, zLE, zNat, Try.ntmps46]
    refine hK _ _ ?_
    clear hK K
    refine awp_ret ?_
    simp only [retQ, AEnds, aresL, ares, List.toList_toArray, ↓upd_same]; try simp only [↓DN, UP, DF, qSh, qCv, qIA, qIx, qSl, qBu, qCe, qOn, reduceCtorEq, ↓reduceIte, nLT, nLE, nEQ, nAdd, nMul, nPow, nSub, zLT, zLE, zNat, Try.ntmps46, DT]
    exact ⟨_, _, AV.weak.refl _, AS.le.refl _, rfl, rfl⟩

end Go.Proofs.Ytcnilmidfhpckaa


