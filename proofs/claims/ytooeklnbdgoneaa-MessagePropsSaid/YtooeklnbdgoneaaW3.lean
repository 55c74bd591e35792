/- Contracts of the program's functions, each walked once; the conditions stand in each theorem. -/
import Derived.Test.YtooeklnbdgoneaaAMp6
import Derived.Test.YtooeklnbdgoneaaW2
import Derived.Test.YtooeklnbdgoneaaW1
import Derived.Test.YtooeklnbdgoneaaAMp4
set_option linter.unusedSimpArgs false
set_option linter.unusedVariables false
open Nat renaming reduceLT → nLT, reduceLeDiff → nLE, reduceEqDiff → nEQ, reduceAdd → nAdd, reduceMul → nMul, reducePow → nPow, reduceSub → nSub
open Int renaming reduceLT → zLT, reduceLE → zLE, reduceToNat → zNat
open Go.AM renaming ashift → qSh, aconv → qCv, aindexAddr → qIA, aindex → qIx, aslice → qSl, abuiltin → qBu
open Go.AM.AV renaming cells → qCe, one → qOn
set_option autoImplicit false
namespace Go.Proofs.Ytooeklnbdgoneaa
open Go Go.AM Go.Proofs

theorem RMsg436 : type_of% (And.intro (And.intro (And.intro (And.intro (And.intro (And.intro (And.intro @Try.underlying3 T.c3) (And.intro T.g3 (And.intro T.b3 T.z3))) (And.intro (And.intro @Try.underlying4 T.c4) (And.intro T.g4 (And.intro T.b4 T.z4)))) (And.intro (And.intro (And.intro @Try.underlying5 T.c5) (And.intro T.g5 (And.intro T.b5 T.z5))) (And.intro (And.intro @Try.underlying28 T.c28) (And.intro T.g28 (And.intro T.b28 T.z28))))) (And.intro (And.intro (And.intro (And.intro T.s28 @Try.underlying41) (And.intro T.c41 (And.intro T.g41 T.b41))) (And.intro (And.intro T.z41 @Try.underlying43) (And.intro T.c43 (And.intro T.g43 T.b43)))) (And.intro (And.intro (And.intro T.z43 T.h43) (And.intro @Try.underlying44 (And.intro T.c44 T.g44))) (And.intro (And.intro T.b44 T.z44) (And.intro T.s44 (And.intro @Try.underlying45 T.c45)))))) (And.intro (And.intro (And.intro (And.intro (And.intro T.g45 T.b45) (And.intro T.z45 (And.intro T.s45 @Try.underlying47))) (And.intro (And.intro T.c47 T.g47) (And.intro T.b47 (And.intro T.z47 T.h47)))) (And.intro (And.intro (And.intro @Try.underlying49 T.c49) (And.intro T.g49 (And.intro T.b49 T.z49))) (And.intro (And.intro T.h49 @Try.underlying71) (And.intro T.c71 (And.intro T.g71 T.b71))))) (And.intro (And.intro (And.intro (And.intro T.z71 T.s71) (And.intro @Try.underlying73 (And.intro T.c73 T.g73))) (And.intro (And.intro T.b73 T.z73) (And.intro T.h73 (And.intro @Try.underlying75 T.c75)))) (And.intro (And.intro (And.intro T.g75 T.b75) (And.intro T.z75 (And.intro T.h75 T.f47_0))) (And.intro (And.intro T.f47_1 (And.intro T.f47_2 T.f49_4)) (And.intro T.f49_5 (And.intro T.k68 T.k33))))))) Try.ntmps36) :=
  (And.intro (And.intro (And.intro (And.intro (And.intro (And.intro (And.intro @Try.underlying3 T.c3) (And.intro T.g3 (And.intro T.b3 T.z3))) (And.intro (And.intro @Try.underlying4 T.c4) (And.intro T.g4 (And.intro T.b4 T.z4)))) (And.intro (And.intro (And.intro @Try.underlying5 T.c5) (And.intro T.g5 (And.intro T.b5 T.z5))) (And.intro (And.intro @Try.underlying28 T.c28) (And.intro T.g28 (And.intro T.b28 T.z28))))) (And.intro (And.intro (And.intro (And.intro T.s28 @Try.underlying41) (And.intro T.c41 (And.intro T.g41 T.b41))) (And.intro (And.intro T.z41 @Try.underlying43) (And.intro T.c43 (And.intro T.g43 T.b43)))) (And.intro (And.intro (And.intro T.z43 T.h43) (And.intro @Try.underlying44 (And.intro T.c44 T.g44))) (And.intro (And.intro T.b44 T.z44) (And.intro T.s44 (And.intro @Try.underlying45 T.c45)))))) (And.intro (And.intro (And.intro (And.intro (And.intro T.g45 T.b45) (And.intro T.z45 (And.intro T.s45 @Try.underlying47))) (And.intro (And.intro T.c47 T.g47) (And.intro T.b47 (And.intro T.z47 T.h47)))) (And.intro (And.intro (And.intro @Try.underlying49 T.c49) (And.intro T.g49 (And.intro T.b49 T.z49))) (And.intro (And.intro T.h49 @Try.underlying71) (And.intro T.c71 (And.intro T.g71 T.b71))))) (And.intro (And.intro (And.intro (And.intro T.z71 T.s71) (And.intro @Try.underlying73 (And.intro T.c73 T.g73))) (And.intro (And.intro T.b73 T.z73) (And.intro T.h73 (And.intro @Try.underlying75 T.c75)))) (And.intro (And.intro (And.intro T.g75 T.b75) (And.intro T.z75 (And.intro T.h75 T.f47_0))) (And.intro (And.intro T.f47_1 (And.intro T.f47_2 T.f49_4)) (And.intro T.f49_5 (And.intro T.k68 T.k33))))))) Try.ntmps36)
theorem RMsg418 : type_of% (And.intro (And.intro (And.intro (And.intro (And.intro (And.intro (And.intro @Try.underlying3 T.c3) (And.intro T.g3 T.b3)) (And.intro (And.intro T.z3 @Try.underlying4) (And.intro T.c4 T.g4))) (And.intro (And.intro (And.intro T.b4 T.z4) (And.intro @Try.underlying5 T.c5)) (And.intro (And.intro T.g5 T.b5) (And.intro T.z5 @Try.underlying28)))) (And.intro (And.intro (And.intro (And.intro T.c28 T.g28) (And.intro T.b28 T.z28)) (And.intro (And.intro T.s28 @Try.underlying41) (And.intro T.c41 T.g41))) (And.intro (And.intro (And.intro T.b41 T.z41) (And.intro @Try.underlying43 T.c43)) (And.intro (And.intro T.g43 T.b43) (And.intro T.z43 (And.intro T.h43 @Try.underlying44)))))) (And.intro (And.intro (And.intro (And.intro (And.intro T.c44 T.g44) (And.intro T.b44 T.z44)) (And.intro (And.intro T.s44 @Try.underlying45) (And.intro T.c45 T.g45))) (And.intro (And.intro (And.intro T.b45 T.z45) (And.intro T.s45 @Try.underlying47)) (And.intro (And.intro T.c47 T.g47) (And.intro T.b47 T.z47)))) (And.intro (And.intro (And.intro (And.intro T.h47 @Try.underlying49) (And.intro T.c49 T.g49)) (And.intro (And.intro T.b49 T.z49) (And.intro T.h49 T.f49_0))) (And.intro (And.intro (And.intro T.f49_1 T.f49_2) (And.intro T.f49_3 T.f49_6)) (And.intro (And.intro T.f49_7 T.k34) (And.intro T.k16 (And.intro T.k36 T.k32))))))) Try.ntmps18) :=
  (And.intro (And.intro (And.intro (And.intro (And.intro (And.intro (And.intro @Try.underlying3 T.c3) (And.intro T.g3 T.b3)) (And.intro (And.intro T.z3 @Try.underlying4) (And.intro T.c4 T.g4))) (And.intro (And.intro (And.intro T.b4 T.z4) (And.intro @Try.underlying5 T.c5)) (And.intro (And.intro T.g5 T.b5) (And.intro T.z5 @Try.underlying28)))) (And.intro (And.intro (And.intro (And.intro T.c28 T.g28) (And.intro T.b28 T.z28)) (And.intro (And.intro T.s28 @Try.underlying41) (And.intro T.c41 T.g41))) (And.intro (And.intro (And.intro T.b41 T.z41) (And.intro @Try.underlying43 T.c43)) (And.intro (And.intro T.g43 T.b43) (And.intro T.z43 (And.intro T.h43 @Try.underlying44)))))) (And.intro (And.intro (And.intro (And.intro (And.intro T.c44 T.g44) (And.intro T.b44 T.z44)) (And.intro (And.intro T.s44 @Try.underlying45) (And.intro T.c45 T.g45))) (And.intro (And.intro (And.intro T.b45 T.z45) (And.intro T.s45 @Try.underlying47)) (And.intro (And.intro T.c47 T.g47) (And.intro T.b47 T.z47)))) (And.intro (And.intro (And.intro (And.intro T.h47 @Try.underlying49) (And.intro T.c49 T.g49)) (And.intro (And.intro T.b49 T.z49) (And.intro T.h49 T.f49_0))) (And.intro (And.intro (And.intro T.f49_1 T.f49_2) (And.intro T.f49_3 T.f49_6)) (And.intro (And.intro T.f49_7 T.k34) (And.intro T.k16 (And.intro T.k36 T.k32))))))) Try.ntmps18)

variable {Γ : Nat → List AV}

set_option maxHeartbeats 4000000 in
set_option maxRecDepth 100000 in
theorem pathed_calls (c : CommitV) (hl : c.path.steps.length ≤ 2 ^ 61) (hls : ∀ x ∈ c.path.steps, x.seals.length ≤ 2 ^ 61) (s : AS) : ACalls Try.prog Γ 36 [.agg c.cells] s (fun r s' => r = .v (.bool (decide c.pathed)) ∧ s' = s) := by
  refine acalls_body Try.func36 rfl Try.ntmps36 Try.results36 (by simp) ?_
  obtain ⟨g, e, sd, ps, hp, ⟨pk, pp, pst⟩, cf, mb⟩ := c
  simp only at hl hls
  unfold CommitV.cells
  have hrow := fun i (h : i < pst.length) => row_at (c := StepV.cells) (k := 2) (fun _ => rfl) h
  generalize hX : rowC StepV.cells pst = X at *
  generalize hZ : rowC PropV.cells ps = Z at *
  refine awp_reg_frz 1 (by simp [dsts]) ?_
  intro K hK
  simp only [↓AXq_nil, ↓AXq_cons, pval, DX, Nat.reduceBEq, ↓DN, UP, DF, qSh, qCv, qIA, qIx, qSl, qBu, qCe, qOn, reduceCtorEq, ↓reduceIte, nLT, nLE, nEQ, nAdd, nMul, nPow, nSub, zLT, zLE, zNat, RMsg436]
  intro o ho
  refine hK _ _ o _ (by simp only [upd, nEQ, ↓reduceIte]) ho ?_
  clear hK K ho
  refine awp_reg_frz 3 (by simp [dsts]) ?_
  intro K hK
  simp only [↓AXq_nil, ↓AXq_cons, pval, DX, Nat.reduceBEq, ↓DN, UP, DF, qSh, qCv, qIA, qIx, qSl, qBu, qCe, qOn, reduceCtorEq, ↓reduceIte, nLT, nLE, nEQ, nAdd, nMul, nPow, nSub, zLT, zLE, zNat, RMsg436]
  intro o ho
  refine hK _ _ o _ (by simp only [upd, nEQ, ↓reduceIte]) ho ?_
  clear hK K ho
  refine awp_seq_k ?_
  intro K hK
  cases hp with
  | false =>
    refine awp_reg_seq ?_
    intro K hK
    simp only [↓DN, UP, DF, qSh, qCv, qIA, qIx, qSl, qBu, qCe, qOn, reduceCtorEq, ↓reduceIte, nLT, nLE, nEQ, nAdd, nMul, nPow, nSub, zLT, zLE, zNat, RMsg436]
    refine hK _ _ ?_
    clear hK K
    refine awp_cond_k ?_
    intro X Y hX hY
    simp only [↓DN, UP, DF, qSh, qCv, qIA, qIx, qSl, qBu, qCe, qOn, reduceCtorEq, ↓reduceIte, nLT, nLE, nEQ, nAdd, nMul, nPow, nSub, zLT, zLE, zNat, RMsg436, DB]
    refine hX ?_
    clear hX hY X Y
    have hno : decide (CommitV.pathed ⟨g, e, sd, ps, false, ⟨pk, pp, pst⟩, cf, mb⟩) = decide (pk = 0 ∧ pp.length = 0 ∧ pst.length = 0) :=
      decide_eq_decide.2 ⟨fun h => h.2 rfl, fun h => ⟨fun q => (by cases q), fun _ => h⟩⟩
    rw [hno] at hK ⊢
    rcases ff3 ((pk : Int) == 0) ((pp.length : Int) == 0) ((pst.length : Int) == 0) with hd | hd | hd | hd
    all_goals
      refine awp_reg_seq ?_
      intro K hK
      simp only [↓DN, UP, DF, qSh, qCv, qIA, qIx, qSl, qBu, qCe, qOn, reduceCtorEq, ↓reduceIte, nLT, nLE, nEQ, nAdd, nMul, nPow, nSub, zLT, zLE, zNat, RMsg436, hd]
      refine hK _ _ ?_
      clear hK K
      refine awp_ret ?_
      try simp only [thenQ, blockQ]
      simp only [retQ, AEnds, aresL, ares, List.toList_toArray, ↓upd_same]; try simp only [↓DN, UP, DF, qSh, qCv, qIA, qIx, qSl, qBu, qCe, qOn, reduceCtorEq, ↓reduceIte, nLT, nLE, nEQ, nAdd, nMul, nPow, nSub, zLT, zLE, zNat, RMsg436, DT]
      refine ⟨_, _, AV.weak.refl _, AS.le.refl _, ?_, rfl⟩
      simp only [beq_iff_eq, beq_eq_false_iff_ne, ne_eq] at hd
      congr 2
      symm
      first
        | exact decide_eq_true (by omega)
        | exact decide_eq_false (by omega)
  | true =>
    have hyes : decide (CommitV.pathed ⟨g, e, sd, ps, true, ⟨pk, pp, pst⟩, cf, mb⟩) = decide (PathV.right ⟨pk, pp, pst⟩) :=
      decide_eq_decide.2 ⟨fun h => h.1 rfl, fun h => ⟨fun _ => h, fun q => (by cases q)⟩⟩
    rw [hyes] at hK ⊢
    clear hyes
    refine awp_reg_seq ?_
    intro K hK
    simp only [↓DN, UP, DF, qSh, qCv, qIA, qIx, qSl, qBu, qCe, qOn, reduceCtorEq, ↓reduceIte, nLT, nLE, nEQ, nAdd, nMul, nPow, nSub, zLT, zLE, zNat, RMsg436]
    refine hK _ _ ?_
    clear hK K
    refine awp_cond_k ?_
    intro X Y hX hY
    simp only [↓DN, UP, DF, qSh, qCv, qIA, qIx, qSl, qBu, qCe, qOn, reduceCtorEq, ↓reduceIte, nLT, nLE, nEQ, nAdd, nMul, nPow, nSub, zLT, zLE, zNat, RMsg436, DB]
    refine hY ?_
    clear hX hY X Y
    refine awp_skip ?_
    refine hK _ _ ?_
    clear hK K
    refine awp_seq_k ?_
    intro K hK
    refine awp_reg_seq ?_
    intro K hK
    simp only [↓DN, UP, DF, qSh, qCv, qIA, qIx, qSl, qBu, qCe, qOn, reduceCtorEq, ↓reduceIte, nLT, nLE, nEQ, nAdd, nMul, nPow, nSub, zLT, zLE, zNat, RMsg436]
    refine hK _ _ ?_
    clear hK K
    refine awp_block ?_
    refine awp_loop (fun E s1 => ∃ i : Nat, i ≤ pst.length ∧ E 29 = .v (.int .i64 i) ∧ E 28 = .v (.int .i64 pst.length) ∧ E 27 = .sl 2 pst.length X .any ∧ E 3 = .rop [.v (.int .u64 pk), .sl 1 pp.length (pp.map byteV) .any, .sl 2 pst.length X .any] ∧ (∀ p ∈ pst.take i, p.right) ∧ s1 = s)
      (fun E _ => match E 29 with | .v (.int _ i) => pst.length - i.toNat | _ => 0) ?_ ?_
    · exact ⟨0, Nat.zero_le _, by simp only [upd, ↓reduceIte]; rfl, by simp only [upd, nEQ, ↓reduceIte], by simp only [upd, nEQ, ↓reduceIte], by simp only [upd, nEQ, ↓reduceIte], by simp, rfl⟩
    · rintro E1 s1 ⟨i, hi, g8, g7, g6, g1, hall, rfl⟩ -
      by_cases hi' : i < pst.length
      · refine awp_reg_seq ?_
        intro K hK
        simp only [↓DN, UP, DF, qSh, qCv, qIA, qIx, qSl, qBu, qCe, qOn, reduceCtorEq, ↓reduceIte, nLT, nLE, nEQ, nAdd, nMul, nPow, nSub, zLT, zLE, zNat, RMsg436, g8, g7, eye_lt_nat, decide_eq_true hi']
        refine hK _ _ ?_
        clear hK K
        refine awp_seq_k ?_
        intro K3 hK3
        refine awp_cond_k ?_
        intro X Y hX hY
        simp only [↓DN, UP, DF, qSh, qCv, qIA, qIx, qSl, qBu, qCe, qOn, reduceCtorEq, ↓reduceIte, nLT, nLE, nEQ, nAdd, nMul, nPow, nSub, zLT, zLE, zNat, RMsg436, DB]
        refine hX ?_
        clear hX hY X Y
        refine awp_skip ?_
        refine hK3 _ _ ?_
        clear hK3 K3
        refine awp_seq_k ?_
        intro K3 hK3
        refine awp_block ?_
        have hat := hrow i hi'
        have hge : (0 : Int) ≤ (i : Int) := by omega
        obtain ⟨y, hy⟩ : ∃ y, y = pst[i] := ⟨_, rfl⟩
        rw [← hy] at hat
        have hym : y ∈ pst := by rw [hy]; exact List.getElem_mem hi'
        have htk : y.right → ∀ x ∈ pst.take (i + 1), x.right := fun h => take_all hi' hall (by rw [← hy]; exact h)
        have hbad : ¬ y.right → decide (PathV.right ⟨pk, pp, pst⟩) = false := fun h => decide_eq_false fun hr => h (hr.1 y hym)
        have hst := fun s => step_calls (Γ := Γ) y (hls y hym) s
        clear hy
        obtain ⟨f, t⟩ := y
        unfold StepV.cells at hat hst
        generalize rowC SealV.cells t = T at *
        refine awp_reg_frz 5 (by simp [dsts]) ?_
        intro K2 hK2
        simp only [↓AXq_nil, ↓AXq_cons, pval, DX, Nat.reduceBEq, ↓DN, UP, DF, qSh, qCv, qIA, qIx, qSl, qBu, qCe, qOn, reduceCtorEq, ↓reduceIte, nLT, nLE, nEQ, nAdd, nMul, nPow, nSub, zLT, zLE, zNat, RMsg436, g8, g6, eye_lt_nat, hi', hge, hat]
        intro o ho
        refine hK2 _ _ o _ (by simp only [upd, nEQ, ↓reduceIte]) ho ?_
        clear hK2 K2 ho
        refine awp_reg_seq ?_
        intro K hK
        simp only [↓DN, UP, DF, qSh, qCv, qIA, qIx, qSl, qBu, qCe, qOn, reduceCtorEq, ↓reduceIte, nLT, nLE, nEQ, nAdd, nMul, nPow, nSub, zLT, zLE, zNat, RMsg436]
        refine acallk (hst _) ?_
        rintro r s2 ⟨rfl, rfl⟩
        by_cases h1 : StepV.right ⟨f, t⟩
        · simp only [↓AXq_nil, ↓AXq_cons, pval, DX, Nat.reduceBEq, ↓DN, UP, DF, qSh, qCv, qIA, qIx, qSl, qBu, qCe, qOn, reduceCtorEq, ↓reduceIte, nLT, nLE, nEQ, nAdd, nMul, nPow, nSub, zLT, zLE, zNat, RMsg436, decide_eq_true h1]
          refine hK _ _ ?_
          clear hK K
          refine awp_cond_k ?_
          intro X Y hX hY
          simp only [↓DN, UP, DF, qSh, qCv, qIA, qIx, qSl, qBu, qCe, qOn, reduceCtorEq, ↓reduceIte, nLT, nLE, nEQ, nAdd, nMul, nPow, nSub, zLT, zLE, zNat, RMsg436, DB]
          refine hY ?_
          clear hX hY X Y
          refine awp_skip ?_
          simp only [blockQ, thenQ, if_true, if_false]
          refine hK3 _ _ ?_
          clear hK3 K3
          refine awp_reg_end ?_
          intro K hK
          simp only [↓DN, UP, DF, qSh, qCv, qIA, qIx, qSl, qBu, qCe, qOn, reduceCtorEq, ↓reduceIte, nLT, nLE, nEQ, nAdd, nMul, nPow, nSub, zLT, zLE, zNat, RMsg436, g8, eye_succ i (by omega)]
          refine hK _ _ ?_
          clear hK K
          refine ⟨⟨i + 1, by omega, by simp only [upd, ↓reduceIte], by simp only [upd, g7, nEQ, ↓reduceIte], by simp only [upd, g6, nEQ, ↓reduceIte], by simp only [upd, g1, nEQ, ↓reduceIte], htk h1, rfl⟩, ?_⟩
          simp only [g8, upd, ↓reduceIte]
          omega
        · simp only [↓AXq_nil, ↓AXq_cons, pval, DX, Nat.reduceBEq, ↓DN, UP, DF, qSh, qCv, qIA, qIx, qSl, qBu, qCe, qOn, reduceCtorEq, ↓reduceIte, nLT, nLE, nEQ, nAdd, nMul, nPow, nSub, zLT, zLE, zNat, RMsg436, decide_eq_false h1]
          refine hK _ _ ?_
          clear hK K
          refine awp_cond_k ?_
          intro X Y hX hY
          simp only [↓DN, UP, DF, qSh, qCv, qIA, qIx, qSl, qBu, qCe, qOn, reduceCtorEq, ↓reduceIte, nLT, nLE, nEQ, nAdd, nMul, nPow, nSub, zLT, zLE, zNat, RMsg436, DB]
          refine hX ?_
          clear hX hY X Y
          refine awp_reg_seq ?_
          intro K hK
          simp only [↓DN, UP, DF, qSh, qCv, qIA, qIx, qSl, qBu, qCe, qOn, reduceCtorEq, ↓reduceIte, nLT, nLE, nEQ, nAdd, nMul, nPow, nSub, zLT, zLE, zNat, RMsg436]
          refine hK _ _ ?_
          clear hK K
          refine awp_ret ?_
          try simp only [thenQ, blockQ]
          simp only [retQ, AEnds, aresL, ares, List.toList_toArray, ↓upd_same]; try simp only [↓DN, UP, DF, qSh, qCv, qIA, qIx, qSl, qBu, qCe, qOn, reduceCtorEq, ↓reduceIte, nLT, nLE, nEQ, nAdd, nMul, nPow, nSub, zLT, zLE, zNat, RMsg436, DT]
          exact ⟨_, _, AV.weak.refl _, AS.le.refl _, by rw [hbad h1], rfl⟩
      · have hfull := take_full hi' hall
        refine awp_reg_seq ?_
        intro K hK
        simp only [↓DN, UP, DF, qSh, qCv, qIA, qIx, qSl, qBu, qCe, qOn, reduceCtorEq, ↓reduceIte, nLT, nLE, nEQ, nAdd, nMul, nPow, nSub, zLT, zLE, zNat, RMsg436, g8, g7, eye_lt_nat, decide_eq_false hi']
        refine hK _ _ ?_
        clear hK K
        refine awp_seq_k ?_
        intro K3 hK3
        refine awp_cond_k ?_
        intro X Y hX hY
        simp only [↓DN, UP, DF, qSh, qCv, qIA, qIx, qSl, qBu, qCe, qOn, reduceCtorEq, ↓reduceIte, nLT, nLE, nEQ, nAdd, nMul, nPow, nSub, zLT, zLE, zNat, RMsg436, DB]
        refine hY ?_
        clear hX hY X Y
        refine awp_exit ?_
        simp only [thenQ, blockQ, if_true]
        refine hK _ _ ?_
        clear hK K hK3 K3
        refine awp_reg_seq ?_
        intro K hK
        simp only [↓DN, UP, DF, qSh, qCv, qIA, qIx, qSl, qBu, qCe, qOn, reduceCtorEq, ↓reduceIte, nLT, nLE, nEQ, nAdd, nMul, nPow, nSub, zLT, zLE, zNat, RMsg436, g1]
        refine acallk (rightP_calls pk _) ?_
        rintro r s2 ⟨rfl, rfl⟩
        by_cases h1 : Pub pk
        · rcases tt2 ((pp.length : Int) == 0) ((pp.length : Int) == 32) with hd | hd | hd
          all_goals
            simp only [↓AXq_nil, ↓AXq_cons, pval, DX, Nat.reduceBEq, ↓DN, UP, DF, qSh, qCv, qIA, qIx, qSl, qBu, qCe, qOn, reduceCtorEq, ↓reduceIte, nLT, nLE, nEQ, nAdd, nMul, nPow, nSub, zLT, zLE, zNat, RMsg436, g1, decide_eq_true h1, hd]
            refine hK _ _ ?_
            clear hK K
            refine awp_ret ?_
            simp only [retQ, AEnds, aresL, ares, List.toList_toArray, ↓upd_same]; try simp only [↓DN, UP, DF, qSh, qCv, qIA, qIx, qSl, qBu, qCe, qOn, reduceCtorEq, ↓reduceIte, nLT, nLE, nEQ, nAdd, nMul, nPow, nSub, zLT, zLE, zNat, RMsg436, DT]
            refine ⟨_, _, AV.weak.refl _, AS.le.refl _, ?_, rfl⟩
            simp only [beq_iff_eq, beq_eq_false_iff_ne, ne_eq] at hd
          · congr 2
            exact decide_eq_decide.2 ⟨fun h => ⟨hfull, h1, Or.inl (by simp only; omega), by simp only; omega⟩, fun h => by have := h.2.2.2; simp only at this; omega⟩
          · congr 2
            exact decide_eq_decide.2 ⟨fun h => ⟨hfull, h1, Or.inr (by simp only; omega), by simp only; omega⟩, fun h => by have := h.2.2.2; simp only at this; omega⟩
          · congr 2
            symm
            exact decide_eq_false fun h => by have := h.2.2.1; simp only at this; omega
        · simp only [↓AXq_nil, ↓AXq_cons, pval, DX, Nat.reduceBEq, ↓DN, UP, DF, qSh, qCv, qIA, qIx, qSl, qBu, qCe, qOn, reduceCtorEq, ↓reduceIte, nLT, nLE, nEQ, nAdd, nMul, nPow, nSub, zLT, zLE, zNat, RMsg436, g1, decide_eq_false h1]
          refine hK _ _ ?_
          clear hK K
          refine awp_ret ?_
          simp only [retQ, AEnds, aresL, ares, List.toList_toArray, ↓upd_same]; try simp only [↓DN, UP, DF, qSh, qCv, qIA, qIx, qSl, qBu, qCe, qOn, reduceCtorEq, ↓reduceIte, nLT, nLE, nEQ, nAdd, nMul, nPow, nSub, zLT, zLE, zNat, RMsg436, DT]
          exact ⟨_, _, AV.weak.refl _, AS.le.refl _, by rw [decide_eq_false fun h => h1 h.2.1], rfl⟩

def CommitV.fits (c : CommitV) : Prop := c.props.length ≤ 2 ^ 61 ∧ c.path.steps.length ≤ 2 ^ 61 ∧ ∀ x ∈ c.path.steps, x.seals.length ≤ 2 ^ 61

set_option maxHeartbeats 4000000 in
set_option maxRecDepth 100000 in
theorem mright_calls (c : CommitV) (hf : CommitV.fits c) (s : AS) : ACalls Try.prog Γ 18 [.agg c.cells] s (fun r s' => r = .v (.bool (decide c.right)) ∧ s' = s) := by
  refine acalls_body Try.func18 rfl Try.ntmps18 Try.results18 (by simp) ?_
  have hpa := fun s => pathed_calls (Γ := Γ) c hf.2.1 hf.2.2 s
  have hl := hf.1
  clear hf
  obtain ⟨b, hb⟩ : ∃ b, b = decide c.pathed := ⟨_, rfl⟩
  rw [← hb] at hpa
  have hbp : c.pathed ↔ b = true := by rw [hb]; exact (decide_eq_true_iff).symm
  have hR : (∀ x ∈ c.props, x.right) → decide c.right = decide ((1 ≤ c.group.length ∧ c.group.length ≤ 16) ∧ (0 ≤ c.epoch ∧ c.epoch ≤ 1048576) ∧ (0 ≤ c.sender ∧ c.sender < 32) ∧ c.props.length ≤ 16 ∧ b = true ∧ c.confirm.length = 32 ∧ c.member.length = 32) := by
    intro h
    refine decide_eq_decide.2 ⟨fun q => ?_, fun q => ?_⟩
    · obtain ⟨_, q1, q2, q3, q4, q5, q6⟩ := q
      exact ⟨q1, q2, q3, q4, hbp.1 q5, q6⟩
    · obtain ⟨q1, q2, q3, q4, q5, q6⟩ := q
      exact ⟨h, q1, q2, q3, q4, hbp.2 q5, q6⟩
  have hbad0 : ∀ y, y ∈ c.props → ¬ y.right → decide c.right = false := fun y hy h => decide_eq_false fun q => h (q.1 y hy)
  generalize decide c.right = R at *
  clear hb hbp
  obtain ⟨g, e, sd, ps, hp, ⟨pk, pp, pst⟩, cf, mb⟩ := c
  simp only at hl hR hbad0
  unfold CommitV.cells at hpa ⊢
  have hrow := fun i (h : i < ps.length) => row_at (c := PropV.cells) (k := 5) (fun _ => rfl) h
  generalize hX : rowC StepV.cells pst = X at *
  generalize hZ : rowC PropV.cells ps = Z at *
  refine awp_reg_frz 1 (by simp [dsts]) ?_
  intro K hK
  simp only [↓AXq_nil, ↓AXq_cons, pval, DX, Nat.reduceBEq, ↓DN, UP, DF, qSh, qCv, qIA, qIx, qSl, qBu, qCe, qOn, reduceCtorEq, ↓reduceIte, nLT, nLE, nEQ, nAdd, nMul, nPow, nSub, zLT, zLE, zNat, RMsg418]
  intro o ho
  refine hK _ _ o _ (by simp only [upd, nEQ, ↓reduceIte]) ho ?_
  clear hK K ho
  refine awp_seq_k ?_
  intro K hK
  refine awp_reg_seq ?_
  intro K hK
  simp only [↓DN, UP, DF, qSh, qCv, qIA, qIx, qSl, qBu, qCe, qOn, reduceCtorEq, ↓reduceIte, nLT, nLE, nEQ, nAdd, nMul, nPow, nSub, zLT, zLE, zNat, RMsg418]
  refine hK _ _ ?_
  clear hK K
  refine awp_block ?_
  refine awp_loop (fun E s1 => ∃ i : Nat, i ≤ ps.length ∧ E 8 = .v (.int .i64 i) ∧ E 7 = .v (.int .i64 ps.length) ∧ E 6 = .sl 5 ps.length Z .any ∧ E 1 = .rop [.sl 1 g.length (g.map byteV) .any, .v (.int .i64 e), .v (.int .i64 sd), .sl 5 ps.length Z .any, .v (.bool hp), .v (.int .u64 pk), .sl 1 pp.length (pp.map byteV) .any, .sl 2 pst.length X .any, .sl 1 cf.length (cf.map byteV) .any, .sl 1 mb.length (mb.map byteV) .any] ∧ (∀ p ∈ ps.take i, p.right) ∧ s1 = s)
    (fun E _ => match E 8 with | .v (.int _ i) => ps.length - i.toNat | _ => 0) ?_ ?_
  · exact ⟨0, Nat.zero_le _, by simp only [upd, ↓reduceIte]; rfl, by simp only [upd, nEQ, ↓reduceIte], by simp only [upd, nEQ, ↓reduceIte], by simp only [upd, nEQ, ↓reduceIte], by simp, rfl⟩
  · rintro E1 s1 ⟨i, hi, g8, g7, g6, g1, hall, rfl⟩ -
    by_cases hi' : i < ps.length
    · refine awp_reg_seq ?_
      intro K hK
      simp only [↓DN, UP, DF, qSh, qCv, qIA, qIx, qSl, qBu, qCe, qOn, reduceCtorEq, ↓reduceIte, nLT, nLE, nEQ, nAdd, nMul, nPow, nSub, zLT, zLE, zNat, RMsg418, g8, g7, eye_lt_nat, decide_eq_true hi']
      refine hK _ _ ?_
      clear hK K
      refine awp_seq_k ?_
      intro K3 hK3
      refine awp_cond_k ?_
      intro X Y hX hY
      simp only [↓DN, UP, DF, qSh, qCv, qIA, qIx, qSl, qBu, qCe, qOn, reduceCtorEq, ↓reduceIte, nLT, nLE, nEQ, nAdd, nMul, nPow, nSub, zLT, zLE, zNat, RMsg418, DB]
      refine hX ?_
      clear hX hY X Y
      refine awp_skip ?_
      refine hK3 _ _ ?_
      clear hK3 K3
      refine awp_seq_k ?_
      intro K3 hK3
      refine awp_block ?_
      have hat := hrow i hi'
      have hge : (0 : Int) ≤ (i : Int) := by omega
      obtain ⟨y, hy⟩ : ∃ y, y = ps[i] := ⟨_, rfl⟩
      rw [← hy] at hat
      have hym : y ∈ ps := by rw [hy]; exact List.getElem_mem hi'
      have htk : y.right → ∀ x ∈ ps.take (i + 1), x.right := fun h => take_all hi' hall (by rw [← hy]; exact h)
      have hbad := hbad0 y hym
      have hst := fun s => proper_calls (Γ := Γ) y s
      clear hy
      obtain ⟨pk1, pk2, pk3, pk4, pk5⟩ := y
      unfold PropV.cells at hat hst
      refine awp_reg_frz 4 (by simp [dsts]) ?_
      intro K2 hK2
      simp only [↓AXq_nil, ↓AXq_cons, pval, DX, Nat.reduceBEq, ↓DN, UP, DF, qSh, qCv, qIA, qIx, qSl, qBu, qCe, qOn, reduceCtorEq, ↓reduceIte, nLT, nLE, nEQ, nAdd, nMul, nPow, nSub, zLT, zLE, zNat, RMsg418, g8, g6, eye_lt_nat, hi', hge, hat]
      intro o ho
      refine hK2 _ _ o _ (by simp only [upd, nEQ, ↓reduceIte]) ho ?_
      clear hK2 K2 ho
      refine awp_reg_seq ?_
      intro K hK
      simp only [↓DN, UP, DF, qSh, qCv, qIA, qIx, qSl, qBu, qCe, qOn, reduceCtorEq, ↓reduceIte, nLT, nLE, nEQ, nAdd, nMul, nPow, nSub, zLT, zLE, zNat, RMsg418]
      refine acallk (hst _) ?_
      rintro r s2 ⟨rfl, rfl⟩
      by_cases h1 : PropV.right ⟨pk1, pk2, pk3, pk4, pk5⟩
      · simp only [↓AXq_nil, ↓AXq_cons, pval, DX, Nat.reduceBEq, ↓DN, UP, DF, qSh, qCv, qIA, qIx, qSl, qBu, qCe, qOn, reduceCtorEq, ↓reduceIte, nLT, nLE, nEQ, nAdd, nMul, nPow, nSub, zLT, zLE, zNat, RMsg418, decide_eq_true h1]
        refine hK _ _ ?_
        clear hK K
        refine awp_cond_k ?_
        intro X Y hX hY
        simp only [↓DN, UP, DF, qSh, qCv, qIA, qIx, qSl, qBu, qCe, qOn, reduceCtorEq, ↓reduceIte, nLT, nLE, nEQ, nAdd, nMul, nPow, nSub, zLT, zLE, zNat, RMsg418, DB]
        refine hY ?_
        clear hX hY X Y
        refine awp_skip ?_
        simp only [blockQ, thenQ, if_true, if_false]
        refine hK3 _ _ ?_
        clear hK3 K3
        refine awp_reg_end ?_
        intro K hK
        simp only [↓DN, UP, DF, qSh, qCv, qIA, qIx, qSl, qBu, qCe, qOn, reduceCtorEq, ↓reduceIte, nLT, nLE, nEQ, nAdd, nMul, nPow, nSub, zLT, zLE, zNat, RMsg418, g8, eye_succ i (by omega)]
        refine hK _ _ ?_
        clear hK K
        refine ⟨⟨i + 1, by omega, by simp only [upd, ↓reduceIte], by simp only [upd, g7, nEQ, ↓reduceIte], by simp only [upd, g6, nEQ, ↓reduceIte], by simp only [upd, g1, nEQ, ↓reduceIte], htk h1, rfl⟩, ?_⟩
        simp only [g8, upd, ↓reduceIte]
        omega
      · simp only [↓AXq_nil, ↓AXq_cons, pval, DX, Nat.reduceBEq, ↓DN, UP, DF, qSh, qCv, qIA, qIx, qSl, qBu, qCe, qOn, reduceCtorEq, ↓reduceIte, nLT, nLE, nEQ, nAdd, nMul, nPow, nSub, zLT, zLE, zNat, RMsg418, decide_eq_false h1]
        refine hK _ _ ?_
        clear hK K
        refine awp_cond_k ?_
        intro X Y hX hY
        simp only [↓DN, UP, DF, qSh, qCv, qIA, qIx, qSl, qBu, qCe, qOn, reduceCtorEq, ↓reduceIte, nLT, nLE, nEQ, nAdd, nMul, nPow, nSub, zLT, zLE, zNat, RMsg418, DB]
        refine hX ?_
        clear hX hY X Y
        refine awp_reg_seq ?_
        intro K hK
        simp only [↓DN, UP, DF, qSh, qCv, qIA, qIx, qSl, qBu, qCe, qOn, reduceCtorEq, ↓reduceIte, nLT, nLE, nEQ, nAdd, nMul, nPow, nSub, zLT, zLE, zNat, RMsg418]
        refine hK _ _ ?_
        clear hK K
        refine awp_ret ?_
        try simp only [thenQ, blockQ]
        simp only [retQ, AEnds, aresL, ares, List.toList_toArray, ↓upd_same]; try simp only [↓DN, UP, DF, qSh, qCv, qIA, qIx, qSl, qBu, qCe, qOn, reduceCtorEq, ↓reduceIte, nLT, nLE, nEQ, nAdd, nMul, nPow, nSub, zLT, zLE, zNat, RMsg418, DT]
        exact ⟨_, _, AV.weak.refl _, AS.le.refl _, by rw [hbad h1], rfl⟩
    · have hR := hR (take_full hi' hall)
      clear hbad0
      refine awp_reg_seq ?_
      intro K hK
      simp only [↓DN, UP, DF, qSh, qCv, qIA, qIx, qSl, qBu, qCe, qOn, reduceCtorEq, ↓reduceIte, nLT, nLE, nEQ, nAdd, nMul, nPow, nSub, zLT, zLE, zNat, RMsg418, g8, g7, eye_lt_nat, decide_eq_false hi']
      refine hK _ _ ?_
      clear hK K
      refine awp_seq_k ?_
      intro K3 hK3
      refine awp_cond_k ?_
      intro X Y hX hY
      simp only [↓DN, UP, DF, qSh, qCv, qIA, qIx, qSl, qBu, qCe, qOn, reduceCtorEq, ↓reduceIte, nLT, nLE, nEQ, nAdd, nMul, nPow, nSub, zLT, zLE, zNat, RMsg418, DB]
      refine hY ?_
      clear hX hY X Y
      refine awp_exit ?_
      simp only [thenQ, blockQ, if_true]
      refine hK _ _ ?_
      clear hK K hK3 K3
      refine awp_reg_seq ?_
      intro K hK
      simp only [↓DN, UP, DF, qSh, qCv, qIA, qIx, qSl, qBu, qCe, qOn, reduceCtorEq, ↓reduceIte, nLT, nLE, nEQ, nAdd, nMul, nPow, nSub, zLT, zLE, zNat, RMsg418, g1]
      refine acallk (named_calls g _) ?_
      rintro r s2 ⟨rfl, rfl⟩
      by_cases h1 : 1 ≤ g.length ∧ g.length ≤ 16
      · rcases ff2 (decide (0 ≤ e)) (decide (e ≤ 1048576)) with hd | hd | hd
        case inr.inr =>
          simp only [↓AXq_nil, ↓AXq_cons, pval, DX, Nat.reduceBEq, ↓DN, UP, DF, qSh, qCv, qIA, qIx, qSl, qBu, qCe, qOn, reduceCtorEq, ↓reduceIte, nLT, nLE, nEQ, nAdd, nMul, nPow, nSub, zLT, zLE, zNat, RMsg418, g1, decide_eq_true h1, hd]
          refine acallk (leaf_calls sd _) ?_
          rintro r s3 ⟨rfl, rfl⟩
          simp only [decide_eq_true_eq] at hd
          by_cases h2 : 0 ≤ sd ∧ sd < 32
          · by_cases h3 : ps.length ≤ 16
            · simp only [↓AXq_nil, ↓AXq_cons, pval, DX, Nat.reduceBEq, ↓DN, UP, DF, qSh, qCv, qIA, qIx, qSl, qBu, qCe, qOn, reduceCtorEq, ↓reduceIte, nLT, nLE, nEQ, nAdd, nMul, nPow, nSub, zLT, zLE, zNat, RMsg418, g1, decide_eq_true h2, decide_eq_true (show (ps.length : Int) ≤ 16 by omega)]
              refine acallk (hpa _) ?_
              rintro r s4 ⟨rfl, rfl⟩
              cases b with
              | true =>
                rcases ff2 ((cf.length : Int) == 32) ((mb.length : Int) == 32) with hd2 | hd2 | hd2
                all_goals
                  simp only [↓AXq_nil, ↓AXq_cons, pval, DX, Nat.reduceBEq, ↓DN, UP, DF, qSh, qCv, qIA, qIx, qSl, qBu, qCe, qOn, reduceCtorEq, ↓reduceIte, nLT, nLE, nEQ, nAdd, nMul, nPow, nSub, zLT, zLE, zNat, RMsg418, g1, hd2]
                  refine hK _ _ ?_
                  clear hK K
                  refine awp_ret ?_
                  simp only [retQ, AEnds, aresL, ares, List.toList_toArray, ↓upd_same]; try simp only [↓DN, UP, DF, qSh, qCv, qIA, qIx, qSl, qBu, qCe, qOn, reduceCtorEq, ↓reduceIte, nLT, nLE, nEQ, nAdd, nMul, nPow, nSub, zLT, zLE, zNat, RMsg418, DT]
                  refine ⟨_, _, AV.weak.refl _, AS.le.refl _, ?_, rfl⟩
                  simp only [beq_iff_eq, beq_eq_false_iff_ne, ne_eq] at hd2
                  rw [hR]
                  congr 2
                  symm
                  first
                    | exact decide_eq_true ⟨h1, hd, h2, h3, rfl, by omega, by omega⟩
                    | exact decide_eq_false fun h => by omega
              | false =>
                simp only [↓AXq_nil, ↓AXq_cons, pval, DX, Nat.reduceBEq, ↓DN, UP, DF, qSh, qCv, qIA, qIx, qSl, qBu, qCe, qOn, reduceCtorEq, ↓reduceIte, nLT, nLE, nEQ, nAdd, nMul, nPow, nSub, zLT, zLE, zNat, RMsg418, g1]
                refine hK _ _ ?_
                clear hK K
                refine awp_ret ?_
                simp only [retQ, AEnds, aresL, ares, List.toList_toArray, ↓upd_same]; try simp only [↓DN, UP, DF, qSh, qCv, qIA, qIx, qSl, qBu, qCe, qOn, reduceCtorEq, ↓reduceIte, nLT, nLE, nEQ, nAdd, nMul, nPow, nSub, zLT, zLE, zNat, RMsg418, DT]
                exact ⟨_, _, AV.weak.refl _, AS.le.refl _, by rw [hR]; simp, rfl⟩
            · simp only [↓AXq_nil, ↓AXq_cons, pval, DX, Nat.reduceBEq, ↓DN, UP, DF, qSh, qCv, qIA, qIx, qSl, qBu, qCe, qOn, reduceCtorEq, ↓reduceIte, nLT, nLE, nEQ, nAdd, nMul, nPow, nSub, zLT, zLE, zNat, RMsg418, g1, decide_eq_true h2, decide_eq_false (show ¬ (ps.length : Int) ≤ 16 by omega)]
              refine hK _ _ ?_
              clear hK K
              refine awp_ret ?_
              simp only [retQ, AEnds, aresL, ares, List.toList_toArray, ↓upd_same]; try simp only [↓DN, UP, DF, qSh, qCv, qIA, qIx, qSl, qBu, qCe, qOn, reduceCtorEq, ↓reduceIte, nLT, nLE, nEQ, nAdd, nMul, nPow, nSub, zLT, zLE, zNat, RMsg418, DT]
              exact ⟨_, _, AV.weak.refl _, AS.le.refl _, by rw [hR, decide_eq_false fun h => h3 h.2.2.2.1], rfl⟩
          · simp only [↓AXq_nil, ↓AXq_cons, pval, DX, Nat.reduceBEq, ↓DN, UP, DF, qSh, qCv, qIA, qIx, qSl, qBu, qCe, qOn, reduceCtorEq, ↓reduceIte, nLT, nLE, nEQ, nAdd, nMul, nPow, nSub, zLT, zLE, zNat, RMsg418, g1, decide_eq_false h2]
            refine hK _ _ ?_
            clear hK K
            refine awp_ret ?_
            simp only [retQ, AEnds, aresL, ares, List.toList_toArray, ↓upd_same]; try simp only [↓DN, UP, DF, qSh, qCv, qIA, qIx, qSl, qBu, qCe, qOn, reduceCtorEq, ↓reduceIte, nLT, nLE, nEQ, nAdd, nMul, nPow, nSub, zLT, zLE, zNat, RMsg418, DT]
            exact ⟨_, _, AV.weak.refl _, AS.le.refl _, by rw [hR, decide_eq_false fun h => h2 h.2.2.1], rfl⟩
        all_goals
          simp only [↓AXq_nil, ↓AXq_cons, pval, DX, Nat.reduceBEq, ↓DN, UP, DF, qSh, qCv, qIA, qIx, qSl, qBu, qCe, qOn, reduceCtorEq, ↓reduceIte, nLT, nLE, nEQ, nAdd, nMul, nPow, nSub, zLT, zLE, zNat, RMsg418, g1, decide_eq_true h1, hd]
          refine hK _ _ ?_
          clear hK K
          refine awp_ret ?_
          simp only [retQ, AEnds, aresL, ares, List.toList_toArray, ↓upd_same]; try simp only [↓DN, UP, DF, qSh, qCv, qIA, qIx, qSl, qBu, qCe, qOn, reduceCtorEq, ↓reduceIte, nLT, nLE, nEQ, nAdd, nMul, nPow, nSub, zLT, zLE, zNat, RMsg418, DT]
          refine ⟨_, _, AV.weak.refl _, AS.le.refl _, ?_, rfl⟩
          simp only [decide_eq_true_eq, decide_eq_false_iff_not] at hd
          rw [hR, decide_eq_false fun h => by have := h.2.1; omega]
      · simp only [↓AXq_nil, ↓AXq_cons, pval, DX, Nat.reduceBEq, ↓DN, UP, DF, qSh, qCv, qIA, qIx, qSl, qBu, qCe, qOn, reduceCtorEq, ↓reduceIte, nLT, nLE, nEQ, nAdd, nMul, nPow, nSub, zLT, zLE, zNat, RMsg418, g1, decide_eq_false h1]
        refine hK _ _ ?_
        clear hK K
        refine awp_ret ?_
        simp only [retQ, AEnds, aresL, ares, List.toList_toArray, ↓upd_same]; try simp only [↓DN, UP, DF, qSh, qCv, qIA, qIx, qSl, qBu, qCe, qOn, reduceCtorEq, ↓reduceIte, nLT, nLE, nEQ, nAdd, nMul, nPow, nSub, zLT, zLE, zNat, RMsg418, DT]
        exact ⟨_, _, AV.weak.refl _, AS.le.refl _, by rw [hR, decide_eq_false fun h => h1 h.1], rfl⟩

end Go.Proofs.Ytooeklnbdgoneaa


set_option autoImplicit false
namespace Go.Proofs.Ytooeklnbdgoneaa
open Go Go.AM Go.Proofs

theorem RMsg573 : type_of% (And.intro (And.intro (And.intro (And.intro (And.intro (And.intro @Try.underlying4 T.c4) (And.intro T.g4 (And.intro T.b4 T.z4))) (And.intro (And.intro @Try.underlying5 T.c5) (And.intro T.g5 (And.intro T.b5 T.z5)))) (And.intro (And.intro (And.intro @Try.underlying28 T.c28) (And.intro T.g28 (And.intro T.b28 T.z28))) (And.intro (And.intro T.s28 (And.intro @Try.underlying41 T.c41)) (And.intro T.g41 (And.intro T.b41 T.z41))))) (And.intro (And.intro (And.intro (And.intro @Try.underlying75 T.c75) (And.intro T.g75 (And.intro T.b75 T.z75))) (And.intro (And.intro T.h75 (And.intro @Try.underlying76 T.c76)) (And.intro T.g76 (And.intro T.b76 T.z76)))) (And.intro (And.intro (And.intro T.p76 @Try.underlying110) (And.intro T.c110 (And.intro T.g110 T.b110))) (And.intro (And.intro T.z110 (And.intro T.h110 T.f75_0)) (And.intro T.f75_1 (And.intro T.k81 T.k42)))))) Try.ntmps73) :=
  (And.intro (And.intro (And.intro (And.intro (And.intro (And.intro @Try.underlying4 T.c4) (And.intro T.g4 (And.intro T.b4 T.z4))) (And.intro (And.intro @Try.underlying5 T.c5) (And.intro T.g5 (And.intro T.b5 T.z5)))) (And.intro (And.intro (And.intro @Try.underlying28 T.c28) (And.intro T.g28 (And.intro T.b28 T.z28))) (And.intro (And.intro T.s28 (And.intro @Try.underlying41 T.c41)) (And.intro T.g41 (And.intro T.b41 T.z41))))) (And.intro (And.intro (And.intro (And.intro @Try.underlying75 T.c75) (And.intro T.g75 (And.intro T.b75 T.z75))) (And.intro (And.intro T.h75 (And.intro @Try.underlying76 T.c76)) (And.intro T.g76 (And.intro T.b76 T.z76)))) (And.intro (And.intro (And.intro T.p76 @Try.underlying110) (And.intro T.c110 (And.intro T.g110 T.b110))) (And.intro (And.intro T.z110 (And.intro T.h110 T.f75_0)) (And.intro T.f75_1 (And.intro T.k81 T.k42)))))) Try.ntmps73)
variable {Γ : Nat → List AV}

set_option maxHeartbeats 400000 in
theorem hWrite_calls (s0 s : AS) (p : Nat) (st : List UInt8 × Bool) (f : Nat) (t : List UInt8) (hf : f < 2 ^ 64) (hl : st.1.length + t.length + 20 ≤ 2 ^ 45) (h : PenS s0 s p st) :
    ACalls Try.prog Γ 73 [.ptr p 0, .agg [.v (.int .u64 f), bytesV t .any]] s (fun r s' => r = .tup [] ∧ PenS s0 s' p (penText 2 t (penNum 8 f st))) := by
  refine acalls_body Try.func73 rfl Try.ntmps73 Try.results73 (by simp) ?_
  refine awp_reg_frz 3 (by simp [dsts]) ?_
  intro K hK
  simp only [↓AXq_nil, ↓AXq_cons, pval, DX, Nat.reduceBEq, ↓DN, UP, DF, qSh, qCv, qIA, qIx, qSl, qBu, qCe, qOn, reduceCtorEq, ↓reduceIte, nLT, nLE, nEQ, nAdd, nMul, nPow, nSub, zLT, zLE, zNat, RMsg573]
  intro o ho
  refine hK _ _ o _ (by simp only [upd, nEQ, ↓reduceIte]) ho ?_
  clear hK K ho
  refine awp_reg_seq ?_
  intro K hK
  simp only [↓DN, UP, DF, qSh, qCv, qIA, qIx, qSl, qBu, qCe, qOn, reduceCtorEq, ↓reduceIte, nLT, nLE, nEQ, nAdd, nMul, nPow, nSub, zLT, zLE, zNat, RMsg573]
  refine acallk (penU64_calls s0 s p st f hf (by omega) h) ?_
  rintro r s1 ⟨rfl, h1⟩
  simp only [↓AXq_nil, ↓AXq_cons, pval, DX, Nat.reduceBEq, ↓DN, UP, DF, qSh, qCv, qIA, qIx, qSl, qBu, qCe, qOn, reduceCtorEq, ↓reduceIte, nLT, nLE, nEQ, nAdd, nMul, nPow, nSub, zLT, zLE, zNat, RMsg573]
  refine hK _ _ ?_
  clear hK K
  have hl2 : (penNum 8 f st).1.length ≤ st.1.length + 8 := by
    rw [penNum_raw]; unfold penRaw; split <;> simp
  refine awp_reg_end ?_
  intro K hK
  simp only [↓DN, UP, DF, qSh, qCv, qIA, qIx, qSl, qBu, qCe, qOn, reduceCtorEq, ↓reduceIte, nLT, nLE, nEQ, nAdd, nMul, nPow, nSub, zLT, zLE, zNat, RMsg573]
  refine acallk (penLong_calls s0 s1 p _ _ t (IsB.any t) (by omega) h1) ?_
  rintro r s2 ⟨rfl, h2⟩
  simp only [↓AXq_nil, ↓AXq_cons, pval, DX, Nat.reduceBEq, ↓DN, UP, DF, qSh, qCv, qIA, qIx, qSl, qBu, qCe, qOn, reduceCtorEq, ↓reduceIte, nLT, nLE, nEQ, nAdd, nMul, nPow, nSub, zLT, zLE, zNat, RMsg573]
  refine hK _ _ ?_
  clear hK K
  simp only [retQ, AEnds, aresL, ares, List.toList_toArray, ↓upd_same]; try simp only [↓DN, UP, DF, qSh, qCv, qIA, qIx, qSl, qBu, qCe, qOn, reduceCtorEq, ↓reduceIte, nLT, nLE, nEQ, nAdd, nMul, nPow, nSub, zLT, zLE, zNat, RMsg573, DT]
  exact ⟨_, _, AV.weak.refl _, AS.le.refl _, rfl, h2⟩

end Go.Proofs.Ytooeklnbdgoneaa


set_option autoImplicit false
namespace Go.AM
open Go

def txt (k : Nat) (l : List UInt8) : List UInt8 := be k l.length ++ l
def PropV.body (p : PropV) : List UInt8 := if p.kind = 1 then txt 1 p.name ++ (be 8 p.key ++ be 8 p.init) else if p.kind = 2 then be 1 p.leaf.toNat ++ be 8 p.key else be 1 p.leaf.toNat
def PropV.text (p : PropV) : List UInt8 := be 1 p.kind.toNat ++ p.body
def SealV.wtext (x : SealV) : List UInt8 := be 8 x.frm ++ txt 2 x.text
def flatT {α : Type} (f : α → List UInt8) (l : List α) : List UInt8 := (l.map f).flatten
def StepV.text (x : StepV) : List UInt8 := be 8 x.key ++ (be 1 x.seals.length ++ flatT SealV.wtext x.seals)
def PathV.text (x : PathV) : List UInt8 := be 8 x.key ++ (txt 1 x.parent ++ (be 1 x.steps.length ++ flatT StepV.text x.steps))
def CommitV.tail (c : CommitV) : List UInt8 := if c.hasPath then be 1 1 ++ c.path.text else be 1 0
def CommitV.content (c : CommitV) : List UInt8 :=
  be 1 1 ++ (txt 1 c.group ++ (be 8 c.epoch.toNat ++ (be 1 c.sender.toNat ++ (be 1 c.props.length ++ (flatT PropV.text c.props ++ c.tail)))))
def CommitV.text (c : CommitV) : List UInt8 := c.content ++ (txt 1 c.confirm ++ txt 1 c.member)

theorem flatT_take {α : Type} (f : α → List UInt8) {l : List α} {i : Nat} (h : i < l.length) : flatT f (l.take (i + 1)) = flatT f (l.take i) ++ f l[i] := by
  unfold flatT
  rw [List.take_succ_eq_append_getElem h, List.map_append, List.flatten_append]
  simp only [List.map_cons, List.map_nil, List.flatten_cons, List.flatten_nil, List.append_nil]
theorem flatT_len {α : Type} {f : α → List UInt8} {n : Nat} : ∀ {l : List α}, (∀ x ∈ l, (f x).length ≤ n) → (flatT f l).length ≤ l.length * n
  | [], _ => by simp [flatT]
  | a :: l, h => by
    have ih := flatT_len (l := l) fun x hx => h x (by simp [hx])
    have h1 := h a (by simp)
    have : flatT f (a :: l) = f a ++ flatT f l := rfl
    rw [this, List.length_append, List.length_cons, Nat.succ_mul]
    omega
theorem txt_len (k : Nat) (l : List UInt8) : (txt k l).length = k + l.length := by simp [txt]
theorem SealV.wtext_len {x : SealV} (h : x.right) : x.wtext.length ≤ 58 := by
  have := h.2
  simp [SealV.wtext, txt_len]; omega
theorem StepV.text_len {x : StepV} (h : x.right) : x.text.length ≤ 1865 := by
  have h1 := flatT_len (f := SealV.wtext) (n := 58) fun y hy => SealV.wtext_len (h.1 y hy)
  have h2 := h.2.2
  have h3 : x.seals.length * 58 ≤ 32 * 58 := Nat.mul_le_mul_right _ h2
  simp [StepV.text]; omega
theorem PathV.text_len {x : PathV} (h : x.right) : x.text.length ≤ 9400 := by
  have h1 := flatT_len (f := StepV.text) (n := 1865) fun y hy => StepV.text_len (h.1 y hy)
  have h2 := h.2.2.2
  have h4 := h.2.2.1
  have h3 : x.steps.length * 1865 ≤ 5 * 1865 := Nat.mul_le_mul_right _ h2
  simp [PathV.text, txt_len]; omega
theorem PropV.text_len {x : PropV} (h : x.right) : x.text.length ≤ 40 := by
  unfold PropV.text PropV.body
  rcases h with ⟨h1, h2, h3, h4, _⟩ | ⟨h1, h2, h3, h4, _⟩ | ⟨h1, h2, h3, h4, _⟩
  · rw [if_pos h1]; simp [txt_len]; omega
  · rw [if_neg (by omega), if_pos h1]; simp
  · rw [if_neg (by omega), if_neg (by omega)]; simp
theorem CommitV.content_len {c : CommitV} (h : c.right) : c.content.length ≤ 12000 := by
  obtain ⟨h1, h2, h3, h4, h5, h6, h7, h8⟩ := h
  have q1 := flatT_len (f := PropV.text) (n := 40) fun y hy => PropV.text_len (h1 y hy)
  have q2 : c.props.length * 40 ≤ 16 * 40 := Nat.mul_le_mul_right _ h5
  have q3 : c.tail.length ≤ 9401 := by
    unfold CommitV.tail
    split
    · rename_i hp
      have := PathV.text_len (h6.1 hp)
      simp; omega
    · simp
  simp [CommitV.content, txt_len]; omega
theorem CommitV.text_len {c : CommitV} (h : c.right) : c.text.length ≤ 13000 := by
  have h1 := CommitV.content_len h
  have h7 := h.2.2.2.2.2.2
  simp [CommitV.text, txt_len]; omega
end Go.AM


set_option autoImplicit false
namespace Go.Proofs.Ytooeklnbdgoneaa
open Go Go.AM Go.Proofs

theorem RMsg643 : type_of% (And.intro (And.intro (And.intro (And.intro (And.intro (And.intro @Try.underlying3 (And.intro T.c3 T.g3)) (And.intro T.b3 (And.intro T.z3 @Try.underlying4))) (And.intro (And.intro T.c4 (And.intro T.g4 T.b4)) (And.intro (And.intro T.z4 @Try.underlying5) (And.intro T.c5 T.g5)))) (And.intro (And.intro (And.intro T.b5 (And.intro T.z5 @Try.underlying28)) (And.intro T.c28 (And.intro T.g28 T.b28))) (And.intro (And.intro T.z28 (And.intro T.s28 @Try.underlying41)) (And.intro (And.intro T.c41 T.g41) (And.intro T.b41 T.z41))))) (And.intro (And.intro (And.intro (And.intro @Try.underlying43 (And.intro T.c43 T.g43)) (And.intro T.b43 (And.intro T.z43 T.h43))) (And.intro (And.intro @Try.underlying76 (And.intro T.c76 T.g76)) (And.intro (And.intro T.b76 T.z76) (And.intro T.p76 @Try.underlying110)))) (And.intro (And.intro (And.intro T.c110 (And.intro T.g110 T.b110)) (And.intro T.z110 (And.intro T.h110 T.f43_0))) (And.intro (And.intro T.f43_1 (And.intro T.f43_2 T.f43_3)) (And.intro (And.intro T.f43_4 T.k39) (And.intro T.k41 T.k42)))))) Try.ntmps43) :=
  (And.intro (And.intro (And.intro (And.intro (And.intro (And.intro @Try.underlying3 (And.intro T.c3 T.g3)) (And.intro T.b3 (And.intro T.z3 @Try.underlying4))) (And.intro (And.intro T.c4 (And.intro T.g4 T.b4)) (And.intro (And.intro T.z4 @Try.underlying5) (And.intro T.c5 T.g5)))) (And.intro (And.intro (And.intro T.b5 (And.intro T.z5 @Try.underlying28)) (And.intro T.c28 (And.intro T.g28 T.b28))) (And.intro (And.intro T.z28 (And.intro T.s28 @Try.underlying41)) (And.intro (And.intro T.c41 T.g41) (And.intro T.b41 T.z41))))) (And.intro (And.intro (And.intro (And.intro @Try.underlying43 (And.intro T.c43 T.g43)) (And.intro T.b43 (And.intro T.z43 T.h43))) (And.intro (And.intro @Try.underlying76 (And.intro T.c76 T.g76)) (And.intro (And.intro T.b76 T.z76) (And.intro T.p76 @Try.underlying110)))) (And.intro (And.intro (And.intro T.c110 (And.intro T.g110 T.b110)) (And.intro T.z110 (And.intro T.h110 T.f43_0))) (And.intro (And.intro T.f43_1 (And.intro T.f43_2 T.f43_3)) (And.intro (And.intro T.f43_4 T.k39) (And.intro T.k41 T.k42)))))) Try.ntmps43)

variable {Γ : Nat → List AV}

theorem small_nat {n : Int} (h : 0 ≤ n) (k : n < 256) (st : List UInt8 × Bool) : penSmall 1 n st = penRaw (be 1 n.toNat) st := by
  obtain ⟨m, rfl⟩ : ∃ m : Nat, n = (m : Int) := ⟨n.toNat, by omega⟩
  exact penSmall_raw (by omega) st
theorem text_raw {k : Nat} {m : List UInt8} (h : m.length < 256 ^ k) (st : List UInt8 × Bool) : penText k m st = penRaw (txt k m) st := penText_raw h st

set_option maxHeartbeats 2000000 in
theorem writeProp_calls (s0 s : AS) (p : Nat) (st : List UInt8 × Bool) (x : PropV) (hw : x.wf) (hx : x.right) (hl : st.1.length + 100 ≤ 2 ^ 45) (h : PenS s0 s p st) :
    ACalls Try.prog Γ 43 [.ptr p 0, .agg x.cells] s (fun r s' => r = .tup [] ∧ PenS s0 s' p (penRaw x.text st)) := by
  refine acalls_body Try.func43 rfl Try.ntmps43 Try.results43 (by simp) ?_
  obtain ⟨k, l, nm, key, ini⟩ := x
  obtain ⟨w1, w2⟩ := hw
  simp only at w1 w2
  unfold PropV.cells
  have hk : 0 ≤ k ∧ k < 256 := by rcases hx with h | h | h <;> (have := h.1; simp only at this; omega)
  refine awp_reg_frz 3 (by simp [dsts]) ?_
  intro K hK
  simp only [↓AXq_nil, ↓AXq_cons, pval, DX, Nat.reduceBEq, ↓DN, UP, DF, qSh, qCv, qIA, qIx, qSl, qBu, qCe, qOn, reduceCtorEq, ↓reduceIte, nLT, nLE, nEQ, nAdd, nMul, nPow, nSub, zLT, zLE, zNat, RMsg643]
  intro o ho
  refine hK _ _ o _ (by simp only [upd, nEQ, ↓reduceIte]) ho ?_
  clear hK K ho
  refine awp_reg_seq ?_
  intro K hK
  simp only [↓DN, UP, DF, qSh, qCv, qIA, qIx, qSl, qBu, qCe, qOn, reduceCtorEq, ↓reduceIte, nLT, nLE, nEQ, nAdd, nMul, nPow, nSub, zLT, zLE, zNat, RMsg643]
  refine acallk (penU8_calls s0 s p st k (by omega) (by omega) h) ?_
  rintro r s1 ⟨rfl, h1⟩
  rw [small_nat hk.1 hk.2] at h1
  have l1 := penRaw_len (be 1 k.toNat) st
  rw [length_be] at l1
  simp only [↓AXq_nil, ↓AXq_cons, pval, DX, Nat.reduceBEq, ↓DN, UP, DF, qSh, qCv, qIA, qIx, qSl, qBu, qCe, qOn, reduceCtorEq, ↓reduceIte, nLT, nLE, nEQ, nAdd, nMul, nPow, nSub, zLT, zLE, zNat, RMsg643]
  refine hK _ _ ?_
  clear hK K
  refine awp_reg_seq ?_
  intro K hK
  simp only [↓DN, UP, DF, qSh, qCv, qIA, qIx, qSl, qBu, qCe, qOn, reduceCtorEq, ↓reduceIte, nLT, nLE, nEQ, nAdd, nMul, nPow, nSub, zLT, zLE, zNat, RMsg643]
  refine hK _ _ ?_
  clear hK K
  refine awp_block ?_
  rcases hx with ⟨e1, e2, e3, e4, e5, e6⟩ | ⟨e1, e2, e3, e4, e5, e6⟩ | ⟨e1, e2, e3, e4, e5, e6⟩
  · simp only at e1 e2 e3 e4 e5 e6
    refine awp_reg_seq ?_
    intro K hK
    simp only [↓DN, UP, DF, qSh, qCv, qIA, qIx, qSl, qBu, qCe, qOn, reduceCtorEq, ↓reduceIte, nLT, nLE, nEQ, nAdd, nMul, nPow, nSub, zLT, zLE, zNat, RMsg643, yesI e1]
    refine hK _ _ ?_
    clear hK K
    refine awp_cond_k ?_
    intro X Y hX hY
    simp only [↓DN, UP, DF, qSh, qCv, qIA, qIx, qSl, qBu, qCe, qOn, reduceCtorEq, ↓reduceIte, nLT, nLE, nEQ, nAdd, nMul, nPow, nSub, zLT, zLE, zNat, RMsg643, DB]
    refine hX ?_
    clear hX hY X Y
    refine awp_reg_seq ?_
    intro K hK
    simp only [↓DN, UP, DF, qSh, qCv, qIA, qIx, qSl, qBu, qCe, qOn, reduceCtorEq, ↓reduceIte, nLT, nLE, nEQ, nAdd, nMul, nPow, nSub, zLT, zLE, zNat, RMsg643]
    refine acallk (penShort_calls s0 s1 p _ _ nm (IsB.any nm) (by omega) h1) ?_
    rintro r s2 ⟨rfl, h2⟩
    rw [text_raw (by omega), penRaw_raw] at h2
    have l2 := penRaw_len (be 1 k.toNat ++ txt 1 nm) st
    rw [List.length_append, length_be, txt_len] at l2
    simp only [↓AXq_nil, ↓AXq_cons, pval, DX, Nat.reduceBEq, ↓DN, UP, DF, qSh, qCv, qIA, qIx, qSl, qBu, qCe, qOn, reduceCtorEq, ↓reduceIte, nLT, nLE, nEQ, nAdd, nMul, nPow, nSub, zLT, zLE, zNat, RMsg643]
    refine hK _ _ ?_
    clear hK K
    refine awp_reg_seq ?_
    intro K hK
    simp only [↓DN, UP, DF, qSh, qCv, qIA, qIx, qSl, qBu, qCe, qOn, reduceCtorEq, ↓reduceIte, nLT, nLE, nEQ, nAdd, nMul, nPow, nSub, zLT, zLE, zNat, RMsg643]
    refine acallk (penU64_calls s0 s2 p _ key w1 (by omega) h2) ?_
    rintro r s3 ⟨rfl, h3⟩
    rw [penNum_raw, penRaw_raw] at h3
    have l3 := penRaw_len (be 1 k.toNat ++ txt 1 nm ++ be 8 key) st
    rw [List.length_append, List.length_append, length_be, length_be, txt_len] at l3
    simp only [↓AXq_nil, ↓AXq_cons, pval, DX, Nat.reduceBEq, ↓DN, UP, DF, qSh, qCv, qIA, qIx, qSl, qBu, qCe, qOn, reduceCtorEq, ↓reduceIte, nLT, nLE, nEQ, nAdd, nMul, nPow, nSub, zLT, zLE, zNat, RMsg643]
    refine hK _ _ ?_
    clear hK K
    refine awp_reg_end ?_
    intro K hK
    simp only [↓DN, UP, DF, qSh, qCv, qIA, qIx, qSl, qBu, qCe, qOn, reduceCtorEq, ↓reduceIte, nLT, nLE, nEQ, nAdd, nMul, nPow, nSub, zLT, zLE, zNat, RMsg643]
    refine acallk (penU64_calls s0 s3 p _ ini w2 (by omega) h3) ?_
    rintro r s4 ⟨rfl, h4⟩
    rw [penNum_raw, penRaw_raw] at h4
    simp only [↓AXq_nil, ↓AXq_cons, pval, DX, Nat.reduceBEq, ↓DN, UP, DF, qSh, qCv, qIA, qIx, qSl, qBu, qCe, qOn, reduceCtorEq, ↓reduceIte, nLT, nLE, nEQ, nAdd, nMul, nPow, nSub, zLT, zLE, zNat, RMsg643]
    refine hK _ _ ?_
    clear hK K
    try simp only [thenQ, blockQ]
    simp only [retQ, AEnds, aresL, ares, List.toList_toArray, ↓upd_same]; try simp only [↓DN, UP, DF, qSh, qCv, qIA, qIx, qSl, qBu, qCe, qOn, reduceCtorEq, ↓reduceIte, nLT, nLE, nEQ, nAdd, nMul, nPow, nSub, zLT, zLE, zNat, RMsg643, DT]
    refine ⟨_, _, AV.weak.refl _, AS.le.refl _, rfl, ?_⟩
    have : PropV.text ⟨k, l, nm, key, ini⟩ = be 1 k.toNat ++ txt 1 nm ++ be 8 key ++ be 8 ini := by
      unfold PropV.text PropV.body
      rw [if_pos e1]
      simp
    rw [this]
    exact h4
  · simp only at e1 e2 e3 e4 e5 e6
    refine awp_reg_seq ?_
    intro K hK
    simp only [↓DN, UP, DF, qSh, qCv, qIA, qIx, qSl, qBu, qCe, qOn, reduceCtorEq, ↓reduceIte, nLT, nLE, nEQ, nAdd, nMul, nPow, nSub, zLT, zLE, zNat, RMsg643, notI (show k ≠ 1 by omega)]
    refine hK _ _ ?_
    clear hK K
    refine awp_cond_k ?_
    intro X Y hX hY
    simp only [↓DN, UP, DF, qSh, qCv, qIA, qIx, qSl, qBu, qCe, qOn, reduceCtorEq, ↓reduceIte, nLT, nLE, nEQ, nAdd, nMul, nPow, nSub, zLT, zLE, zNat, RMsg643, DB]
    refine hY ?_
    clear hX hY X Y
    refine awp_reg_seq ?_
    intro K hK
    simp only [↓DN, UP, DF, qSh, qCv, qIA, qIx, qSl, qBu, qCe, qOn, reduceCtorEq, ↓reduceIte, nLT, nLE, nEQ, nAdd, nMul, nPow, nSub, zLT, zLE, zNat, RMsg643, yesI e1]
    refine hK _ _ ?_
    clear hK K
    refine awp_cond_k ?_
    intro X Y hX hY
    simp only [↓DN, UP, DF, qSh, qCv, qIA, qIx, qSl, qBu, qCe, qOn, reduceCtorEq, ↓reduceIte, nLT, nLE, nEQ, nAdd, nMul, nPow, nSub, zLT, zLE, zNat, RMsg643, DB]
    refine hX ?_
    clear hX hY X Y
    refine awp_reg_seq ?_
    intro K hK
    simp only [↓DN, UP, DF, qSh, qCv, qIA, qIx, qSl, qBu, qCe, qOn, reduceCtorEq, ↓reduceIte, nLT, nLE, nEQ, nAdd, nMul, nPow, nSub, zLT, zLE, zNat, RMsg643]
    refine acallk (penU8_calls s0 s1 p _ l (by omega) (by omega) h1) ?_
    rintro r s2 ⟨rfl, h2⟩
    rw [small_nat e2 (by omega), penRaw_raw] at h2
    have l2 := penRaw_len (be 1 k.toNat ++ be 1 l.toNat) st
    rw [List.length_append, length_be, length_be] at l2
    simp only [↓AXq_nil, ↓AXq_cons, pval, DX, Nat.reduceBEq, ↓DN, UP, DF, qSh, qCv, qIA, qIx, qSl, qBu, qCe, qOn, reduceCtorEq, ↓reduceIte, nLT, nLE, nEQ, nAdd, nMul, nPow, nSub, zLT, zLE, zNat, RMsg643]
    refine hK _ _ ?_
    clear hK K
    refine awp_reg_end ?_
    intro K hK
    simp only [↓DN, UP, DF, qSh, qCv, qIA, qIx, qSl, qBu, qCe, qOn, reduceCtorEq, ↓reduceIte, nLT, nLE, nEQ, nAdd, nMul, nPow, nSub, zLT, zLE, zNat, RMsg643]
    refine acallk (penU64_calls s0 s2 p _ key w1 (by omega) h2) ?_
    rintro r s3 ⟨rfl, h3⟩
    rw [penNum_raw, penRaw_raw] at h3
    simp only [↓AXq_nil, ↓AXq_cons, pval, DX, Nat.reduceBEq, ↓DN, UP, DF, qSh, qCv, qIA, qIx, qSl, qBu, qCe, qOn, reduceCtorEq, ↓reduceIte, nLT, nLE, nEQ, nAdd, nMul, nPow, nSub, zLT, zLE, zNat, RMsg643]
    refine hK _ _ ?_
    clear hK K
    try simp only [thenQ, blockQ]
    simp only [retQ, AEnds, aresL, ares, List.toList_toArray, ↓upd_same]; try simp only [↓DN, UP, DF, qSh, qCv, qIA, qIx, qSl, qBu, qCe, qOn, reduceCtorEq, ↓reduceIte, nLT, nLE, nEQ, nAdd, nMul, nPow, nSub, zLT, zLE, zNat, RMsg643, DT]
    refine ⟨_, _, AV.weak.refl _, AS.le.refl _, rfl, ?_⟩
    have : PropV.text ⟨k, l, nm, key, ini⟩ = be 1 k.toNat ++ be 1 l.toNat ++ be 8 key := by
      unfold PropV.text PropV.body
      rw [if_neg (show ¬ k = 1 by omega), if_pos e1]
      simp
    rw [this]
    exact h3
  · simp only at e1 e2 e3 e4 e5 e6
    refine awp_reg_seq ?_
    intro K hK
    simp only [↓DN, UP, DF, qSh, qCv, qIA, qIx, qSl, qBu, qCe, qOn, reduceCtorEq, ↓reduceIte, nLT, nLE, nEQ, nAdd, nMul, nPow, nSub, zLT, zLE, zNat, RMsg643, notI (show k ≠ 1 by omega)]
    refine hK _ _ ?_
    clear hK K
    refine awp_cond_k ?_
    intro X Y hX hY
    simp only [↓DN, UP, DF, qSh, qCv, qIA, qIx, qSl, qBu, qCe, qOn, reduceCtorEq, ↓reduceIte, nLT, nLE, nEQ, nAdd, nMul, nPow, nSub, zLT, zLE, zNat, RMsg643, DB]
    refine hY ?_
    clear hX hY X Y
    refine awp_reg_seq ?_
    intro K hK
    simp only [↓DN, UP, DF, qSh, qCv, qIA, qIx, qSl, qBu, qCe, qOn, reduceCtorEq, ↓reduceIte, nLT, nLE, nEQ, nAdd, nMul, nPow, nSub, zLT, zLE, zNat, RMsg643, notI (show k ≠ 2 by omega)]
    refine hK _ _ ?_
    clear hK K
    refine awp_cond_k ?_
    intro X Y hX hY
    simp only [↓DN, UP, DF, qSh, qCv, qIA, qIx, qSl, qBu, qCe, qOn, reduceCtorEq, ↓reduceIte, nLT, nLE, nEQ, nAdd, nMul, nPow, nSub, zLT, zLE, zNat, RMsg643, DB]
    refine hY ?_
    clear hX hY X Y
    refine awp_reg_seq ?_
    intro K hK
    simp only [↓DN, UP, DF, qSh, qCv, qIA, qIx, qSl, qBu, qCe, qOn, reduceCtorEq, ↓reduceIte, nLT, nLE, nEQ, nAdd, nMul, nPow, nSub, zLT, zLE, zNat, RMsg643, yesI e1]
    refine hK _ _ ?_
    clear hK K
    refine awp_cond_k ?_
    intro X Y hX hY
    simp only [↓DN, UP, DF, qSh, qCv, qIA, qIx, qSl, qBu, qCe, qOn, reduceCtorEq, ↓reduceIte, nLT, nLE, nEQ, nAdd, nMul, nPow, nSub, zLT, zLE, zNat, RMsg643, DB]
    refine hX ?_
    clear hX hY X Y
    refine awp_reg_end ?_
    intro K hK
    simp only [↓DN, UP, DF, qSh, qCv, qIA, qIx, qSl, qBu, qCe, qOn, reduceCtorEq, ↓reduceIte, nLT, nLE, nEQ, nAdd, nMul, nPow, nSub, zLT, zLE, zNat, RMsg643]
    refine acallk (penU8_calls s0 s1 p _ l (by omega) (by omega) h1) ?_
    rintro r s2 ⟨rfl, h2⟩
    rw [small_nat e2 (by omega), penRaw_raw] at h2
    simp only [↓AXq_nil, ↓AXq_cons, pval, DX, Nat.reduceBEq, ↓DN, UP, DF, qSh, qCv, qIA, qIx, qSl, qBu, qCe, qOn, reduceCtorEq, ↓reduceIte, nLT, nLE, nEQ, nAdd, nMul, nPow, nSub, zLT, zLE, zNat, RMsg643]
    refine hK _ _ ?_
    clear hK K
    try simp only [thenQ, blockQ]
    simp only [retQ, AEnds, aresL, ares, List.toList_toArray, ↓upd_same]; try simp only [↓DN, UP, DF, qSh, qCv, qIA, qIx, qSl, qBu, qCe, qOn, reduceCtorEq, ↓reduceIte, nLT, nLE, nEQ, nAdd, nMul, nPow, nSub, zLT, zLE, zNat, RMsg643, DT]
    refine ⟨_, _, AV.weak.refl _, AS.le.refl _, rfl, ?_⟩
    have : PropV.text ⟨k, l, nm, key, ini⟩ = be 1 k.toNat ++ be 1 l.toNat := by
      unfold PropV.text PropV.body
      rw [if_neg (show ¬ k = 1 by omega), if_neg (show ¬ k = 2 by omega)]
    rw [this]
    exact h2

theorem bit_calls (b : Bool) (s : AS) : ACalls Try.prog Γ 44 [.v (.bool b)] s (fun r s' => r = .v (.int .i64 (if b then 1 else 0)) ∧ s' = s) := by
  refine acalls_body Try.func44 rfl Try.ntmps44 Try.results44 (by simp) ?_
  refine awp_reg_seq ?_
  intro K hK
  simp only [↓DN, UP, DF, qSh, qCv, qIA, qIx, qSl, qBu, qCe, qOn, reduceCtorEq, ↓reduceIte, nLT, nLE, nEQ, nAdd, nMul, nPow, nSub, zLT, zLE, zNat, Try.ntmps44]
  refine hK _ _ ?_
  clear hK K
  refine awp_seq_k ?_
  intro K hK
  cases b with
  | true =>
    refine awp_reg_seq ?_
    intro K hK
    simp only [↓DN, UP, DF, qSh, qCv, qIA, qIx, qSl, qBu, qCe, qOn, reduceCtorEq, ↓reduceIte, nLT, nLE, nEQ, nAdd, nMul, nPow, nSub, zLT, zLE, zNat, Try.ntmps44]
    refine hK _ _ ?_
    clear hK K
    refine awp_cond_k ?_
    intro X Y hX hY
    simp only [↓DN, UP, DF, qSh, qCv, qIA, qIx, qSl, qBu, qCe, qOn, reduceCtorEq, ↓reduceIte, nLT, nLE, nEQ, nAdd, nMul, nPow, nSub, zLT, zLE, zNat, Try.ntmps44, DB]
    refine hX ?_
    clear hX hY X Y
    refine awp_reg_seq ?_
    intro K hK
    simp only [↓DN, UP, DF, qSh, qCv, qIA, qIx, qSl, qBu, qCe, qOn, reduceCtorEq, ↓reduceIte, nLT, nLE, nEQ, nAdd, nMul, nPow, nSub, zLT, zLE, zNat, Try.ntmps44]
    refine hK _ _ ?_
    clear hK K
    refine awp_ret ?_
    try simp only [thenQ, blockQ]
    simp only [retQ, AEnds, aresL, ares, List.toList_toArray, ↓upd_same]; try simp only [↓DN, UP, DF, qSh, qCv, qIA, qIx, qSl, qBu, qCe, qOn, reduceCtorEq, ↓reduceIte, nLT, nLE, nEQ, nAdd, nMul, nPow, nSub, zLT, zLE, zNat, Try.ntmps44, DT]
    exact ⟨_, _, AV.weak.refl _, AS.le.refl _, rfl, rfl⟩
  | false =>
    refine awp_reg_seq ?_
    intro K hK
    simp only [↓DN, UP, DF, qSh, qCv, qIA, qIx, qSl, qBu, qCe, qOn, reduceCtorEq, ↓reduceIte, nLT, nLE, nEQ, nAdd, nMul, nPow, nSub, zLT, zLE, zNat, Try.ntmps44]
    refine hK _ _ ?_
    clear hK K
    refine awp_cond_k ?_
    intro X Y hX hY
    simp only [↓DN, UP, DF, qSh, qCv, qIA, qIx, qSl, qBu, qCe, qOn, reduceCtorEq, ↓reduceIte, nLT, nLE, nEQ, nAdd, nMul, nPow, nSub, zLT, zLE, zNat, Try.ntmps44, DB]
    refine hY ?_
    clear hX hY X Y
    refine awp_skip ?_
    refine hK _ _ ?_
    clear hK K
    refine awp_reg_seq ?_
    intro K hK
    simp only [↓DN, UP, DF, qSh, qCv, qIA, qIx, qSl, qBu, qCe, qOn, reduceCtorEq, ↓reduceIte, nLT, nLE, nEQ, nAdd, nMul, nPow, nSub, zLT, zLE, zNat, Try.ntmps44]
    refine hK _ _ ?_
    clear hK K
    refine awp_ret ?_
    simp only [retQ, AEnds, aresL, ares, List.toList_toArray, ↓upd_same]; try simp only [↓DN, UP, DF, qSh, qCv, qIA, qIx, qSl, qBu, qCe, qOn, reduceCtorEq, ↓reduceIte, nLT, nLE, nEQ, nAdd, nMul, nPow, nSub, zLT, zLE, zNat, Try.ntmps44, DT]
    exact ⟨_, _, AV.weak.refl _, AS.le.refl _, rfl, rfl⟩

end Go.Proofs.Ytooeklnbdgoneaa


set_option autoImplicit false
namespace Go.Proofs.Ytooeklnbdgoneaa
open Go Go.AM Go.Proofs

theorem RMsg745 : type_of% (And.intro (And.intro (And.intro (And.intro (And.intro (And.intro (And.intro @Try.underlying3 T.c3) (And.intro T.g3 T.b3)) (And.intro (And.intro T.z3 @Try.underlying4) (And.intro T.c4 (And.intro T.g4 T.b4)))) (And.intro (And.intro (And.intro T.z4 @Try.underlying5) (And.intro T.c5 (And.intro T.g5 T.b5))) (And.intro (And.intro T.z5 @Try.underlying28) (And.intro T.c28 (And.intro T.g28 T.b28))))) (And.intro (And.intro (And.intro (And.intro T.z28 T.s28) (And.intro @Try.underlying41 T.c41)) (And.intro (And.intro T.g41 T.b41) (And.intro T.z41 (And.intro @Try.underlying45 T.c45)))) (And.intro (And.intro (And.intro T.g45 T.b45) (And.intro T.z45 (And.intro T.s45 @Try.underlying47))) (And.intro (And.intro T.c47 T.g47) (And.intro T.b47 (And.intro T.z47 T.h47)))))) (And.intro (And.intro (And.intro (And.intro (And.intro @Try.underlying71 T.c71) (And.intro T.g71 T.b71)) (And.intro (And.intro T.z71 T.s71) (And.intro @Try.underlying73 (And.intro T.c73 T.g73)))) (And.intro (And.intro (And.intro T.b73 T.z73) (And.intro T.h73 (And.intro @Try.underlying75 T.c75))) (And.intro (And.intro T.g75 T.b75) (And.intro T.z75 (And.intro T.h75 @Try.underlying76))))) (And.intro (And.intro (And.intro (And.intro T.c76 T.g76) (And.intro T.b76 (And.intro T.z76 T.p76))) (And.intro (And.intro @Try.underlying110 T.c110) (And.intro T.g110 (And.intro T.b110 T.z110)))) (And.intro (And.intro (And.intro T.h110 T.f47_0) (And.intro T.f47_1 (And.intro T.f47_2 T.f73_0))) (And.intro (And.intro T.f73_1 T.k42) (And.intro T.k73 (And.intro T.k39 T.k41))))))) Try.ntmps45) :=
  (And.intro (And.intro (And.intro (And.intro (And.intro (And.intro (And.intro @Try.underlying3 T.c3) (And.intro T.g3 T.b3)) (And.intro (And.intro T.z3 @Try.underlying4) (And.intro T.c4 (And.intro T.g4 T.b4)))) (And.intro (And.intro (And.intro T.z4 @Try.underlying5) (And.intro T.c5 (And.intro T.g5 T.b5))) (And.intro (And.intro T.z5 @Try.underlying28) (And.intro T.c28 (And.intro T.g28 T.b28))))) (And.intro (And.intro (And.intro (And.intro T.z28 T.s28) (And.intro @Try.underlying41 T.c41)) (And.intro (And.intro T.g41 T.b41) (And.intro T.z41 (And.intro @Try.underlying45 T.c45)))) (And.intro (And.intro (And.intro T.g45 T.b45) (And.intro T.z45 (And.intro T.s45 @Try.underlying47))) (And.intro (And.intro T.c47 T.g47) (And.intro T.b47 (And.intro T.z47 T.h47)))))) (And.intro (And.intro (And.intro (And.intro (And.intro @Try.underlying71 T.c71) (And.intro T.g71 T.b71)) (And.intro (And.intro T.z71 T.s71) (And.intro @Try.underlying73 (And.intro T.c73 T.g73)))) (And.intro (And.intro (And.intro T.b73 T.z73) (And.intro T.h73 (And.intro @Try.underlying75 T.c75))) (And.intro (And.intro T.g75 T.b75) (And.intro T.z75 (And.intro T.h75 @Try.underlying76))))) (And.intro (And.intro (And.intro (And.intro T.c76 T.g76) (And.intro T.b76 (And.intro T.z76 T.p76))) (And.intro (And.intro @Try.underlying110 T.c110) (And.intro T.g110 (And.intro T.b110 T.z110)))) (And.intro (And.intro (And.intro T.h110 T.f47_0) (And.intro T.f47_1 (And.intro T.f47_2 T.f73_0))) (And.intro (And.intro T.f73_1 T.k42) (And.intro T.k73 (And.intro T.k39 T.k41))))))) Try.ntmps45)

variable {Γ : Nat → List AV}

set_option maxHeartbeats 8000000 in
set_option maxRecDepth 100000 in
theorem pathWrite_calls (s0 s : AS) (p : Nat) (st : List UInt8 × Bool) (x : PathV) (hw : x.wf) (hx : x.right) (hl : st.1.length + 20000 ≤ 2 ^ 45) (h : PenS s0 s p st) :
    ACalls Try.prog Γ 45 [.ptr p 0, .agg x.cells] s (fun r s' => r = .tup [] ∧ PenS s0 s' p (penRaw x.text st)) := by
  refine acalls_body Try.func45 rfl Try.ntmps45 Try.results45 (by simp) ?_
  obtain ⟨key, pa, ps⟩ := x
  obtain ⟨w1, w2, w3⟩ := hw
  obtain ⟨x1, x2, x3, x4⟩ := hx
  simp only at w1 w2 w3 x1 x2 x3 x4
  unfold PathV.cells
  have htx : PathV.text ⟨key, pa, ps⟩ = be 8 key ++ (txt 1 pa ++ (be 1 ps.length ++ flatT StepV.text ps)) := rfl
  rw [htx]
  clear htx
  have hfl : ∀ i, (flatT StepV.text (ps.take i)).length ≤ 9400 := by
    intro i
    have h1 := flatT_len (f := StepV.text) (n := 1865) (l := ps.take i) fun y hy => StepV.text_len (x1 y (List.mem_of_mem_take hy))
    have h2 : (ps.take i).length ≤ 5 := by rw [List.length_take]; omega
    have h3 : (ps.take i).length * 1865 ≤ 5 * 1865 := Nat.mul_le_mul_right _ h2
    omega
  have hrow := fun i (h : i < ps.length) => row_at (c := StepV.cells) (k := 2) (fun _ => rfl) h
  generalize hXX : rowC StepV.cells ps = XX at *
  refine awp_reg_frz 3 (by simp [dsts]) ?_
  intro K hK
  simp only [↓AXq_nil, ↓AXq_cons, pval, DX, Nat.reduceBEq, ↓DN, UP, DF, qSh, qCv, qIA, qIx, qSl, qBu, qCe, qOn, reduceCtorEq, ↓reduceIte, nLT, nLE, nEQ, nAdd, nMul, nPow, nSub, zLT, zLE, zNat, RMsg745]
  intro o ho
  refine hK _ _ o _ (by simp only [upd, nEQ, ↓reduceIte]) ho ?_
  clear hK K ho
  refine awp_reg_seq ?_
  intro K hK
  simp only [↓DN, UP, DF, qSh, qCv, qIA, qIx, qSl, qBu, qCe, qOn, reduceCtorEq, ↓reduceIte, nLT, nLE, nEQ, nAdd, nMul, nPow, nSub, zLT, zLE, zNat, RMsg745]
  refine acallk (penU64_calls s0 s p st key w1 (by omega) h) ?_
  rintro r s1 ⟨rfl, h1⟩
  rw [penNum_raw] at h1
  have l1 := penRaw_len (be 8 key) st
  rw [length_be] at l1
  simp only [↓AXq_nil, ↓AXq_cons, pval, DX, Nat.reduceBEq, ↓DN, UP, DF, qSh, qCv, qIA, qIx, qSl, qBu, qCe, qOn, reduceCtorEq, ↓reduceIte, nLT, nLE, nEQ, nAdd, nMul, nPow, nSub, zLT, zLE, zNat, RMsg745]
  refine hK _ _ ?_
  clear hK K
  refine awp_reg_seq ?_
  intro K hK
  simp only [↓DN, UP, DF, qSh, qCv, qIA, qIx, qSl, qBu, qCe, qOn, reduceCtorEq, ↓reduceIte, nLT, nLE, nEQ, nAdd, nMul, nPow, nSub, zLT, zLE, zNat, RMsg745]
  refine acallk (penShort_calls s0 s1 p _ _ pa (IsB.any pa) (by omega) h1) ?_
  rintro r s2 ⟨rfl, h2⟩
  rw [text_raw (by omega), penRaw_raw] at h2
  have l2 := penRaw_len (be 8 key ++ txt 1 pa) st
  rw [List.length_append, length_be, txt_len] at l2
  simp only [↓AXq_nil, ↓AXq_cons, pval, DX, Nat.reduceBEq, ↓DN, UP, DF, qSh, qCv, qIA, qIx, qSl, qBu, qCe, qOn, reduceCtorEq, ↓reduceIte, nLT, nLE, nEQ, nAdd, nMul, nPow, nSub, zLT, zLE, zNat, RMsg745]
  refine hK _ _ ?_
  clear hK K
  refine awp_reg_seq ?_
  intro K hK
  simp only [↓DN, UP, DF, qSh, qCv, qIA, qIx, qSl, qBu, qCe, qOn, reduceCtorEq, ↓reduceIte, nLT, nLE, nEQ, nAdd, nMul, nPow, nSub, zLT, zLE, zNat, RMsg745]
  refine acallk (penU8_calls s0 s2 p _ (ps.length : Int) (by omega) (by omega) h2) ?_
  rintro r s3 ⟨rfl, h3⟩
  rw [penSmall_raw (by omega), penRaw_raw] at h3
  obtain ⟨st3, hst3⟩ : ∃ q, q = penRaw (be 8 key ++ txt 1 pa ++ be 1 ps.length) st := ⟨_, rfl⟩
  have l3 := penRaw_len (be 8 key ++ txt 1 pa ++ be 1 ps.length) st
  rw [List.length_append, List.length_append, length_be, length_be, txt_len, ← hst3] at l3
  rw [← hst3] at h3
  clear h1 h2 l1 l2
  simp only [↓AXq_nil, ↓AXq_cons, pval, DX, Nat.reduceBEq, ↓DN, UP, DF, qSh, qCv, qIA, qIx, qSl, qBu, qCe, qOn, reduceCtorEq, ↓reduceIte, nLT, nLE, nEQ, nAdd, nMul, nPow, nSub, zLT, zLE, zNat, RMsg745]
  refine hK _ _ ?_
  clear hK K
  refine awp_reg_seq ?_
  intro K hK
  simp only [↓DN, UP, DF, qSh, qCv, qIA, qIx, qSl, qBu, qCe, qOn, reduceCtorEq, ↓reduceIte, nLT, nLE, nEQ, nAdd, nMul, nPow, nSub, zLT, zLE, zNat, RMsg745]
  refine hK _ _ ?_
  clear hK K
  refine awp_block ?_
  refine awp_loop (fun E s1 => ∃ i : Nat, i ≤ ps.length ∧ E 24 = .v (.int .i64 i) ∧ E 23 = .v (.int .i64 ps.length) ∧ E 22 = .sl 2 ps.length XX .any ∧ E 0 = .ptr p 0 ∧ PenS s0 s1 p (penRaw (flatT StepV.text (ps.take i)) st3))
    (fun E _ => match E 24 with | .v (.int _ i) => ps.length - i.toNat | _ => 0) ?_ ?_
  · exact ⟨0, Nat.zero_le _, by simp only [upd, ↓reduceIte]; rfl, by simp only [upd, nEQ, ↓reduceIte], by simp only [upd, nEQ, ↓reduceIte], by simp only [upd, initE, nEQ, ↓reduceIte, List.getD_cons_zero], by simpa [flatT, penRaw_nil] using h3⟩
  · clear h3 h
    rintro E1 s1 ⟨i, hi, g24, g23, g22, g0, h⟩ -
    by_cases hi' : i < ps.length
    · refine awp_reg_seq ?_
      intro K hK
      simp only [↓DN, UP, DF, qSh, qCv, qIA, qIx, qSl, qBu, qCe, qOn, reduceCtorEq, ↓reduceIte, nLT, nLE, nEQ, nAdd, nMul, nPow, nSub, zLT, zLE, zNat, RMsg745, g24, g23, eye_lt_nat, decide_eq_true hi']
      refine hK _ _ ?_
      clear hK K
      refine awp_seq_k ?_
      intro K3 hK3
      refine awp_cond_k ?_
      intro X Y hX hY
      simp only [↓DN, UP, DF, qSh, qCv, qIA, qIx, qSl, qBu, qCe, qOn, reduceCtorEq, ↓reduceIte, nLT, nLE, nEQ, nAdd, nMul, nPow, nSub, zLT, zLE, zNat, RMsg745, DB]
      refine hX ?_
      clear hX hY X Y
      refine awp_skip ?_
      refine hK3 _ _ ?_
      clear hK3 K3
      refine awp_seq_k ?_
      intro K3 hK3
      refine awp_block ?_
      have hat := hrow i hi'
      have hge : (0 : Int) ≤ (i : Int) := by omega
      have hft := flatT_take StepV.text hi'
      have hfl1 := hfl i
      have lst := penRaw_len (flatT StepV.text (ps.take i)) st3
      obtain ⟨y, hy⟩ : ∃ y, y = ps[i] := ⟨_, rfl⟩
      rw [← hy] at hat hft
      have hym : y ∈ ps := by rw [hy]; exact List.getElem_mem hi'
      have hyw := w2 y hym
      have hyr := x1 y hym
      clear hy
      obtain ⟨f, t⟩ := y
      obtain ⟨yw1, yw2, yw3⟩ := hyw
      obtain ⟨yr1, yr2, yr3⟩ := hyr
      simp only at yw1 yw2 yw3 yr1 yr2 yr3
      rw [show StepV.text ⟨f, t⟩ = be 8 f ++ (be 1 t.length ++ flatT SealV.wtext t) from rfl] at hft
      unfold StepV.cells at hat
      have hfl2 : ∀ i, (flatT SealV.wtext (t.take i)).length ≤ 1856 := by
        intro i
        have h1 := flatT_len (f := SealV.wtext) (n := 58) (l := t.take i) fun y hy => SealV.wtext_len (yr1 y (List.mem_of_mem_take hy))
        have h2 : (t.take i).length ≤ 32 := by rw [List.length_take]; omega
        have h3 : (t.take i).length * 58 ≤ 32 * 58 := Nat.mul_le_mul_right _ h2
        omega
      have hrow2 := fun i (h : i < t.length) => row_at (c := SealV.cells) (k := 2) (fun _ => rfl) h
      generalize rowC SealV.cells t = T at *
      refine awp_reg_frz 5 (by simp [dsts]) ?_
      intro K2 hK2
      simp only [↓AXq_nil, ↓AXq_cons, pval, DX, Nat.reduceBEq, ↓DN, UP, DF, qSh, qCv, qIA, qIx, qSl, qBu, qCe, qOn, reduceCtorEq, ↓reduceIte, nLT, nLE, nEQ, nAdd, nMul, nPow, nSub, zLT, zLE, zNat, RMsg745, g24, g22, eye_lt_nat, hi', hge, hat]
      intro o ho
      refine hK2 _ _ o _ (by simp only [upd, nEQ, ↓reduceIte]) ho ?_
      clear hK2 K2 ho
      refine awp_reg_seq ?_
      intro K hK
      simp only [↓DN, UP, DF, qSh, qCv, qIA, qIx, qSl, qBu, qCe, qOn, reduceCtorEq, ↓reduceIte, nLT, nLE, nEQ, nAdd, nMul, nPow, nSub, zLT, zLE, zNat, RMsg745, g0]
      refine acallk (penU64_calls s0 s1 p _ f yw1 (by omega) h) ?_
      rintro r s4 ⟨rfl, h4⟩
      rw [penNum_raw, penRaw_raw] at h4
      have l4 := penRaw_len (flatT StepV.text (ps.take i) ++ be 8 f) st3
      rw [List.length_append, length_be] at l4
      simp only [↓AXq_nil, ↓AXq_cons, pval, DX, Nat.reduceBEq, ↓DN, UP, DF, qSh, qCv, qIA, qIx, qSl, qBu, qCe, qOn, reduceCtorEq, ↓reduceIte, nLT, nLE, nEQ, nAdd, nMul, nPow, nSub, zLT, zLE, zNat, RMsg745]
      refine hK _ _ ?_
      clear hK K
      refine awp_reg_seq ?_
      intro K hK
      simp only [↓DN, UP, DF, qSh, qCv, qIA, qIx, qSl, qBu, qCe, qOn, reduceCtorEq, ↓reduceIte, nLT, nLE, nEQ, nAdd, nMul, nPow, nSub, zLT, zLE, zNat, RMsg745, g0]
      refine acallk (penU8_calls s0 s4 p _ (t.length : Int) (by omega) (by omega) h4) ?_
      rintro r s5 ⟨rfl, h5⟩
      rw [penSmall_raw (by omega), penRaw_raw] at h5
      obtain ⟨st5, hst5⟩ : ∃ q, q = penRaw (flatT StepV.text (ps.take i) ++ be 8 f ++ be 1 t.length) st3 := ⟨_, rfl⟩
      have l5 := penRaw_len (flatT StepV.text (ps.take i) ++ be 8 f ++ be 1 t.length) st3
      rw [List.length_append, List.length_append, length_be, length_be, ← hst5] at l5
      rw [← hst5] at h5
      simp only [↓AXq_nil, ↓AXq_cons, pval, DX, Nat.reduceBEq, ↓DN, UP, DF, qSh, qCv, qIA, qIx, qSl, qBu, qCe, qOn, reduceCtorEq, ↓reduceIte, nLT, nLE, nEQ, nAdd, nMul, nPow, nSub, zLT, zLE, zNat, RMsg745]
      refine hK _ _ ?_
      clear hK K
      refine awp_reg_seq ?_
      intro K hK
      simp only [↓DN, UP, DF, qSh, qCv, qIA, qIx, qSl, qBu, qCe, qOn, reduceCtorEq, ↓reduceIte, nLT, nLE, nEQ, nAdd, nMul, nPow, nSub, zLT, zLE, zNat, RMsg745]
      refine hK _ _ ?_
      clear hK K
      refine awp_block ?_
      refine awp_loop (fun E s1 => ∃ k : Nat, k ≤ t.length ∧ E 40 = .v (.int .i64 k) ∧ E 39 = .v (.int .i64 t.length) ∧ E 38 = .sl 2 t.length T .any ∧ E 24 = .v (.int .i64 i) ∧ E 23 = .v (.int .i64 ps.length) ∧ E 22 = .sl 2 ps.length XX .any ∧ E 0 = .ptr p 0 ∧ PenS s0 s1 p (penRaw (flatT SealV.wtext (t.take k)) st5))
        (fun E _ => match E 40 with | .v (.int _ i) => t.length - i.toNat | _ => 0) ?_ ?_
      · exact ⟨0, Nat.zero_le _, by simp only [upd, ↓reduceIte]; rfl, by simp only [upd, nEQ, ↓reduceIte], by simp only [upd, nEQ, ↓reduceIte], by simp only [upd, g24, nEQ, ↓reduceIte], by simp only [upd, g23, nEQ, ↓reduceIte], by simp only [upd, g22, nEQ, ↓reduceIte], by simp only [upd, g0, nEQ, ↓reduceIte], by simpa [flatT, penRaw_nil] using h5⟩
      · have G24 := g24
        clear h5 h4 h hat g24 g23 g22 g0
        rintro E2 s6 ⟨k, hk, g40, g39, g38, g24, g23, g22, g0, h⟩ -
        by_cases hk' : k < t.length
        · refine awp_reg_seq ?_
          intro K hK
          simp only [↓DN, UP, DF, qSh, qCv, qIA, qIx, qSl, qBu, qCe, qOn, reduceCtorEq, ↓reduceIte, nLT, nLE, nEQ, nAdd, nMul, nPow, nSub, zLT, zLE, zNat, RMsg745, g40, g39, eye_lt_nat, decide_eq_true hk']
          refine hK _ _ ?_
          clear hK K
          refine awp_seq_k ?_
          intro K4 hK4
          refine awp_cond_k ?_
          intro X Y hX hY
          simp only [↓DN, UP, DF, qSh, qCv, qIA, qIx, qSl, qBu, qCe, qOn, reduceCtorEq, ↓reduceIte, nLT, nLE, nEQ, nAdd, nMul, nPow, nSub, zLT, zLE, zNat, RMsg745, DB]
          refine hX ?_
          clear hX hY X Y
          refine awp_skip ?_
          refine hK4 _ _ ?_
          clear hK4 K4
          refine awp_seq_k ?_
          intro K4 hK4
          refine awp_block ?_
          have hat := hrow2 k hk'
          have hge : (0 : Int) ≤ (k : Int) := by omega
          have hft2 := flatT_take SealV.wtext hk'
          have hfl3 := hfl2 k
          have lst2 := penRaw_len (flatT SealV.wtext (t.take k)) st5
          obtain ⟨z, hz⟩ : ∃ z, z = t[k] := ⟨_, rfl⟩
          rw [← hz] at hat hft2
          have hzm : z ∈ t := by rw [hz]; exact List.getElem_mem hk'
          have hzw := yw2 z hzm
          have hzr := yr1 z hzm
          clear hz
          obtain ⟨fz, tz⟩ := z
          obtain ⟨zr1, zr2⟩ := hzr
          simp only at zr1 zr2
          have hzw : fz < 2 ^ 64 := hzw
          rw [show SealV.wtext ⟨fz, tz⟩ = be 8 fz ++ txt 2 tz from rfl] at hft2
          unfold SealV.cells at hat
          refine awp_reg_frz 7 (by simp [dsts]) ?_
          intro K2 hK2
          simp only [↓AXq_nil, ↓AXq_cons, pval, DX, Nat.reduceBEq, ↓DN, UP, DF, qSh, qCv, qIA, qIx, qSl, qBu, qCe, qOn, reduceCtorEq, ↓reduceIte, nLT, nLE, nEQ, nAdd, nMul, nPow, nSub, zLT, zLE, zNat, RMsg745, g40, g38, eye_lt_nat, hk', hge, hat]
          intro o ho
          refine hK2 _ _ o _ (by simp only [upd, nEQ, ↓reduceIte]) ho ?_
          clear hK2 K2 ho
          refine awp_reg_end ?_
          intro K hK
          simp only [↓DN, UP, DF, qSh, qCv, qIA, qIx, qSl, qBu, qCe, qOn, reduceCtorEq, ↓reduceIte, nLT, nLE, nEQ, nAdd, nMul, nPow, nSub, zLT, zLE, zNat, RMsg745, g0]
          refine acallk (hWrite_calls s0 s6 p _ fz tz hzw (by omega) h) ?_
          rintro r s7 ⟨rfl, h7⟩
          rw [text_raw (by omega), penNum_raw, penRaw_raw, penRaw_raw, ← hft2] at h7
          simp only [↓AXq_nil, ↓AXq_cons, pval, DX, Nat.reduceBEq, ↓DN, UP, DF, qSh, qCv, qIA, qIx, qSl, qBu, qCe, qOn, reduceCtorEq, ↓reduceIte, nLT, nLE, nEQ, nAdd, nMul, nPow, nSub, zLT, zLE, zNat, RMsg745]
          refine hK _ _ ?_
          clear hK K
          simp only [blockQ, thenQ, if_true, if_false]
          refine hK4 _ _ ?_
          clear hK4 K4
          refine awp_reg_end ?_
          intro K hK
          simp only [↓DN, UP, DF, qSh, qCv, qIA, qIx, qSl, qBu, qCe, qOn, reduceCtorEq, ↓reduceIte, nLT, nLE, nEQ, nAdd, nMul, nPow, nSub, zLT, zLE, zNat, RMsg745, g40, eye_succ k (by omega)]
          refine hK _ _ ?_
          clear hK K
          refine ⟨⟨k + 1, by omega, by simp only [upd, ↓reduceIte], by simp only [upd, g39, nEQ, ↓reduceIte], by simp only [upd, g38, nEQ, ↓reduceIte], by simp only [upd, g24, nEQ, ↓reduceIte], by simp only [upd, g23, nEQ, ↓reduceIte], by simp only [upd, g22, nEQ, ↓reduceIte], by simp only [upd, g0, nEQ, ↓reduceIte], h7⟩, ?_⟩
          simp only [g40, upd, ↓reduceIte]
          omega
        · refine awp_reg_seq ?_
          intro K hK
          simp only [↓DN, UP, DF, qSh, qCv, qIA, qIx, qSl, qBu, qCe, qOn, reduceCtorEq, ↓reduceIte, nLT, nLE, nEQ, nAdd, nMul, nPow, nSub, zLT, zLE, zNat, RMsg745, g40, g39, eye_lt_nat, decide_eq_false hk']
          refine hK _ _ ?_
          clear hK K
          refine awp_seq_k ?_
          intro K4 hK4
          refine awp_cond_k ?_
          intro X Y hX hY
          simp only [↓DN, UP, DF, qSh, qCv, qIA, qIx, qSl, qBu, qCe, qOn, reduceCtorEq, ↓reduceIte, nLT, nLE, nEQ, nAdd, nMul, nPow, nSub, zLT, zLE, zNat, RMsg745, DB]
          refine hY ?_
          clear hX hY X Y
          refine awp_exit ?_
          simp only [thenQ, blockQ, if_true, if_false]
          rw [List.take_of_length_le (by omega), hst5, penRaw_raw, List.append_assoc, List.append_assoc, ← hft] at h
          refine hK3 _ _ ?_
          clear hK3 hK4 K4 K3
          refine awp_reg_end ?_
          intro K hK
          simp only [↓DN, UP, DF, qSh, qCv, qIA, qIx, qSl, qBu, qCe, qOn, reduceCtorEq, ↓reduceIte, nLT, nLE, nEQ, nAdd, nMul, nPow, nSub, zLT, zLE, zNat, RMsg745, g24, eye_succ i (by omega)]
          refine hK _ _ ?_
          clear hK K
          refine ⟨⟨i + 1, by omega, by simp only [upd, ↓reduceIte], by simp only [upd, g23, nEQ, ↓reduceIte], by simp only [upd, g22, nEQ, ↓reduceIte], by simp only [upd, g0, nEQ, ↓reduceIte], h⟩, ?_⟩
          simp only [G24, upd, ↓reduceIte]
          omega
    · refine awp_reg_seq ?_
      intro K hK
      simp only [↓DN, UP, DF, qSh, qCv, qIA, qIx, qSl, qBu, qCe, qOn, reduceCtorEq, ↓reduceIte, nLT, nLE, nEQ, nAdd, nMul, nPow, nSub, zLT, zLE, zNat, RMsg745, g24, g23, eye_lt_nat, decide_eq_false hi']
      refine hK _ _ ?_
      clear hK K
      refine awp_seq_k ?_
      intro K3 hK3
      refine awp_cond_k ?_
      intro X Y hX hY
      simp only [↓DN, UP, DF, qSh, qCv, qIA, qIx, qSl, qBu, qCe, qOn, reduceCtorEq, ↓reduceIte, nLT, nLE, nEQ, nAdd, nMul, nPow, nSub, zLT, zLE, zNat, RMsg745, DB]
      refine hY ?_
      clear hX hY X Y
      refine awp_exit ?_
      simp only [thenQ, blockQ, if_true]
      simp only [retQ, AEnds, aresL, ares, List.toList_toArray, ↓upd_same]; try simp only [↓DN, UP, DF, qSh, qCv, qIA, qIx, qSl, qBu, qCe, qOn, reduceCtorEq, ↓reduceIte, nLT, nLE, nEQ, nAdd, nMul, nPow, nSub, zLT, zLE, zNat, RMsg745, DT]
      refine ⟨_, _, AV.weak.refl _, AS.le.refl _, rfl, ?_⟩
      rw [List.take_of_length_le (by omega), hst3, penRaw_raw] at h
      simpa using h

end Go.Proofs.Ytooeklnbdgoneaa


