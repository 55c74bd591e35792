/- Contracts of the program's functions, each walked once; the conditions stand in each theorem. -/
import Derived.Test.YtcnilmidfhpckaaAMp6
import Derived.Test.YtcnilmidfhpckaaW8
set_option linter.unusedSimpArgs false
set_option linter.unusedVariables false
open Nat renaming reduceLT → nLT, reduceLeDiff → nLE, reduceEqDiff → nEQ, reduceAdd → nAdd, reduceMul → nMul, reducePow → nPow, reduceSub → nSub
open Int renaming reduceLT → zLT, reduceLE → zLE, reduceToNat → zNat
open Go.AM renaming ashift → qSh, aconv → qCv, aindexAddr → qIA, aindex → qIx, aslice → qSl, abuiltin → qBu
open Go.AM.AV renaming cells → qCe, one → qOn
set_option autoImplicit false
namespace Go.Proofs.Ytcnilmidfhpckaa
open Go Go.AM Go.Proofs

theorem RMsg2025 : type_of% (And.intro (And.intro (And.intro (And.intro (And.intro (And.intro (And.intro @Try.underlying3 T.c3) (And.intro T.g3 (And.intro T.b3 T.z3))) (And.intro (And.intro @Try.underlying4 T.c4) (And.intro T.g4 (And.intro T.b4 T.z4)))) (And.intro (And.intro (And.intro @Try.underlying5 T.c5) (And.intro T.g5 (And.intro T.b5 T.z5))) (And.intro (And.intro @Try.underlying9 T.c9) (And.intro T.g9 (And.intro T.b9 T.z9))))) (And.intro (And.intro (And.intro (And.intro @Try.underlying28 T.c28) (And.intro T.g28 (And.intro T.b28 T.z28))) (And.intro (And.intro T.s28 @Try.underlying41) (And.intro T.c41 (And.intro T.g41 T.b41)))) (And.intro (And.intro (And.intro T.z41 T.s41) (And.intro @Try.underlying42 (And.intro T.c42 T.g42))) (And.intro (And.intro T.b42 T.z42) (And.intro @Try.underlying43 (And.intro T.c43 T.g43)))))) (And.intro (And.intro (And.intro (And.intro (And.intro T.b43 T.z43) (And.intro T.s43 (And.intro @Try.underlying45 T.c45))) (And.intro (And.intro T.g45 T.b45) (And.intro T.z45 (And.intro T.h45 @Try.underlying47)))) (And.intro (And.intro (And.intro T.c47 T.g47) (And.intro T.b47 (And.intro T.z47 T.h47))) (And.intro (And.intro @Try.underlying80 T.c80) (And.intro T.g80 (And.intro T.b80 T.z80))))) (And.intro (And.intro (And.intro (And.intro T.h80 @Try.underlying83) (And.intro T.c83 (And.intro T.g83 T.b83))) (And.intro (And.intro T.z83 T.h83) (And.intro T.f47_0 (And.intro T.f47_1 T.f47_2)))) (And.intro (And.intro (And.intro T.f47_3 T.f47_4) (And.intro T.f47_5 (And.intro T.f47_6 T.f47_7))) (And.intro (And.intro T.f80_0 (And.intro T.f80_1 T.f80_2)) (And.intro T.f80_3 (And.intro T.f80_4 T.k53))))))) Try.ntmps25) :=
  (And.intro (And.intro (And.intro (And.intro (And.intro (And.intro (And.intro @Try.underlying3 T.c3) (And.intro T.g3 (And.intro T.b3 T.z3))) (And.intro (And.intro @Try.underlying4 T.c4) (And.intro T.g4 (And.intro T.b4 T.z4)))) (And.intro (And.intro (And.intro @Try.underlying5 T.c5) (And.intro T.g5 (And.intro T.b5 T.z5))) (And.intro (And.intro @Try.underlying9 T.c9) (And.intro T.g9 (And.intro T.b9 T.z9))))) (And.intro (And.intro (And.intro (And.intro @Try.underlying28 T.c28) (And.intro T.g28 (And.intro T.b28 T.z28))) (And.intro (And.intro T.s28 @Try.underlying41) (And.intro T.c41 (And.intro T.g41 T.b41)))) (And.intro (And.intro (And.intro T.z41 T.s41) (And.intro @Try.underlying42 (And.intro T.c42 T.g42))) (And.intro (And.intro T.b42 T.z42) (And.intro @Try.underlying43 (And.intro T.c43 T.g43)))))) (And.intro (And.intro (And.intro (And.intro (And.intro T.b43 T.z43) (And.intro T.s43 (And.intro @Try.underlying45 T.c45))) (And.intro (And.intro T.g45 T.b45) (And.intro T.z45 (And.intro T.h45 @Try.underlying47)))) (And.intro (And.intro (And.intro T.c47 T.g47) (And.intro T.b47 (And.intro T.z47 T.h47))) (And.intro (And.intro @Try.underlying80 T.c80) (And.intro T.g80 (And.intro T.b80 T.z80))))) (And.intro (And.intro (And.intro (And.intro T.h80 @Try.underlying83) (And.intro T.c83 (And.intro T.g83 T.b83))) (And.intro (And.intro T.z83 T.h83) (And.intro T.f47_0 (And.intro T.f47_1 T.f47_2)))) (And.intro (And.intro (And.intro T.f47_3 T.f47_4) (And.intro T.f47_5 (And.intro T.f47_6 T.f47_7))) (And.intro (And.intro T.f80_0 (And.intro T.f80_1 T.f80_2)) (And.intro T.f80_3 (And.intro T.f80_4 T.k53))))))) Try.ntmps25)

variable {Γ : Nat → List AV}

theorem neL (a b : List UInt8) : (a != b) = (!a == b) := rfl
theorem eqB {a b : Bool} (h : a = b) : (a != b) = false := by simpa using h

set_option maxRecDepth 100000 in
set_option maxHeartbeats 8000000 in
theorem same23_calls (a b : CommitV) (ha : a.wf) (s : AS) : ACalls Try.prog Γ 25 [.agg a.cells, .agg b.cells] s (fun r s' => r = .v (.bool (decide (a = b))) ∧ s' = s) := by
  refine acalls_body Try.func25 rfl Try.ntmps25 Try.results25 (by simp) ?_
  obtain ⟨g1, e1, d1, l1, p1, u1, c1, m1⟩ := a
  obtain ⟨g2, e2, d2, l2, p2, u2, c2, m2⟩ := b
  obtain ⟨hw, hu, hl⟩ := ha
  simp only at hw hu hl
  unfold maxLen at hl
  have hpc := fun s => same21_calls (Γ := Γ) u1 u2 hu s
  have huu : u1 = u2 ↔ u1 = u2 := Iff.rfl
  unfold CommitV.cells
  simp only
  obtain ⟨P, hP⟩ : ∃ q, q = decide (u1 = u2) := ⟨_, rfl⟩
  rw [← hP] at hpc
  unfold PathV.cells at hpc
  have hrow1 := fun i (h : i < l1.length) => row_at (c := PropV.cells) (k := 5) (fun _ => rfl) h
  have hrow2 := fun i (h : i < l2.length) => row_at (c := PropV.cells) (k := 5) (fun _ => rfl) h
  generalize rowC PropV.cells l1 = X1 at *
  generalize rowC PropV.cells l2 = X2 at *
  generalize hY1 : rowC StepV.cells u1.steps = Y1 at *
  generalize hY2 : rowC StepV.cells u2.steps = Y2 at *
  refine awp_reg_frz2 2 3 (by decide) (by decide) (by decide) ?_
  intro K hK
  simp only [↓AXq_nil, ↓AXq_cons, pval, DX, Nat.reduceBEq, ↓DN, UP, DF, qSh, qCv, qIA, qIx, qSl, qBu, qCe, qOn, reduceCtorEq, ↓reduceIte, nLT, nLE, nEQ, nAdd, nMul, nPow, nSub, zLT, zLE, zNat, RMsg2025]
  intro o1 h1 o2 h2
  refine hK _ _ o1 o2 _ _ (by simp only [upd, nEQ, ↓reduceIte]) (by simp only [upd, nEQ, ↓reduceIte]) h1 (by rw [AS.set_objs_eq]; exact h2) ?_
  clear hK K h1 h2
  refine awp_seq_k ?_
  intro K hK
  by_cases hh : g1 = g2 ∧ e1 = e2 ∧ d1 = d2 ∧ l1.length = l2.length ∧ p1 = p2
  · obtain ⟨rfl, rfl, rfl, hll, rfl⟩ := hh
    by_cases hq : u1 = u2 ∧ c1 = c2 ∧ m1 = m2
    · obtain ⟨hu12, rfl, rfl⟩ := hq
      obtain rfl : P = true := by rw [hP]; exact decide_eq_true hu12
      refine awp_reg_seq ?_
      intro K hK
      simp only [↓DN, UP, DF, qSh, qCv, qIA, qIx, qSl, qBu, qCe, qOn, reduceCtorEq, ↓reduceIte, nLT, nLE, nEQ, nAdd, nMul, nPow, nSub, zLT, zLE, zNat, RMsg2025, listEq (show g1 = g1 from rfl), eqI (show e1 = e1 from rfl), eqI (show d1 = d1 from rfl), natEq hll, eqB (show p1 = p1 from rfl)]
      refine acallk (hpc _) ?_
      rintro r s0 ⟨rfl, rfl⟩
      simp only [↓AXq_nil, ↓AXq_cons, pval, DX, Nat.reduceBEq, ↓DN, UP, DF, qSh, qCv, qIA, qIx, qSl, qBu, qCe, qOn, reduceCtorEq, ↓reduceIte, nLT, nLE, nEQ, nAdd, nMul, nPow, nSub, zLT, zLE, zNat, RMsg2025, listEq (show c1 = c1 from rfl), listEq (show m1 = m1 from rfl)]
      refine hK _ _ ?_
      clear hK K
      refine awp_cond_k ?_
      intro X Y hX hY
      simp only [↓DN, UP, DF, qSh, qCv, qIA, qIx, qSl, qBu, qCe, qOn, reduceCtorEq, ↓reduceIte, nLT, nLE, nEQ, nAdd, nMul, nPow, nSub, zLT, zLE, zNat, RMsg2025, DB]
      refine hY ?_
      clear hX hY X Y
      refine awp_skip ?_
      refine hK _ _ ?_
      clear hK K
      subst hu12
      refine awp_seq_k ?_
      intro K hK
      refine awp_reg_seq ?_
      intro K hK
      simp only [↓DN, UP, DF, qSh, qCv, qIA, qIx, qSl, qBu, qCe, qOn, reduceCtorEq, ↓reduceIte, nLT, nLE, nEQ, nAdd, nMul, nPow, nSub, zLT, zLE, zNat, RMsg2025]
      refine hK _ _ ?_
      clear hK K
      refine awp_block ?_
      refine awp_loop (fun E s1 => ∃ i : Nat, i ≤ l1.length ∧ E 5 = .v (.int .i64 i) ∧ E 2 = .rop [.sl 1 g1.length (g1.map byteV) .any, .v (.int .i64 e1), .v (.int .i64 d1), .sl 5 l1.length X1 .any, .v (.bool p1), .v (.int .u64 u1.key), .sl 1 u1.parent.length (u1.parent.map byteV) .any, .sl 2 u1.steps.length Y1 .any, .sl 1 c1.length (c1.map byteV) .any, .sl 1 m1.length (m1.map byteV) .any] ∧ E 3 = .rop [.sl 1 g1.length (g1.map byteV) .any, .v (.int .i64 e1), .v (.int .i64 d1), .sl 5 l2.length X2 .any, .v (.bool p1), .v (.int .u64 u1.key), .sl 1 u1.parent.length (u1.parent.map byteV) .any, .sl 2 u1.steps.length Y2 .any, .sl 1 c1.length (c1.map byteV) .any, .sl 1 m1.length (m1.map byteV) .any] ∧ l1.take i = l2.take i ∧ s1 = s0)
        (fun E _ => match E 5 with | .v (.int _ i) => l1.length - i.toNat | _ => 0) ?_ ?_
      · exact ⟨0, Nat.zero_le _, by simp only [upd, ↓reduceIte]; rfl, by simp only [upd, nEQ, ↓reduceIte], by simp only [upd, nEQ, ↓reduceIte], by simp, rfl⟩
      · rintro E1 s1 ⟨i, hi, g5, g2, g3, hall, rfl⟩ -
        refine awp_seq_k ?_
        intro K2 hK2
        by_cases hi' : i < l1.length
        · refine awp_reg_seq ?_
          intro K hK
          simp only [↓DN, UP, DF, qSh, qCv, qIA, qIx, qSl, qBu, qCe, qOn, reduceCtorEq, ↓reduceIte, nLT, nLE, nEQ, nAdd, nMul, nPow, nSub, zLT, zLE, zNat, RMsg2025, g5, g2, eye_lt_nat, decide_eq_true hi']
          refine hK _ _ ?_
          clear hK K
          refine awp_cond_k ?_
          intro X Y hX hY
          simp only [↓DN, UP, DF, qSh, qCv, qIA, qIx, qSl, qBu, qCe, qOn, reduceCtorEq, ↓reduceIte, nLT, nLE, nEQ, nAdd, nMul, nPow, nSub, zLT, zLE, zNat, RMsg2025, DB]
          refine hX ?_
          clear hX hY X Y
          refine awp_skip ?_
          refine hK2 _ _ ?_
          clear hK2 K2
          refine awp_seq_k ?_
          intro K3 hK3
          refine awp_block ?_
          have hi2 : i < l2.length := by omega
          have hat1 := hrow1 i hi'
          have hat2 := hrow2 i hi2
          have hge : (0 : Int) ≤ (i : Int) := by omega
          have hyes : l1[i] = l2[i] → l1.take (i + 1) = l2.take (i + 1) := take_eq hi' hi2 hall
          have hno : l1[i] ≠ l2[i] → decide ((⟨g1, e1, d1, l1, p1, u1, c1, m1⟩ : CommitV) = ⟨g1, e1, d1, l2, p1, u1, c1, m1⟩) = false := fun h => decide_eq_false fun q => h (by simp only [CommitV.mk.injEq, true_and, and_true] at q; subst q; rfl)
          generalize l1[i] = y1 at *
          generalize l2[i] = y2 at *
          obtain ⟨k1, f1, n1, x1, i1⟩ := y1
          obtain ⟨k2, f2, n2, x2, i2⟩ := y2
          unfold PropV.cells at hat1 hat2
          simp only at hat1 hat2
          refine awp_drf_frz2 T.mixed 6 7 [10, 11, 12, 13] [] [] [10, 11] (by kernel_rfl) (by decide) (by decide) (by decide) ?_
          intro K hK
          simp only [↓AXz_nil, ↓AXz_cons, ↓AGiv_call, glook_nil, glook_cons, glookN_nil, glookN_cons, noughtV, pval, DX, Nat.reduceBEq, List.toList_toArray, List.map_cons, List.map_nil, aeval, ↓DN, UP, DF, qSh, qCv, qIA, qIx, qSl, qBu, qCe, qOn, reduceCtorEq, ↓reduceIte, nLT, nLE, nEQ, nAdd, nMul, nPow, nSub, zLT, zLE, zNat, RMsg2025, g5, g2, g3, eye_lt_nat, hi', hi2, hge, hat1, hat2]
          intro o1 ho1 o2 ho2
          have hne : o1 ≠ o2 := by rintro rfl; simp at ho2
          have hne2 := hne.symm
          simp only [hne, hne2, if_true, if_false, ↓reduceIte, List.set_cons_zero, List.set_cons_succ, List.length_cons, List.length_nil, Nat.reduceAdd, Nat.le_refl, true_and]
          rw [set_four hne]
          refine hK _ _ o1 o2 _ _ (by simp only [upd, nEQ, ↓reduceIte]) (by simp only [upd, nEQ, ↓reduceIte]) ho1 (by rw [AS.set_objs_ne _ hne2]; simpa [hne2] using ho2) ?_
          clear hK K ho1 ho2 hne hne2
          by_cases hh2 : k1 = k2 ∧ f1 = f2 ∧ n1 = n2 ∧ x1 = x2 ∧ i1 = i2
          · obtain ⟨rfl, rfl, rfl, rfl, rfl⟩ := hh2
            refine awp_reg_seq ?_
            intro K hK
            simp only [↓DN, UP, DF, qSh, qCv, qIA, qIx, qSl, qBu, qCe, qOn, reduceCtorEq, ↓reduceIte, nLT, nLE, nEQ, nAdd, nMul, nPow, nSub, zLT, zLE, zNat, RMsg2025, eqI (show k1 = k1 from rfl), eqI (show f1 = f1 from rfl), listEq (show n1 = n1 from rfl), natEq (show x1 = x1 from rfl), natEq (show i1 = i1 from rfl)]
            refine hK _ _ ?_
            clear hK K
            refine awp_cond_k ?_
            intro X Y hX hY
            simp only [↓DN, UP, DF, qSh, qCv, qIA, qIx, qSl, qBu, qCe, qOn, reduceCtorEq, ↓reduceIte, nLT, nLE, nEQ, nAdd, nMul, nPow, nSub, zLT, zLE, zNat, RMsg2025, DB]
            refine hY ?_
            clear hX hY X Y
            refine awp_skip ?_
            simp only [blockQ, thenQ, if_true, if_false]
            refine hK3 _ _ ?_
            clear hK3 K3
            refine awp_reg_end ?_
            intro K hK
            simp only [↓DN, UP, DF, qSh, qCv, qIA, qIx, qSl, qBu, qCe, qOn, reduceCtorEq, ↓reduceIte, nLT, nLE, nEQ, nAdd, nMul, nPow, nSub, zLT, zLE, zNat, RMsg2025, g5, eye_succM i (by omega)]
            refine hK _ _ ?_
            clear hK K
            refine ⟨⟨i + 1, by omega, by simp only [upd, ↓reduceIte], by simp only [upd, g2, nEQ, ↓reduceIte], by simp only [upd, g3, nEQ, ↓reduceIte], hyes rfl, rfl⟩, ?_⟩
            simp only [g5, upd, ↓reduceIte]
            omega
          · have hno := hno (fun q => hh2 (by simpa only [PropV.mk.injEq] using q))
            have hall5 : ∀ (B1 B2 B3 B4 B5 : Bool), B1 = (k1 != k2) → B2 = (f1 != f2) → B3 = (n1 != n2) → B4 = ((x1 : Int) != (x2 : Int)) → B5 = ((i1 : Int) != (i2 : Int)) → (B1 = false ∧ B2 = false ∧ B3 = false ∧ B4 = false ∧ B5 = false) → False := by
              rintro _ _ _ _ _ rfl rfl rfl rfl rfl ⟨q1, q2, q3, q4, q5⟩
              apply hh2
              simp only [bne_eq_false_iff_eq, Int.natCast_inj] at q1 q2 q3 q4 q5
              exact ⟨q1, q2, q3, q4, q5⟩
            rcases tt5 (k1 != k2) (f1 != f2) (n1 != n2) ((x1 : Int) != (x2 : Int)) ((i1 : Int) != (i2 : Int)) with hd | hd | hd | hd | hd | hd
            case inr.inr.inr.inr.inr => exact (hall5 _ _ _ _ _ rfl rfl rfl rfl rfl hd).elim
            all_goals
              have hd' := hd
              try simp only [neL] at hd'
              refine awp_reg_seq ?_
              intro K hK
              simp only [↓DN, UP, DF, qSh, qCv, qIA, qIx, qSl, qBu, qCe, qOn, reduceCtorEq, ↓reduceIte, nLT, nLE, nEQ, nAdd, nMul, nPow, nSub, zLT, zLE, zNat, RMsg2025, hd, hd']
              refine hK _ _ ?_
              clear hK K
              refine awp_cond_k ?_
              intro X Y hX hY
              simp only [↓DN, UP, DF, qSh, qCv, qIA, qIx, qSl, qBu, qCe, qOn, reduceCtorEq, ↓reduceIte, nLT, nLE, nEQ, nAdd, nMul, nPow, nSub, zLT, zLE, zNat, RMsg2025, DB]
              refine hX ?_
              clear hX hY X Y
              refine awp_reg_seq ?_
              intro K hK
              simp only [↓DN, UP, DF, qSh, qCv, qIA, qIx, qSl, qBu, qCe, qOn, reduceCtorEq, ↓reduceIte, nLT, nLE, nEQ, nAdd, nMul, nPow, nSub, zLT, zLE, zNat, RMsg2025]
              refine hK _ _ ?_
              clear hK K
              refine awp_ret ?_
              try simp only [thenQ, blockQ]
              simp only [retQ, AEnds, aresL, ares, List.toList_toArray, ↓upd_same]; try simp only [↓DN, UP, DF, qSh, qCv, qIA, qIx, qSl, qBu, qCe, qOn, reduceCtorEq, ↓reduceIte, nLT, nLE, nEQ, nAdd, nMul, nPow, nSub, zLT, zLE, zNat, RMsg2025, DT]
              rw [hno]
              exact ⟨_, _, AV.weak.refl _, AS.le.refl _, rfl, rfl⟩
        · refine awp_reg_seq ?_
          intro K hK
          simp only [↓DN, UP, DF, qSh, qCv, qIA, qIx, qSl, qBu, qCe, qOn, reduceCtorEq, ↓reduceIte, nLT, nLE, nEQ, nAdd, nMul, nPow, nSub, zLT, zLE, zNat, RMsg2025, g5, g2, eye_lt_nat, decide_eq_false hi']
          refine hK _ _ ?_
          clear hK K
          refine awp_cond_k ?_
          intro X Y hX hY
          simp only [↓DN, UP, DF, qSh, qCv, qIA, qIx, qSl, qBu, qCe, qOn, reduceCtorEq, ↓reduceIte, nLT, nLE, nEQ, nAdd, nMul, nPow, nSub, zLT, zLE, zNat, RMsg2025, DB]
          refine hY ?_
          clear hX hY X Y
          refine awp_exit ?_
          simp only [thenQ, blockQ, if_true]
          have hi3 : ¬ i < l1.length := hi'
          obtain rfl : l1 = l2 := take_eq_full hll hi3 hall
          refine hK _ _ ?_
          clear hK K hK2 K2
          refine awp_reg_seq ?_
          intro K hK
          simp only [↓DN, UP, DF, qSh, qCv, qIA, qIx, qSl, qBu, qCe, qOn, reduceCtorEq, ↓reduceIte, nLT, nLE, nEQ, nAdd, nMul, nPow, nSub, zLT, zLE, zNat, RMsg2025]
          refine hK _ _ ?_
          clear hK K
          refine awp_ret ?_
          simp only [retQ, AEnds, aresL, ares, List.toList_toArray, ↓upd_same]; try simp only [↓DN, UP, DF, qSh, qCv, qIA, qIx, qSl, qBu, qCe, qOn, reduceCtorEq, ↓reduceIte, nLT, nLE, nEQ, nAdd, nMul, nPow, nSub, zLT, zLE, zNat, RMsg2025, DT]
          exact ⟨_, _, AV.weak.refl _, AS.le.refl _, by simp, rfl⟩
    · have hno : decide ((⟨g1, e1, d1, l1, p1, u1, c1, m1⟩ : CommitV) = ⟨g1, e1, d1, l2, p1, u2, c2, m2⟩) = false := decide_eq_false fun q => hq (by simp only [CommitV.mk.injEq] at q; exact ⟨q.2.2.2.2.2.1, q.2.2.2.2.2.2.1, q.2.2.2.2.2.2.2⟩)
      rw [hno]
      have hcc : u1 = u2 → c1 = c2 → m1 ≠ m2 := fun a b c => hq ⟨a, b, c⟩
      refine awp_reg_seq ?_
      intro K hK
      simp only [↓DN, UP, DF, qSh, qCv, qIA, qIx, qSl, qBu, qCe, qOn, reduceCtorEq, ↓reduceIte, nLT, nLE, nEQ, nAdd, nMul, nPow, nSub, zLT, zLE, zNat, RMsg2025, listEq (show g1 = g1 from rfl), eqI (show e1 = e1 from rfl), eqI (show d1 = d1 from rfl), natEq hll, eqB (show p1 = p1 from rfl)]
      refine acallk (hpc _) ?_
      rintro r s1 ⟨rfl, rfl⟩
      rcases ff1 P with hPf | hPt
      · simp only [↓AXq_nil, ↓AXq_cons, pval, ↓AXz_nil, ↓AXz_cons, ↓AGiv_call, glook_nil, glook_cons, glookN_nil, glookN_cons, noughtV, pval, DX, Nat.reduceBEq, List.toList_toArray, List.map_cons, List.map_nil, aeval, DX, Nat.reduceBEq, ↓DN, UP, DF, qSh, qCv, qIA, qIx, qSl, qBu, qCe, qOn, reduceCtorEq, ↓reduceIte, nLT, nLE, nEQ, nAdd, nMul, nPow, nSub, zLT, zLE, zNat, RMsg2025, hPf]
        refine hK _ _ ?_
        clear hK K
        refine awp_cond_k ?_
        intro X Y hX hY
        simp only [↓DN, UP, DF, qSh, qCv, qIA, qIx, qSl, qBu, qCe, qOn, reduceCtorEq, ↓reduceIte, nLT, nLE, nEQ, nAdd, nMul, nPow, nSub, zLT, zLE, zNat, RMsg2025, DB]
        refine hX ?_
        clear hX hY X Y
        refine awp_reg_seq ?_
        intro K hK
        simp only [↓DN, UP, DF, qSh, qCv, qIA, qIx, qSl, qBu, qCe, qOn, reduceCtorEq, ↓reduceIte, nLT, nLE, nEQ, nAdd, nMul, nPow, nSub, zLT, zLE, zNat, RMsg2025]
        refine hK _ _ ?_
        clear hK K
        refine awp_ret ?_
        try simp only [thenQ, blockQ]
        simp only [retQ, AEnds, aresL, ares, List.toList_toArray, ↓upd_same]; try simp only [↓DN, UP, DF, qSh, qCv, qIA, qIx, qSl, qBu, qCe, qOn, reduceCtorEq, ↓reduceIte, nLT, nLE, nEQ, nAdd, nMul, nPow, nSub, zLT, zLE, zNat, RMsg2025, DT]
        exact ⟨_, _, AV.weak.refl _, AS.le.refl _, rfl, rfl⟩
      · have hu12 : u1 = u2 := by rw [hPt] at hP; exact of_decide_eq_true hP.symm
        by_cases hc : c1 = c2
        · simp only [↓AXq_nil, ↓AXq_cons, pval, DX, Nat.reduceBEq, ↓DN, UP, DF, qSh, qCv, qIA, qIx, qSl, qBu, qCe, qOn, reduceCtorEq, ↓reduceIte, nLT, nLE, nEQ, nAdd, nMul, nPow, nSub, zLT, zLE, zNat, RMsg2025, hPt, listEq hc, listNe (hcc hu12 hc)]
          refine hK _ _ ?_
          clear hK K
          refine awp_cond_k ?_
          intro X Y hX hY
          simp only [↓DN, UP, DF, qSh, qCv, qIA, qIx, qSl, qBu, qCe, qOn, reduceCtorEq, ↓reduceIte, nLT, nLE, nEQ, nAdd, nMul, nPow, nSub, zLT, zLE, zNat, RMsg2025, DB]
          refine hX ?_
          clear hX hY X Y
          refine awp_reg_seq ?_
          intro K hK
          simp only [↓DN, UP, DF, qSh, qCv, qIA, qIx, qSl, qBu, qCe, qOn, reduceCtorEq, ↓reduceIte, nLT, nLE, nEQ, nAdd, nMul, nPow, nSub, zLT, zLE, zNat, RMsg2025]
          refine hK _ _ ?_
          clear hK K
          refine awp_ret ?_
          try simp only [thenQ, blockQ]
          simp only [retQ, AEnds, aresL, ares, List.toList_toArray, ↓upd_same]; try simp only [↓DN, UP, DF, qSh, qCv, qIA, qIx, qSl, qBu, qCe, qOn, reduceCtorEq, ↓reduceIte, nLT, nLE, nEQ, nAdd, nMul, nPow, nSub, zLT, zLE, zNat, RMsg2025, DT]
          exact ⟨_, _, AV.weak.refl _, AS.le.refl _, rfl, rfl⟩
        · simp only [↓AXq_nil, ↓AXq_cons, pval, DX, Nat.reduceBEq, ↓DN, UP, DF, qSh, qCv, qIA, qIx, qSl, qBu, qCe, qOn, reduceCtorEq, ↓reduceIte, nLT, nLE, nEQ, nAdd, nMul, nPow, nSub, zLT, zLE, zNat, RMsg2025, hPt, listNe hc]
          refine hK _ _ ?_
          clear hK K
          refine awp_cond_k ?_
          intro X Y hX hY
          simp only [↓DN, UP, DF, qSh, qCv, qIA, qIx, qSl, qBu, qCe, qOn, reduceCtorEq, ↓reduceIte, nLT, nLE, nEQ, nAdd, nMul, nPow, nSub, zLT, zLE, zNat, RMsg2025, DB]
          refine hX ?_
          clear hX hY X Y
          refine awp_reg_seq ?_
          intro K hK
          simp only [↓DN, UP, DF, qSh, qCv, qIA, qIx, qSl, qBu, qCe, qOn, reduceCtorEq, ↓reduceIte, nLT, nLE, nEQ, nAdd, nMul, nPow, nSub, zLT, zLE, zNat, RMsg2025]
          refine hK _ _ ?_
          clear hK K
          refine awp_ret ?_
          try simp only [thenQ, blockQ]
          simp only [retQ, AEnds, aresL, ares, List.toList_toArray, ↓upd_same]; try simp only [↓DN, UP, DF, qSh, qCv, qIA, qIx, qSl, qBu, qCe, qOn, reduceCtorEq, ↓reduceIte, nLT, nLE, nEQ, nAdd, nMul, nPow, nSub, zLT, zLE, zNat, RMsg2025, DT]
          exact ⟨_, _, AV.weak.refl _, AS.le.refl _, rfl, rfl⟩
  · have hno : decide ((⟨g1, e1, d1, l1, p1, u1, c1, m1⟩ : CommitV) = ⟨g2, e2, d2, l2, p2, u2, c2, m2⟩) = false := decide_eq_false fun q => hh (by simp only [CommitV.mk.injEq] at q; exact ⟨q.1, q.2.1, q.2.2.1, by rw [q.2.2.2.1], q.2.2.2.2.1⟩)
    rw [hno]
    have hall5 : ∀ (B1 B2 B3 B4 B5 : Bool), B1 = (g1 != g2) → B2 = (e1 != e2) → B3 = (d1 != d2) → B4 = ((l1.length : Int) != (l2.length : Int)) → B5 = (p1 != p2) → (B1 = false ∧ B2 = false ∧ B3 = false ∧ B4 = false ∧ B5 = false) → False := by
      rintro _ _ _ _ _ rfl rfl rfl rfl rfl ⟨q1, q2, q3, q4, q5⟩
      apply hh
      simp only [bne_eq_false_iff_eq, Int.natCast_inj] at q1 q2 q3 q4 q5
      exact ⟨q1, q2, q3, q4, q5⟩
    rcases tt5 (g1 != g2) (e1 != e2) (d1 != d2) ((l1.length : Int) != (l2.length : Int)) (p1 != p2) with hd | hd | hd | hd | hd | hd
    case inr.inr.inr.inr.inr => exact (hall5 _ _ _ _ _ rfl rfl rfl rfl rfl hd).elim
    case inl =>
      have f1 := listNe (by simpa using hd : g1 ≠ g2)
      refine awp_reg_seq ?_
      intro K hK
      simp only [↓DN, UP, DF, qSh, qCv, qIA, qIx, qSl, qBu, qCe, qOn, reduceCtorEq, ↓reduceIte, nLT, nLE, nEQ, nAdd, nMul, nPow, nSub, zLT, zLE, zNat, RMsg2025, f1]
      refine hK _ _ ?_
      clear hK K
      refine awp_cond_k ?_
      intro X Y hX hY
      simp only [↓DN, UP, DF, qSh, qCv, qIA, qIx, qSl, qBu, qCe, qOn, reduceCtorEq, ↓reduceIte, nLT, nLE, nEQ, nAdd, nMul, nPow, nSub, zLT, zLE, zNat, RMsg2025, DB]
      refine hX ?_
      clear hX hY X Y
      refine awp_reg_seq ?_
      intro K hK
      simp only [↓DN, UP, DF, qSh, qCv, qIA, qIx, qSl, qBu, qCe, qOn, reduceCtorEq, ↓reduceIte, nLT, nLE, nEQ, nAdd, nMul, nPow, nSub, zLT, zLE, zNat, RMsg2025]
      refine hK _ _ ?_
      clear hK K
      refine awp_ret ?_
      try simp only [thenQ, blockQ]
      simp only [retQ, AEnds, aresL, ares, List.toList_toArray, ↓upd_same]; try simp only [↓DN, UP, DF, qSh, qCv, qIA, qIx, qSl, qBu, qCe, qOn, reduceCtorEq, ↓reduceIte, nLT, nLE, nEQ, nAdd, nMul, nPow, nSub, zLT, zLE, zNat, RMsg2025, DT]
      exact ⟨_, _, AV.weak.refl _, AS.le.refl _, rfl, rfl⟩
    case inr.inl =>
      have f1 := listEq (by simpa using hd.1 : g1 = g2)
      have f2 := neI (by simpa using hd.2 : e1 ≠ e2)
      refine awp_reg_seq ?_
      intro K hK
      simp only [↓DN, UP, DF, qSh, qCv, qIA, qIx, qSl, qBu, qCe, qOn, reduceCtorEq, ↓reduceIte, nLT, nLE, nEQ, nAdd, nMul, nPow, nSub, zLT, zLE, zNat, RMsg2025, f1, f2]
      refine hK _ _ ?_
      clear hK K
      refine awp_cond_k ?_
      intro X Y hX hY
      simp only [↓DN, UP, DF, qSh, qCv, qIA, qIx, qSl, qBu, qCe, qOn, reduceCtorEq, ↓reduceIte, nLT, nLE, nEQ, nAdd, nMul, nPow, nSub, zLT, zLE, zNat, RMsg2025, DB]
      refine hX ?_
      clear hX hY X Y
      refine awp_reg_seq ?_
      intro K hK
      simp only [↓DN, UP, DF, qSh, qCv, qIA, qIx, qSl, qBu, qCe, qOn, reduceCtorEq, ↓reduceIte, nLT, nLE, nEQ, nAdd, nMul, nPow, nSub, zLT, zLE, zNat, RMsg2025]
      refine hK _ _ ?_
      clear hK K
      refine awp_ret ?_
      try simp only [thenQ, blockQ]
      simp only [retQ, AEnds, aresL, ares, List.toList_toArray, ↓upd_same]; try simp only [↓DN, UP, DF, qSh, qCv, qIA, qIx, qSl, qBu, qCe, qOn, reduceCtorEq, ↓reduceIte, nLT, nLE, nEQ, nAdd, nMul, nPow, nSub, zLT, zLE, zNat, RMsg2025, DT]
      exact ⟨_, _, AV.weak.refl _, AS.le.refl _, rfl, rfl⟩
    case inr.inr.inl =>
      have f1 := listEq (by simpa using hd.1 : g1 = g2)
      have f2 := eqI (by simpa using hd.2.1 : e1 = e2)
      have f3 := neI (by simpa using hd.2.2 : d1 ≠ d2)
      refine awp_reg_seq ?_
      intro K hK
      simp only [↓DN, UP, DF, qSh, qCv, qIA, qIx, qSl, qBu, qCe, qOn, reduceCtorEq, ↓reduceIte, nLT, nLE, nEQ, nAdd, nMul, nPow, nSub, zLT, zLE, zNat, RMsg2025, f1, f2, f3]
      refine hK _ _ ?_
      clear hK K
      refine awp_cond_k ?_
      intro X Y hX hY
      simp only [↓DN, UP, DF, qSh, qCv, qIA, qIx, qSl, qBu, qCe, qOn, reduceCtorEq, ↓reduceIte, nLT, nLE, nEQ, nAdd, nMul, nPow, nSub, zLT, zLE, zNat, RMsg2025, DB]
      refine hX ?_
      clear hX hY X Y
      refine awp_reg_seq ?_
      intro K hK
      simp only [↓DN, UP, DF, qSh, qCv, qIA, qIx, qSl, qBu, qCe, qOn, reduceCtorEq, ↓reduceIte, nLT, nLE, nEQ, nAdd, nMul, nPow, nSub, zLT, zLE, zNat, RMsg2025]
      refine hK _ _ ?_
      clear hK K
      refine awp_ret ?_
      try simp only [thenQ, blockQ]
      simp only [retQ, AEnds, aresL, ares, List.toList_toArray, ↓upd_same]; try simp only [↓DN, UP, DF, qSh, qCv, qIA, qIx, qSl, qBu, qCe, qOn, reduceCtorEq, ↓reduceIte, nLT, nLE, nEQ, nAdd, nMul, nPow, nSub, zLT, zLE, zNat, RMsg2025, DT]
      exact ⟨_, _, AV.weak.refl _, AS.le.refl _, rfl, rfl⟩
    case inr.inr.inr.inl =>
      have f1 := listEq (by simpa using hd.1 : g1 = g2)
      have f2 := eqI (by simpa using hd.2.1 : e1 = e2)
      have f3 := eqI (by simpa using hd.2.2.1 : d1 = d2)
      have f4 := hd.2.2.2
      refine awp_reg_seq ?_
      intro K hK
      simp only [↓DN, UP, DF, qSh, qCv, qIA, qIx, qSl, qBu, qCe, qOn, reduceCtorEq, ↓reduceIte, nLT, nLE, nEQ, nAdd, nMul, nPow, nSub, zLT, zLE, zNat, RMsg2025, f1, f2, f3, f4]
      refine hK _ _ ?_
      clear hK K
      refine awp_cond_k ?_
      intro X Y hX hY
      simp only [↓DN, UP, DF, qSh, qCv, qIA, qIx, qSl, qBu, qCe, qOn, reduceCtorEq, ↓reduceIte, nLT, nLE, nEQ, nAdd, nMul, nPow, nSub, zLT, zLE, zNat, RMsg2025, DB]
      refine hX ?_
      clear hX hY X Y
      refine awp_reg_seq ?_
      intro K hK
      simp only [↓DN, UP, DF, qSh, qCv, qIA, qIx, qSl, qBu, qCe, qOn, reduceCtorEq, ↓reduceIte, nLT, nLE, nEQ, nAdd, nMul, nPow, nSub, zLT, zLE, zNat, RMsg2025]
      refine hK _ _ ?_
      clear hK K
      refine awp_ret ?_
      try simp only [thenQ, blockQ]
      simp only [retQ, AEnds, aresL, ares, List.toList_toArray, ↓upd_same]; try simp only [↓DN, UP, DF, qSh, qCv, qIA, qIx, qSl, qBu, qCe, qOn, reduceCtorEq, ↓reduceIte, nLT, nLE, nEQ, nAdd, nMul, nPow, nSub, zLT, zLE, zNat, RMsg2025, DT]
      exact ⟨_, _, AV.weak.refl _, AS.le.refl _, rfl, rfl⟩
    case inr.inr.inr.inr.inl =>
      have hp12 : (p1 = true ∧ p2 = false) ∨ (p1 = false ∧ p2 = true) := by
        have := hd.2.2.2.2
        revert this
        cases p1 <;> cases p2 <;> simp
      have f1 := listEq (by simpa using hd.1 : g1 = g2)
      have f2 := eqI (by simpa using hd.2.1 : e1 = e2)
      have f3 := eqI (by simpa using hd.2.2.1 : d1 = d2)
      have f4 := hd.2.2.2.1
      have f5 : (true != false) = true ∧ (true == false) = false := ⟨rfl, rfl⟩
      have f6 : (false != true) = true ∧ (false == true) = false := ⟨rfl, rfl⟩
      clear hd hpc
      rcases hp12 with ⟨rfl, rfl⟩ | ⟨rfl, rfl⟩
      all_goals
        refine awp_reg_seq ?_
        intro K hK
        simp only [↓DN, UP, DF, qSh, qCv, qIA, qIx, qSl, qBu, qCe, qOn, reduceCtorEq, ↓reduceIte, nLT, nLE, nEQ, nAdd, nMul, nPow, nSub, zLT, zLE, zNat, RMsg2025, f1, f2, f3, f4, f5, f6]
        refine hK _ _ ?_
        clear hK K
        refine awp_cond_k ?_
        intro X Y hX hY
        simp only [↓DN, UP, DF, qSh, qCv, qIA, qIx, qSl, qBu, qCe, qOn, reduceCtorEq, ↓reduceIte, nLT, nLE, nEQ, nAdd, nMul, nPow, nSub, zLT, zLE, zNat, RMsg2025, DB]
        refine hX ?_
        clear hX hY X Y
        refine awp_reg_seq ?_
        intro K hK
        simp only [↓DN, UP, DF, qSh, qCv, qIA, qIx, qSl, qBu, qCe, qOn, reduceCtorEq, ↓reduceIte, nLT, nLE, nEQ, nAdd, nMul, nPow, nSub, zLT, zLE, zNat, RMsg2025]
        refine hK _ _ ?_
        clear hK K
        refine awp_ret ?_
        try simp only [thenQ, blockQ]
        simp only [retQ, AEnds, aresL, ares, List.toList_toArray, ↓upd_same]; try simp only [↓DN, UP, DF, qSh, qCv, qIA, qIx, qSl, qBu, qCe, qOn, reduceCtorEq, ↓reduceIte, nLT, nLE, nEQ, nAdd, nMul, nPow, nSub, zLT, zLE, zNat, RMsg2025, DT]
        exact ⟨_, _, AV.weak.refl _, AS.le.refl _, rfl, rfl⟩

end Go.Proofs.Ytcnilmidfhpckaa


set_option autoImplicit false
namespace Go.Proofs.Ytcnilmidfhpckaa
open Go Go.AM Go.Proofs

theorem RMsg2117 : type_of% (And.intro (And.intro (And.intro (And.intro (And.intro (And.intro (And.intro @Try.underlying3 T.c3) (And.intro T.g3 (And.intro T.b3 T.z3))) (And.intro (And.intro @Try.underlying4 T.c4) (And.intro T.g4 (And.intro T.b4 T.z4)))) (And.intro (And.intro (And.intro @Try.underlying5 T.c5) (And.intro T.g5 (And.intro T.b5 T.z5))) (And.intro (And.intro @Try.underlying28 (And.intro T.c28 T.g28)) (And.intro T.b28 (And.intro T.z28 T.s28))))) (And.intro (And.intro (And.intro (And.intro @Try.underlying41 T.c41) (And.intro T.g41 (And.intro T.b41 T.z41))) (And.intro (And.intro T.s41 @Try.underlying42) (And.intro T.c42 (And.intro T.g42 T.b42)))) (And.intro (And.intro (And.intro T.z42 @Try.underlying43) (And.intro T.c43 (And.intro T.g43 T.b43))) (And.intro (And.intro T.z43 (And.intro T.s43 @Try.underlying45)) (And.intro T.c45 (And.intro T.g45 T.b45)))))) (And.intro (And.intro (And.intro (And.intro (And.intro T.z45 T.h45) (And.intro @Try.underlying47 (And.intro T.c47 T.g47))) (And.intro (And.intro T.b47 T.z47) (And.intro T.h47 (And.intro @Try.underlying80 T.c80)))) (And.intro (And.intro (And.intro T.g80 T.b80) (And.intro T.z80 (And.intro T.h80 @Try.underlying81))) (And.intro (And.intro T.c81 (And.intro T.g81 T.b81)) (And.intro T.z81 (And.intro T.s81 @Try.underlying83))))) (And.intro (And.intro (And.intro (And.intro T.c83 T.g83) (And.intro T.b83 (And.intro T.z83 T.h83))) (And.intro (And.intro @Try.underlying85 T.c85) (And.intro T.g85 (And.intro T.b85 T.z85)))) (And.intro (And.intro (And.intro T.h85 T.f45_1) (And.intro T.f45_2 (And.intro T.f47_0 T.f47_3))) (And.intro (And.intro T.f47_5 (And.intro T.f47_6 T.f47_7)) (And.intro T.f80_2 (And.intro T.f83_1 T.f85_1))))))) Try.ntmps17) :=
  (And.intro (And.intro (And.intro (And.intro (And.intro (And.intro (And.intro @Try.underlying3 T.c3) (And.intro T.g3 (And.intro T.b3 T.z3))) (And.intro (And.intro @Try.underlying4 T.c4) (And.intro T.g4 (And.intro T.b4 T.z4)))) (And.intro (And.intro (And.intro @Try.underlying5 T.c5) (And.intro T.g5 (And.intro T.b5 T.z5))) (And.intro (And.intro @Try.underlying28 (And.intro T.c28 T.g28)) (And.intro T.b28 (And.intro T.z28 T.s28))))) (And.intro (And.intro (And.intro (And.intro @Try.underlying41 T.c41) (And.intro T.g41 (And.intro T.b41 T.z41))) (And.intro (And.intro T.s41 @Try.underlying42) (And.intro T.c42 (And.intro T.g42 T.b42)))) (And.intro (And.intro (And.intro T.z42 @Try.underlying43) (And.intro T.c43 (And.intro T.g43 T.b43))) (And.intro (And.intro T.z43 (And.intro T.s43 @Try.underlying45)) (And.intro T.c45 (And.intro T.g45 T.b45)))))) (And.intro (And.intro (And.intro (And.intro (And.intro T.z45 T.h45) (And.intro @Try.underlying47 (And.intro T.c47 T.g47))) (And.intro (And.intro T.b47 T.z47) (And.intro T.h47 (And.intro @Try.underlying80 T.c80)))) (And.intro (And.intro (And.intro T.g80 T.b80) (And.intro T.z80 (And.intro T.h80 @Try.underlying81))) (And.intro (And.intro T.c81 (And.intro T.g81 T.b81)) (And.intro T.z81 (And.intro T.s81 @Try.underlying83))))) (And.intro (And.intro (And.intro (And.intro T.c83 T.g83) (And.intro T.b83 (And.intro T.z83 T.h83))) (And.intro (And.intro @Try.underlying85 T.c85) (And.intro T.g85 (And.intro T.b85 T.z85)))) (And.intro (And.intro (And.intro T.h85 T.f45_1) (And.intro T.f45_2 (And.intro T.f47_0 T.f47_3))) (And.intro (And.intro T.f47_5 (And.intro T.f47_6 T.f47_7)) (And.intro T.f80_2 (And.intro T.f83_1 T.f85_1))))))) Try.ntmps17)

variable {Γ : Nat → List AV}

set_option maxRecDepth 100000 in
set_option maxHeartbeats 8000000 in
/-- How great a commit is: some number (none of the laws asks which). -/
theorem great_calls (c : CommitV) (ha : c.wf) (s : AS) : ACalls Try.prog Γ 17 [.agg c.cells] s (fun r s' => (∃ n, r = .v (.int .i64 n)) ∧ s' = s) := by
  refine acalls_body Try.func17 rfl Try.ntmps17 Try.results17 (by simp) ?_
  obtain ⟨g, e, d, l, p, ⟨uk, up, us⟩, c, m⟩ := c
  obtain ⟨hw, ⟨_, hu, hul⟩, hl⟩ := ha
  simp only at hw hu hl hul
  unfold maxLen at hl hul
  unfold CommitV.cells
  simp only
  have hrow1 := fun i (h : i < l.length) => row_at (c := PropV.cells) (k := 5) (fun _ => rfl) h
  have hrow2 := fun i (h : i < us.length) => row_at (c := StepV.cells) (k := 2) (fun _ => rfl) h
  generalize rowC PropV.cells l = XX at *
  generalize rowC StepV.cells us = YY at *
  refine awp_reg_frz 1 (by simp [dsts]) ?_
  intro K hK
  simp only [↓AXq_nil, ↓AXq_cons, pval, DX, Nat.reduceBEq, ↓DN, UP, DF, qSh, qCv, qIA, qIx, qSl, qBu, qCe, qOn, reduceCtorEq, ↓reduceIte, nLT, nLE, nEQ, nAdd, nMul, nPow, nSub, zLT, zLE, zNat, RMsg2117]
  intro o ho
  refine hK _ _ o _ (by simp only [upd, nEQ, ↓reduceIte]) ho ?_
  clear hK K ho
  refine awp_reg_seq ?_
  intro K hK
  simp only [↓DN, UP, DF, qSh, qCv, qIA, qIx, qSl, qBu, qCe, qOn, reduceCtorEq, ↓reduceIte, nLT, nLE, nEQ, nAdd, nMul, nPow, nSub, zLT, zLE, zNat, RMsg2117]
  refine hK _ _ ?_
  clear hK K
  refine awp_seq_k ?_
  intro K1 hK1
  refine awp_reg_seq ?_
  intro K hK
  simp only [↓DN, UP, DF, qSh, qCv, qIA, qIx, qSl, qBu, qCe, qOn, reduceCtorEq, ↓reduceIte, nLT, nLE, nEQ, nAdd, nMul, nPow, nSub, zLT, zLE, zNat, RMsg2117]
  refine hK _ _ ?_
  clear hK K
  refine awp_block ?_
  refine awp_loop (fun E s1 => ∃ (i : Nat) (n : Int), i ≤ l.length ∧ E 4 = .v (.int .i64 i) ∧ E 3 = .v (.int .i64 n) ∧ E 1 = .rop [.sl 1 g.length (g.map byteV) .any, .v (.int .i64 e), .v (.int .i64 d), .sl 5 l.length XX .any, .v (.bool p), .v (.int .u64 uk), .sl 1 up.length (up.map byteV) .any, .sl 2 us.length YY .any, .sl 1 c.length (c.map byteV) .any, .sl 1 m.length (m.map byteV) .any] ∧ s1 = s)
    (fun E _ => match E 4 with | .v (.int _ i) => l.length - i.toNat | _ => 0) ?_ ?_
  · exact ⟨0, _, Nat.zero_le _, by simp only [upd, ↓reduceIte]; rfl, by simp only [upd, nEQ, ↓reduceIte]; rfl, by simp only [upd, nEQ, ↓reduceIte], rfl⟩
  · rintro E1 s1 ⟨i, n, hi, g4, g3, g1, rfl⟩ -
    refine awp_seq_k ?_
    intro K2 hK2
    by_cases hi' : i < l.length
    · refine awp_reg_seq ?_
      intro K hK
      simp only [↓DN, UP, DF, qSh, qCv, qIA, qIx, qSl, qBu, qCe, qOn, reduceCtorEq, ↓reduceIte, nLT, nLE, nEQ, nAdd, nMul, nPow, nSub, zLT, zLE, zNat, RMsg2117, g4, g1, eye_lt_nat, decide_eq_true hi']
      refine hK _ _ ?_
      clear hK K
      refine awp_cond_k ?_
      intro X Y hX hY
      simp only [↓DN, UP, DF, qSh, qCv, qIA, qIx, qSl, qBu, qCe, qOn, reduceCtorEq, ↓reduceIte, nLT, nLE, nEQ, nAdd, nMul, nPow, nSub, zLT, zLE, zNat, RMsg2117, DB]
      refine hX ?_
      clear hX hY X Y
      refine awp_skip ?_
      refine hK2 _ _ ?_
      clear hK2 K2
      refine awp_seq_k ?_
      intro K3 hK3
      refine awp_block ?_
      have hat := hrow1 i hi'
      have hge : (0 : Int) ≤ (i : Int) := by omega
      generalize l[i] = y1 at *
      obtain ⟨k1, f1, n1, x1, i1⟩ := y1
      unfold PropV.cells at hat
      simp only at hat
      refine awp_reg_end ?_
      intro K hK
      simp only [↓DN, UP, DF, qSh, qCv, qIA, qIx, qSl, qBu, qCe, qOn, reduceCtorEq, ↓reduceIte, nLT, nLE, nEQ, nAdd, nMul, nPow, nSub, zLT, zLE, zNat, RMsg2117, g4, g3, g1, eye_lt_nat, hi', hge, hat]
      refine hK _ _ ?_
      clear hK K
      simp only [blockQ, thenQ, if_true, if_false]
      refine hK3 _ _ ?_
      clear hK3 K3
      refine awp_reg_end ?_
      intro K hK
      simp only [↓DN, UP, DF, qSh, qCv, qIA, qIx, qSl, qBu, qCe, qOn, reduceCtorEq, ↓reduceIte, nLT, nLE, nEQ, nAdd, nMul, nPow, nSub, zLT, zLE, zNat, RMsg2117, g4, eye_succM i (by omega)]
      refine hK _ _ ?_
      clear hK K
      refine ⟨⟨i + 1, _, by omega, by simp only [upd, ↓reduceIte], by simp only [upd, nEQ, ↓reduceIte]; rfl, by simp only [upd, g1, nEQ, ↓reduceIte], rfl⟩, ?_⟩
      simp only [g4, upd, ↓reduceIte]
      omega
    · refine awp_reg_seq ?_
      intro K hK
      simp only [↓DN, UP, DF, qSh, qCv, qIA, qIx, qSl, qBu, qCe, qOn, reduceCtorEq, ↓reduceIte, nLT, nLE, nEQ, nAdd, nMul, nPow, nSub, zLT, zLE, zNat, RMsg2117, g4, g1, eye_lt_nat, decide_eq_false hi']
      refine hK _ _ ?_
      clear hK K
      refine awp_cond_k ?_
      intro X Y hX hY
      simp only [↓DN, UP, DF, qSh, qCv, qIA, qIx, qSl, qBu, qCe, qOn, reduceCtorEq, ↓reduceIte, nLT, nLE, nEQ, nAdd, nMul, nPow, nSub, zLT, zLE, zNat, RMsg2117, DB]
      refine hY ?_
      clear hX hY X Y
      refine awp_exit ?_
      simp only [thenQ, blockQ, if_true]
      refine hK1 _ _ ?_
      clear hK1 K1 hK2 K2
      refine awp_seq_k ?_
      intro K1 hK1
      refine awp_reg_seq ?_
      intro K hK
      simp only [↓DN, UP, DF, qSh, qCv, qIA, qIx, qSl, qBu, qCe, qOn, reduceCtorEq, ↓reduceIte, nLT, nLE, nEQ, nAdd, nMul, nPow, nSub, zLT, zLE, zNat, RMsg2117]
      refine hK _ _ ?_
      clear hK K
      refine awp_block ?_
      refine awp_loop (fun E s2 => ∃ (i : Nat) (n : Int), i ≤ us.length ∧ E 5 = .v (.int .i64 i) ∧ E 3 = .v (.int .i64 n) ∧ E 1 = .rop [.sl 1 g.length (g.map byteV) .any, .v (.int .i64 e), .v (.int .i64 d), .sl 5 l.length XX .any, .v (.bool p), .v (.int .u64 uk), .sl 1 up.length (up.map byteV) .any, .sl 2 us.length YY .any, .sl 1 c.length (c.map byteV) .any, .sl 1 m.length (m.map byteV) .any] ∧ s2 = s1)
        (fun E _ => match E 5 with | .v (.int _ i) => us.length - i.toNat | _ => 0) ?_ ?_
      · exact ⟨0, _, Nat.zero_le _, by simp only [upd, ↓reduceIte]; rfl, by simp only [upd, g3, nEQ, ↓reduceIte]; rfl, by simp only [upd, g1, nEQ, ↓reduceIte], rfl⟩
      · clear g4 g3 g1 hi'
        rintro E2 s2 ⟨i, n, hi, g5, g3, g1, rfl⟩ -
        refine awp_seq_k ?_
        intro K2 hK2
        by_cases hi' : i < us.length
        · refine awp_reg_seq ?_
          intro K hK
          simp only [↓DN, UP, DF, qSh, qCv, qIA, qIx, qSl, qBu, qCe, qOn, reduceCtorEq, ↓reduceIte, nLT, nLE, nEQ, nAdd, nMul, nPow, nSub, zLT, zLE, zNat, RMsg2117, g5, g1, eye_lt_nat, decide_eq_true hi']
          refine hK _ _ ?_
          clear hK K
          refine awp_cond_k ?_
          intro X Y hX hY
          simp only [↓DN, UP, DF, qSh, qCv, qIA, qIx, qSl, qBu, qCe, qOn, reduceCtorEq, ↓reduceIte, nLT, nLE, nEQ, nAdd, nMul, nPow, nSub, zLT, zLE, zNat, RMsg2117, DB]
          refine hX ?_
          clear hX hY X Y
          refine awp_skip ?_
          refine hK2 _ _ ?_
          clear hK2 K2
          refine awp_seq_k ?_
          intro K3 hK3
          refine awp_block ?_
          have hat := hrow2 i hi'
          have hge : (0 : Int) ≤ (i : Int) := by omega
          have hsw := hu us[i] (List.getElem_mem hi')
          generalize us[i] = y1 at *
          obtain ⟨k1, t1⟩ := y1
          obtain ⟨_, _, htl⟩ := hsw
          simp only at htl
          unfold maxLen at htl
          unfold StepV.cells at hat
          simp only at hat
          have hrow3 := fun i (h : i < t1.length) => row_at (c := SealV.cells) (k := 2) (fun _ => rfl) h
          generalize rowC SealV.cells t1 = T at *
          refine awp_reg_seq ?_
          intro K hK
          simp only [↓DN, UP, DF, qSh, qCv, qIA, qIx, qSl, qBu, qCe, qOn, reduceCtorEq, ↓reduceIte, nLT, nLE, nEQ, nAdd, nMul, nPow, nSub, zLT, zLE, zNat, RMsg2117, g3]
          refine hK _ _ ?_
          clear hK K
          refine awp_reg_seq ?_
          intro K hK
          simp only [↓DN, UP, DF, qSh, qCv, qIA, qIx, qSl, qBu, qCe, qOn, reduceCtorEq, ↓reduceIte, nLT, nLE, nEQ, nAdd, nMul, nPow, nSub, zLT, zLE, zNat, RMsg2117]
          refine hK _ _ ?_
          clear hK K
          refine awp_block ?_
          refine awp_loop (fun E s3 => ∃ (j : Nat) (n : Int), j ≤ t1.length ∧ E 6 = .v (.int .i64 j) ∧ E 5 = .v (.int .i64 i) ∧ E 3 = .v (.int .i64 n) ∧ E 1 = .rop [.sl 1 g.length (g.map byteV) .any, .v (.int .i64 e), .v (.int .i64 d), .sl 5 l.length XX .any, .v (.bool p), .v (.int .u64 uk), .sl 1 up.length (up.map byteV) .any, .sl 2 us.length YY .any, .sl 1 c.length (c.map byteV) .any, .sl 1 m.length (m.map byteV) .any] ∧ s3 = s2)
            (fun E _ => match E 6 with | .v (.int _ i) => t1.length - i.toNat | _ => 0) ?_ ?_
          · exact ⟨0, _, Nat.zero_le _, by simp only [upd, ↓reduceIte]; rfl, by simp only [upd, g5, nEQ, ↓reduceIte], by simp only [upd, nEQ, ↓reduceIte]; rfl, by simp only [upd, g1, nEQ, ↓reduceIte], rfl⟩
          · have G5 := g5
            clear g5 g3 g1
            rintro E3 s3 ⟨j, n, hj, g6, g5, g3, g1, rfl⟩ -
            refine awp_seq_k ?_
            intro K4 hK4
            by_cases hj' : j < t1.length
            · refine awp_reg_seq ?_
              intro K hK
              simp only [↓DN, UP, DF, qSh, qCv, qIA, qIx, qSl, qBu, qCe, qOn, reduceCtorEq, ↓reduceIte, nLT, nLE, nEQ, nAdd, nMul, nPow, nSub, zLT, zLE, zNat, RMsg2117, g6, g5, g1, eye_lt_nat, hi', hge, hat, decide_eq_true hj']
              refine hK _ _ ?_
              clear hK K
              refine awp_cond_k ?_
              intro X Y hX hY
              simp only [↓DN, UP, DF, qSh, qCv, qIA, qIx, qSl, qBu, qCe, qOn, reduceCtorEq, ↓reduceIte, nLT, nLE, nEQ, nAdd, nMul, nPow, nSub, zLT, zLE, zNat, RMsg2117, DB]
              refine hX ?_
              clear hX hY X Y
              refine awp_skip ?_
              refine hK4 _ _ ?_
              clear hK4 K4
              refine awp_seq_k ?_
              intro K5 hK5
              refine awp_block ?_
              have hbt := hrow3 j hj'
              have hgj : (0 : Int) ≤ (j : Int) := by omega
              generalize t1[j] = z1 at *
              obtain ⟨q1, q2⟩ := z1
              unfold SealV.cells at hbt
              simp only at hbt
              refine awp_reg_end ?_
              intro K hK
              simp only [↓DN, UP, DF, qSh, qCv, qIA, qIx, qSl, qBu, qCe, qOn, reduceCtorEq, ↓reduceIte, nLT, nLE, nEQ, nAdd, nMul, nPow, nSub, zLT, zLE, zNat, RMsg2117, g6, g5, g3, g1, eye_lt_nat, hi', hge, hat, hj', hgj, hbt]
              refine hK _ _ ?_
              clear hK K
              simp only [blockQ, thenQ, if_true, if_false]
              refine hK5 _ _ ?_
              clear hK5 K5
              refine awp_reg_end ?_
              intro K hK
              simp only [↓DN, UP, DF, qSh, qCv, qIA, qIx, qSl, qBu, qCe, qOn, reduceCtorEq, ↓reduceIte, nLT, nLE, nEQ, nAdd, nMul, nPow, nSub, zLT, zLE, zNat, RMsg2117, g6, eye_succM j (by omega)]
              refine hK _ _ ?_
              clear hK K
              refine ⟨⟨j + 1, _, by omega, by simp only [upd, ↓reduceIte], by simp only [upd, g5, nEQ, ↓reduceIte], by simp only [upd, nEQ, ↓reduceIte]; rfl, by simp only [upd, g1, nEQ, ↓reduceIte], rfl⟩, ?_⟩
              simp only [g6, upd, ↓reduceIte]
              omega
            · refine awp_reg_seq ?_
              intro K hK
              simp only [↓DN, UP, DF, qSh, qCv, qIA, qIx, qSl, qBu, qCe, qOn, reduceCtorEq, ↓reduceIte, nLT, nLE, nEQ, nAdd, nMul, nPow, nSub, zLT, zLE, zNat, RMsg2117, g6, g5, g1, eye_lt_nat, hi', hge, hat, decide_eq_false hj']
              refine hK _ _ ?_
              clear hK K
              refine awp_cond_k ?_
              intro X Y hX hY
              simp only [↓DN, UP, DF, qSh, qCv, qIA, qIx, qSl, qBu, qCe, qOn, reduceCtorEq, ↓reduceIte, nLT, nLE, nEQ, nAdd, nMul, nPow, nSub, zLT, zLE, zNat, RMsg2117, DB]
              refine hY ?_
              clear hX hY X Y
              refine awp_exit ?_
              simp only [thenQ, blockQ, if_true]
              refine hK3 _ _ ?_
              clear hK3 K3 hK4 K4
              refine awp_reg_end ?_
              intro K hK
              simp only [↓DN, UP, DF, qSh, qCv, qIA, qIx, qSl, qBu, qCe, qOn, reduceCtorEq, ↓reduceIte, nLT, nLE, nEQ, nAdd, nMul, nPow, nSub, zLT, zLE, zNat, RMsg2117, g5, eye_succM i (by omega)]
              refine hK _ _ ?_
              clear hK K
              refine ⟨⟨i + 1, _, by omega, by simp only [upd, ↓reduceIte], by simp only [upd, g3, nEQ, ↓reduceIte]; rfl, by simp only [upd, g1, nEQ, ↓reduceIte], rfl⟩, ?_⟩
              simp only [G5, upd, ↓reduceIte]
              omega
        · refine awp_reg_seq ?_
          intro K hK
          simp only [↓DN, UP, DF, qSh, qCv, qIA, qIx, qSl, qBu, qCe, qOn, reduceCtorEq, ↓reduceIte, nLT, nLE, nEQ, nAdd, nMul, nPow, nSub, zLT, zLE, zNat, RMsg2117, g5, g1, eye_lt_nat, decide_eq_false hi']
          refine hK _ _ ?_
          clear hK K
          refine awp_cond_k ?_
          intro X Y hX hY
          simp only [↓DN, UP, DF, qSh, qCv, qIA, qIx, qSl, qBu, qCe, qOn, reduceCtorEq, ↓reduceIte, nLT, nLE, nEQ, nAdd, nMul, nPow, nSub, zLT, zLE, zNat, RMsg2117, DB]
          refine hY ?_
          clear hX hY X Y
          refine awp_exit ?_
          simp only [thenQ, blockQ, if_true]
          refine hK1 _ _ ?_
          clear hK1 K1 hK2 K2
          refine awp_reg_seq ?_
          intro K hK
          simp only [↓DN, UP, DF, qSh, qCv, qIA, qIx, qSl, qBu, qCe, qOn, reduceCtorEq, ↓reduceIte, nLT, nLE, nEQ, nAdd, nMul, nPow, nSub, zLT, zLE, zNat, RMsg2117, g3]
          refine hK _ _ ?_
          clear hK K
          refine awp_ret ?_
          simp only [retQ, AEnds, aresL, ares, List.toList_toArray, ↓upd_same]; try simp only [↓DN, UP, DF, qSh, qCv, qIA, qIx, qSl, qBu, qCe, qOn, reduceCtorEq, ↓reduceIte, nLT, nLE, nEQ, nAdd, nMul, nPow, nSub, zLT, zLE, zNat, RMsg2117, DT]
          exact ⟨_, _, AV.weak.refl _, AS.le.refl _, ⟨n, rfl⟩, rfl⟩

end Go.Proofs.Ytcnilmidfhpckaa


set_option autoImplicit false
namespace Go.Proofs.Ytcnilmidfhpckaa
open Go Go.AM Go.Proofs

variable {Γ : Nat → List AV}

theorem listEqq {a : List UInt8} : (a == a) = true := by simp
end Go.Proofs.Ytcnilmidfhpckaa


set_option autoImplicit false
namespace Go.Proofs.Ytcnilmidfhpckaa
open Go Go.AM Go.Proofs

theorem RMsg2323 : type_of% (And.intro (And.intro (And.intro (And.intro (And.intro (And.intro (And.intro @Try.underlying3 T.c3) (And.intro T.g3 T.b3)) (And.intro (And.intro T.z3 @Try.underlying4) (And.intro T.c4 T.g4))) (And.intro (And.intro (And.intro T.b4 T.z4) (And.intro @Try.underlying5 T.c5)) (And.intro (And.intro T.g5 T.b5) (And.intro T.z5 @Try.underlying9)))) (And.intro (And.intro (And.intro (And.intro T.c9 T.g9) (And.intro T.b9 T.z9)) (And.intro (And.intro @Try.underlying28 T.c28) (And.intro T.g28 T.b28))) (And.intro (And.intro (And.intro T.z28 T.s28) (And.intro @Try.underlying41 T.c41)) (And.intro (And.intro T.g41 T.b41) (And.intro T.z41 T.s41))))) (And.intro (And.intro (And.intro (And.intro (And.intro @Try.underlying42 T.c42) (And.intro T.g42 T.b42)) (And.intro (And.intro T.z42 @Try.underlying43) (And.intro T.c43 T.g43))) (And.intro (And.intro (And.intro T.b43 T.z43) (And.intro T.s43 @Try.underlying45)) (And.intro (And.intro T.c45 T.g45) (And.intro T.b45 T.z45)))) (And.intro (And.intro (And.intro (And.intro T.h45 @Try.underlying47) (And.intro T.c47 T.g47)) (And.intro (And.intro T.b47 T.z47) (And.intro T.h47 @Try.underlying80))) (And.intro (And.intro (And.intro T.c80 T.g80) (And.intro T.b80 T.z80)) (And.intro (And.intro T.h80 T.f47_6) (And.intro T.f47_7 (And.intro T.k24 T.k65))))))) Try.ntmps23) :=
  (And.intro (And.intro (And.intro (And.intro (And.intro (And.intro (And.intro @Try.underlying3 T.c3) (And.intro T.g3 T.b3)) (And.intro (And.intro T.z3 @Try.underlying4) (And.intro T.c4 T.g4))) (And.intro (And.intro (And.intro T.b4 T.z4) (And.intro @Try.underlying5 T.c5)) (And.intro (And.intro T.g5 T.b5) (And.intro T.z5 @Try.underlying9)))) (And.intro (And.intro (And.intro (And.intro T.c9 T.g9) (And.intro T.b9 T.z9)) (And.intro (And.intro @Try.underlying28 T.c28) (And.intro T.g28 T.b28))) (And.intro (And.intro (And.intro T.z28 T.s28) (And.intro @Try.underlying41 T.c41)) (And.intro (And.intro T.g41 T.b41) (And.intro T.z41 T.s41))))) (And.intro (And.intro (And.intro (And.intro (And.intro @Try.underlying42 T.c42) (And.intro T.g42 T.b42)) (And.intro (And.intro T.z42 @Try.underlying43) (And.intro T.c43 T.g43))) (And.intro (And.intro (And.intro T.b43 T.z43) (And.intro T.s43 @Try.underlying45)) (And.intro (And.intro T.c45 T.g45) (And.intro T.b45 T.z45)))) (And.intro (And.intro (And.intro (And.intro T.h45 @Try.underlying47) (And.intro T.c47 T.g47)) (And.intro (And.intro T.b47 T.z47) (And.intro T.h47 @Try.underlying80))) (And.intro (And.intro (And.intro T.c80 T.g80) (And.intro T.b80 T.z80)) (And.intro (And.intro T.h80 T.f47_6) (And.intro T.f47_7 (And.intro T.k24 T.k65))))))) Try.ntmps23)
theorem RMsg234 : type_of% (And.intro (And.intro (And.intro (And.intro (And.intro (And.intro (And.intro @Try.underlying3 T.c3) (And.intro T.g3 T.b3)) (And.intro (And.intro T.z3 @Try.underlying4) (And.intro T.c4 (And.intro T.g4 T.b4)))) (And.intro (And.intro (And.intro T.z4 @Try.underlying5) (And.intro T.c5 (And.intro T.g5 T.b5))) (And.intro (And.intro T.z5 @Try.underlying9) (And.intro T.c9 (And.intro T.g9 T.b9))))) (And.intro (And.intro (And.intro (And.intro T.z9 @Try.underlying28) (And.intro T.c28 T.g28)) (And.intro (And.intro T.b28 T.z28) (And.intro T.s28 (And.intro @Try.underlying32 T.c32)))) (And.intro (And.intro (And.intro T.g32 T.b32) (And.intro T.z32 (And.intro @Try.underlying41 T.c41))) (And.intro (And.intro T.g41 T.b41) (And.intro T.z41 (And.intro T.s41 @Try.underlying42)))))) (And.intro (And.intro (And.intro (And.intro (And.intro T.c42 T.g42) (And.intro T.b42 T.z42)) (And.intro (And.intro @Try.underlying43 T.c43) (And.intro T.g43 (And.intro T.b43 T.z43)))) (And.intro (And.intro (And.intro T.s43 @Try.underlying45) (And.intro T.c45 (And.intro T.g45 T.b45))) (And.intro (And.intro T.z45 T.h45) (And.intro @Try.underlying47 (And.intro T.c47 T.g47))))) (And.intro (And.intro (And.intro (And.intro T.b47 T.z47) (And.intro T.h47 @Try.underlying80)) (And.intro (And.intro T.c80 T.g80) (And.intro T.b80 (And.intro T.z80 T.h80)))) (And.intro (And.intro (And.intro T.k17 T.k22) (And.intro T.k23 (And.intro T.k21 T.k25))) (And.intro (And.intro T.k20 T.k24) (And.intro T.k16 (And.intro T.k19 T.k18))))))) Try.ntmps4) :=
  (And.intro (And.intro (And.intro (And.intro (And.intro (And.intro (And.intro @Try.underlying3 T.c3) (And.intro T.g3 T.b3)) (And.intro (And.intro T.z3 @Try.underlying4) (And.intro T.c4 (And.intro T.g4 T.b4)))) (And.intro (And.intro (And.intro T.z4 @Try.underlying5) (And.intro T.c5 (And.intro T.g5 T.b5))) (And.intro (And.intro T.z5 @Try.underlying9) (And.intro T.c9 (And.intro T.g9 T.b9))))) (And.intro (And.intro (And.intro (And.intro T.z9 @Try.underlying28) (And.intro T.c28 T.g28)) (And.intro (And.intro T.b28 T.z28) (And.intro T.s28 (And.intro @Try.underlying32 T.c32)))) (And.intro (And.intro (And.intro T.g32 T.b32) (And.intro T.z32 (And.intro @Try.underlying41 T.c41))) (And.intro (And.intro T.g41 T.b41) (And.intro T.z41 (And.intro T.s41 @Try.underlying42)))))) (And.intro (And.intro (And.intro (And.intro (And.intro T.c42 T.g42) (And.intro T.b42 T.z42)) (And.intro (And.intro @Try.underlying43 T.c43) (And.intro T.g43 (And.intro T.b43 T.z43)))) (And.intro (And.intro (And.intro T.s43 @Try.underlying45) (And.intro T.c45 (And.intro T.g45 T.b45))) (And.intro (And.intro T.z45 T.h45) (And.intro @Try.underlying47 (And.intro T.c47 T.g47))))) (And.intro (And.intro (And.intro (And.intro T.b47 T.z47) (And.intro T.h47 @Try.underlying80)) (And.intro (And.intro T.c80 T.g80) (And.intro T.b80 (And.intro T.z80 T.h80)))) (And.intro (And.intro (And.intro T.k17 T.k22) (And.intro T.k23 (And.intro T.k21 T.k25))) (And.intro (And.intro T.k20 T.k24) (And.intro T.k16 (And.intro T.k19 T.k18))))))) Try.ntmps4)

variable {Γ : Nat → List AV}

set_option maxRecDepth 100000 in
set_option maxHeartbeats 8000000 in
theorem refMWrite_calls (c : CommitV) (hw : c.wf) (hr : c.right) (s : AS) : ACalls Try.prog Γ 23 [.agg c.cells] s (fun r s' => r = .v (.string ⟨c.text.toArray⟩) ∧ s' = s) := by
  refine acalls_body Try.func23 rfl Try.ntmps23 Try.results23 (by simp) ?_
  have h1 := fun s => refContent_calls (Γ := Γ) c hw hr s
  have hl := CommitV.content_len hr
  have ht : c.text = c.content ++ (txt 1 c.confirm ++ txt 1 c.member) := rfl
  obtain ⟨r1, r2, r3, r4, r5, r6, r7, r8⟩ := hr
  have h2 := fun s => refText_calls (Γ := Γ) c.confirm 1 (by omega) (by decide) s
  have h3 := fun s => refText_calls (Γ := Γ) c.member 1 (by omega) (by decide) s
  change ∀ s, ACalls _ _ _ _ s (fun r s' => r = .v (.string ⟨(txt 1 c.confirm).toArray⟩) ∧ s' = s) at h2
  change ∀ s, ACalls _ _ _ _ s (fun r s' => r = .v (.string ⟨(txt 1 c.member).toArray⟩) ∧ s' = s) at h3
  have l1 := txt_len 1 c.confirm
  have l2 := txt_len 1 c.member
  rw [ht]
  generalize c.content = A at *
  generalize txt 1 c.confirm = B at *
  generalize txt 1 c.member = C at *
  obtain ⟨g, e, d, l, p, ⟨uk, up, us⟩, cc, mm⟩ := c
  unfold CommitV.cells at h1 ⊢
  simp only at h1 h2 h3 r7 r8 l1 l2 ⊢
  generalize rowC PropV.cells l = XX at *
  generalize rowC StepV.cells us = YY at *
  refine awp_reg_frz 1 (by simp [dsts]) ?_
  intro K hK
  simp only [↓AXq_nil, ↓AXq_cons, pval, DX, Nat.reduceBEq, ↓DN, UP, DF, qSh, qCv, qIA, qIx, qSl, qBu, qCe, qOn, reduceCtorEq, ↓reduceIte, nLT, nLE, nEQ, nAdd, nMul, nPow, nSub, zLT, zLE, zNat, RMsg2323]
  intro o ho
  refine hK _ _ o _ (by simp only [upd, nEQ, ↓reduceIte]) ho ?_
  clear hK K ho
  refine awp_drw_seq T.mixed [1, 5, 10] (by kernel_rfl) ?_
  intro K hK
  simp only [↓AXq_nil, ↓AXq_cons, pval, DX, Nat.reduceBEq, ↓DN, UP, DF, qSh, qCv, qIA, qIx, qSl, qBu, qCe, qOn, reduceCtorEq, ↓reduceIte, nLT, nLE, nEQ, nAdd, nMul, nPow, nSub, zLT, zLE, zNat, RMsg2323]
  refine acallk (h1 _) ?_
  rintro r s1 ⟨rfl, rfl⟩
  simp only [↓AXq_nil, ↓AXq_cons, pval, DX, Nat.reduceBEq, ↓DN, UP, DF, qSh, qCv, qIA, qIx, qSl, qBu, qCe, qOn, reduceCtorEq, ↓reduceIte, nLT, nLE, nEQ, nAdd, nMul, nPow, nSub, zLT, zLE, zNat, RMsg2323]
  refine acallk (h2 _) ?_
  rintro r s2 ⟨rfl, rfl⟩
  simp only [↓AXq_nil, ↓AXq_cons, pval, DX, Nat.reduceBEq, ↓DN, UP, DF, qSh, qCv, qIA, qIx, qSl, qBu, qCe, qOn, reduceCtorEq, ↓reduceIte, nLT, nLE, nEQ, nAdd, nMul, nPow, nSub, zLT, zLE, zNat, RMsg2323, room2 (show A.length + B.length < 2 ^ 62 by omega)]
  refine acallk (h3 _) ?_
  rintro r s3 ⟨rfl, rfl⟩
  simp only [↓AXq_nil, ↓AXq_cons, pval, DX, Nat.reduceBEq, ↓DN, UP, DF, qSh, qCv, qIA, qIx, qSl, qBu, qCe, qOn, reduceCtorEq, ↓reduceIte, nLT, nLE, nEQ, nAdd, nMul, nPow, nSub, zLT, zLE, zNat, RMsg2323, room3 (show A.length + B.length + C.length < 2 ^ 62 by omega)]
  refine hK _ _ ?_
  clear hK K
  refine awp_ret ?_
  simp only [retQ, AEnds, aresL, ares, List.toList_toArray, ↓upd_same]; try simp only [↓DN, UP, DF, qSh, qCv, qIA, qIx, qSl, qBu, qCe, qOn, reduceCtorEq, ↓reduceIte, nLT, nLE, nEQ, nAdd, nMul, nPow, nSub, zLT, zLE, zNat, RMsg2323, DT]
  exact ⟨_, _, AV.weak.refl _, AS.le.refl _, rfl, rfl⟩

theorem bneq (b : Bool) : (b != b) = false ∧ (b == b) = true := by cases b <;> exact ⟨rfl, rfl⟩

set_option maxRecDepth 100000 in
set_option maxHeartbeats 8000000 in
theorem messageWrites_calls (c : CommitV) (hw : c.wf) (s : AS) : ACalls Try.prog Γ 4 [.agg c.cells] s (fun r s' => r = .v (.bool true)) := by
  refine acalls_body Try.func4 rfl Try.ntmps4 Try.results4 (by simp) ?_
  have hf := fits_of_wf hw
  have h1 := fun s => great_calls (Γ := Γ) c hw s
  have h2 := fun s => mwrite_calls (Γ := Γ) c hf hw s
  have h3 := fun s => content_calls (Γ := Γ) c hf hw s
  have h4 := fun s => mright_calls (Γ := Γ) c hf s
  have h5 := fun s => refMRight_calls (Γ := Γ) c hw s
  have h6 : c.right → ∀ s, ACalls Try.prog Γ 22 [bytesV (CommitV.octets c) .any] s (fun r s' => r = .tup [.agg c.cells, .v (.int .i64 0)] ∧ s' = s) := by
    intro hr s
    have hl := CommitV.text_len hr
    have := mread_calls (Γ := Γ) c.text (by omega) s
    rw [mRead_text c hr] at this
    rw [show CommitV.octets c = c.text from if_pos hr]
    exact this
  have h7 : c.right → ∀ s, ACalls Try.prog Γ 23 [.agg c.cells] s (fun r s' => r = .v (.string ⟨(CommitV.octets c).toArray⟩) ∧ s' = s) := by
    intro hr s
    rw [show CommitV.octets c = c.text from if_pos hr]
    exact refMWrite_calls c hw hr s
  have h8 : c.right → ∀ s, ACalls Try.prog Γ 24 [.agg c.cells] s (fun r s' => r = .v (.string ⟨(CommitV.contents c).toArray⟩) ∧ s' = s) := by
    intro hr s
    rw [show CommitV.contents c = c.content from if_pos hr]
    exact refContent_calls c hw hr s
  have h9 := fun s => same23_calls (Γ := Γ) c c hw s
  rw [decide_eq_true rfl] at h9
  have hno : ¬ c.right → CommitV.octets c = [] ∧ CommitV.contents c = [] := fun h => ⟨if_neg h, if_neg h⟩
  generalize CommitV.octets c = O at *
  generalize CommitV.contents c = TT at *
  have hR : ∀ b, decide c.right = b → (b = true → c.right) ∧ (b = false → ¬ c.right) := by
    rintro _ rfl
    exact ⟨of_decide_eq_true, of_decide_eq_false⟩
  obtain ⟨R, hRR⟩ : ∃ b, b = decide c.right := ⟨_, rfl⟩
  replace hR := hR R hRR.symm
  rw [← hRR] at h2 h3 h4 h5
  clear hRR
  obtain ⟨k1, k2⟩ := hR
  replace h6 := fun (q : R = true) => h6 (k1 q)
  replace h7 := fun (q : R = true) => h7 (k1 q)
  replace h8 := fun (q : R = true) => h8 (k1 q)
  replace hno := fun (q : R = false) => hno (k2 q)
  clear k1 k2
  obtain ⟨g, e, d, l, p, ⟨uk, up, us⟩, cc, mm⟩ := c
  unfold CommitV.cells at *
  simp only at *
  generalize rowC PropV.cells l = XX at *
  generalize rowC StepV.cells us = YY at *
  refine awp_reg_frz 1 (by simp [dsts]) ?_
  intro K hK
  simp only [↓AXq_nil, ↓AXq_cons, pval, DX, Nat.reduceBEq, ↓DN, UP, DF, qSh, qCv, qIA, qIx, qSl, qBu, qCe, qOn, reduceCtorEq, ↓reduceIte, nLT, nLE, nEQ, nAdd, nMul, nPow, nSub, zLT, zLE, zNat, RMsg234]
  intro o ho
  refine hK _ _ o _ (by simp only [upd, nEQ, ↓reduceIte]) ho ?_
  clear hK K ho
  refine awp_seq_k ?_
  intro K hK
  refine awp_reg_seq ?_
  intro K hK
  simp only [↓DN, UP, DF, qSh, qCv, qIA, qIx, qSl, qBu, qCe, qOn, reduceCtorEq, ↓reduceIte, nLT, nLE, nEQ, nAdd, nMul, nPow, nSub, zLT, zLE, zNat, RMsg234]
  refine acallk (awake23_calls _) ?_
  rintro r s1 ⟨rfl, rfl⟩
  simp only [↓AXq_nil, ↓AXq_cons, pval, DX, Nat.reduceBEq, ↓DN, UP, DF, qSh, qCv, qIA, qIx, qSl, qBu, qCe, qOn, reduceCtorEq, ↓reduceIte, nLT, nLE, nEQ, nAdd, nMul, nPow, nSub, zLT, zLE, zNat, RMsg234]
  refine acallk (h1 _) ?_
  rintro r s2 ⟨⟨n, rfl⟩, rfl⟩
  by_cases hn : (6000 : Int) < n
  · simp only [↓AXq_nil, ↓AXq_cons, pval, DX, Nat.reduceBEq, ↓DN, UP, DF, qSh, qCv, qIA, qIx, qSl, qBu, qCe, qOn, reduceCtorEq, ↓reduceIte, nLT, nLE, nEQ, nAdd, nMul, nPow, nSub, zLT, zLE, zNat, RMsg234, decide_eq_true hn]
    refine hK _ _ ?_
    clear hK K
    refine awp_cond_k ?_
    intro X Y hX hY
    simp only [↓DN, UP, DF, qSh, qCv, qIA, qIx, qSl, qBu, qCe, qOn, reduceCtorEq, ↓reduceIte, nLT, nLE, nEQ, nAdd, nMul, nPow, nSub, zLT, zLE, zNat, RMsg234, DB]
    refine hX ?_
    clear hX hY X Y
    refine awp_reg_seq ?_
    intro K hK
    simp only [↓DN, UP, DF, qSh, qCv, qIA, qIx, qSl, qBu, qCe, qOn, reduceCtorEq, ↓reduceIte, nLT, nLE, nEQ, nAdd, nMul, nPow, nSub, zLT, zLE, zNat, RMsg234]
    refine acallk (awake23_calls _) ?_
    rintro r s3 ⟨rfl, rfl⟩
    simp only [↓AXq_nil, ↓AXq_cons, pval, DX, Nat.reduceBEq, ↓DN, UP, DF, qSh, qCv, qIA, qIx, qSl, qBu, qCe, qOn, reduceCtorEq, ↓reduceIte, nLT, nLE, nEQ, nAdd, nMul, nPow, nSub, zLT, zLE, zNat, RMsg234]
    refine hK _ _ ?_
    clear hK K
    refine awp_ret ?_
    try simp only [thenQ, blockQ]
    simp only [retQ, AEnds, aresL, ares, List.toList_toArray, ↓upd_same]; try simp only [↓DN, UP, DF, qSh, qCv, qIA, qIx, qSl, qBu, qCe, qOn, reduceCtorEq, ↓reduceIte, nLT, nLE, nEQ, nAdd, nMul, nPow, nSub, zLT, zLE, zNat, RMsg234, DT]
    exact ⟨_, _, AV.weak.refl _, AS.le.refl _, rfl⟩
  · simp only [↓AXq_nil, ↓AXq_cons, pval, DX, Nat.reduceBEq, ↓DN, UP, DF, qSh, qCv, qIA, qIx, qSl, qBu, qCe, qOn, reduceCtorEq, ↓reduceIte, nLT, nLE, nEQ, nAdd, nMul, nPow, nSub, zLT, zLE, zNat, RMsg234, decide_eq_false hn]
    refine hK _ _ ?_
    clear hK K
    refine awp_cond_k ?_
    intro X Y hX hY
    simp only [↓DN, UP, DF, qSh, qCv, qIA, qIx, qSl, qBu, qCe, qOn, reduceCtorEq, ↓reduceIte, nLT, nLE, nEQ, nAdd, nMul, nPow, nSub, zLT, zLE, zNat, RMsg234, DB]
    refine hY ?_
    clear hX hY X Y
    refine awp_skip ?_
    refine hK _ _ ?_
    clear hK K
    refine awp_reg_seq ?_
    intro K hK
    simp only [↓DN, UP, DF, qSh, qCv, qIA, qIx, qSl, qBu, qCe, qOn, reduceCtorEq, ↓reduceIte, nLT, nLE, nEQ, nAdd, nMul, nPow, nSub, zLT, zLE, zNat, RMsg234]
    refine acallk (h2 _) ?_
    rintro r s3 ⟨rfl, rfl⟩
    simp only [↓AXq_nil, ↓AXq_cons, pval, DX, Nat.reduceBEq, ↓DN, UP, DF, qSh, qCv, qIA, qIx, qSl, qBu, qCe, qOn, reduceCtorEq, ↓reduceIte, nLT, nLE, nEQ, nAdd, nMul, nPow, nSub, zLT, zLE, zNat, RMsg234]
    refine hK _ _ ?_
    clear hK K
    refine awp_reg_seq ?_
    intro K hK
    simp only [↓DN, UP, DF, qSh, qCv, qIA, qIx, qSl, qBu, qCe, qOn, reduceCtorEq, ↓reduceIte, nLT, nLE, nEQ, nAdd, nMul, nPow, nSub, zLT, zLE, zNat, RMsg234]
    refine acallk (h3 _) ?_
    rintro r s4 ⟨rfl, rfl⟩
    simp only [↓AXq_nil, ↓AXq_cons, pval, DX, Nat.reduceBEq, ↓DN, UP, DF, qSh, qCv, qIA, qIx, qSl, qBu, qCe, qOn, reduceCtorEq, ↓reduceIte, nLT, nLE, nEQ, nAdd, nMul, nPow, nSub, zLT, zLE, zNat, RMsg234]
    refine hK _ _ ?_
    clear hK K
    refine awp_seq_k ?_
    intro K hK
    refine awp_drw_seq T.mixed [1, 3, 8] (by kernel_rfl) ?_
    intro K hK
    simp only [↓AXq_nil, ↓AXq_cons, pval, DX, Nat.reduceBEq, ↓DN, UP, DF, qSh, qCv, qIA, qIx, qSl, qBu, qCe, qOn, reduceCtorEq, ↓reduceIte, nLT, nLE, nEQ, nAdd, nMul, nPow, nSub, zLT, zLE, zNat, RMsg234]
    refine acallk (h4 _) ?_
    rintro r s5 ⟨rfl, rfl⟩
    simp only [↓AXq_nil, ↓AXq_cons, pval, DX, Nat.reduceBEq, ↓DN, UP, DF, qSh, qCv, qIA, qIx, qSl, qBu, qCe, qOn, reduceCtorEq, ↓reduceIte, nLT, nLE, nEQ, nAdd, nMul, nPow, nSub, zLT, zLE, zNat, RMsg234]
    refine acallk (h5 _) ?_
    rintro r s6 ⟨rfl, rfl⟩
    simp only [↓AXq_nil, ↓AXq_cons, pval, DX, Nat.reduceBEq, ↓DN, UP, DF, qSh, qCv, qIA, qIx, qSl, qBu, qCe, qOn, reduceCtorEq, ↓reduceIte, nLT, nLE, nEQ, nAdd, nMul, nPow, nSub, zLT, zLE, zNat, RMsg234, bneq]
    refine acallk (h4 _) ?_
    rintro r s7 ⟨rfl, rfl⟩
    simp only [↓AXq_nil, ↓AXq_cons, pval, DX, Nat.reduceBEq, ↓DN, UP, DF, qSh, qCv, qIA, qIx, qSl, qBu, qCe, qOn, reduceCtorEq, ↓reduceIte, nLT, nLE, nEQ, nAdd, nMul, nPow, nSub, zLT, zLE, zNat, RMsg234, bneq]
    refine hK _ _ ?_
    clear hK K
    refine awp_cond_k ?_
    intro X Y hX hY
    simp only [↓DN, UP, DF, qSh, qCv, qIA, qIx, qSl, qBu, qCe, qOn, reduceCtorEq, ↓reduceIte, nLT, nLE, nEQ, nAdd, nMul, nPow, nSub, zLT, zLE, zNat, RMsg234, DB]
    refine hY ?_
    clear hX hY X Y
    refine awp_skip ?_
    refine hK _ _ ?_
    clear hK K
    refine awp_seq_k ?_
    intro K hK
    cases R with
    | false =>
      obtain ⟨rfl, rfl⟩ := hno rfl
      refine awp_reg_seq ?_
      intro K hK
      simp only [↓DN, UP, DF, qSh, qCv, qIA, qIx, qSl, qBu, qCe, qOn, reduceCtorEq, ↓reduceIte, nLT, nLE, nEQ, nAdd, nMul, nPow, nSub, zLT, zLE, zNat, RMsg234]
      refine hK _ _ ?_
      clear hK K
      refine awp_cond_k ?_
      intro X Y hX hY
      simp only [↓DN, UP, DF, qSh, qCv, qIA, qIx, qSl, qBu, qCe, qOn, reduceCtorEq, ↓reduceIte, nLT, nLE, nEQ, nAdd, nMul, nPow, nSub, zLT, zLE, zNat, RMsg234, DB]
      refine hX ?_
      clear hX hY X Y
      refine awp_reg_seq ?_
      intro K hK
      simp only [↓DN, UP, DF, qSh, qCv, qIA, qIx, qSl, qBu, qCe, qOn, reduceCtorEq, ↓reduceIte, nLT, nLE, nEQ, nAdd, nMul, nPow, nSub, zLT, zLE, zNat, RMsg234]
      refine hK _ _ ?_
      clear hK K
      refine awp_ret ?_
      try simp only [thenQ, blockQ]
      simp only [retQ, AEnds, aresL, ares, List.toList_toArray, ↓upd_same]; try simp only [↓DN, UP, DF, qSh, qCv, qIA, qIx, qSl, qBu, qCe, qOn, reduceCtorEq, ↓reduceIte, nLT, nLE, nEQ, nAdd, nMul, nPow, nSub, zLT, zLE, zNat, RMsg234, DT]
      exact ⟨_, _, AV.weak.refl _, AS.le.refl _, rfl⟩
    | true =>
      have h6 := h6 rfl
      have h7 := h7 rfl
      have h8 := h8 rfl
      refine awp_reg_seq ?_
      intro K hK
      simp only [↓DN, UP, DF, qSh, qCv, qIA, qIx, qSl, qBu, qCe, qOn, reduceCtorEq, ↓reduceIte, nLT, nLE, nEQ, nAdd, nMul, nPow, nSub, zLT, zLE, zNat, RMsg234]
      refine hK _ _ ?_
      clear hK K
      refine awp_cond_k ?_
      intro X Y hX hY
      simp only [↓DN, UP, DF, qSh, qCv, qIA, qIx, qSl, qBu, qCe, qOn, reduceCtorEq, ↓reduceIte, nLT, nLE, nEQ, nAdd, nMul, nPow, nSub, zLT, zLE, zNat, RMsg234, DB]
      refine hY ?_
      clear hX hY X Y
      refine awp_skip ?_
      refine hK _ _ ?_
      clear hK K
      refine awp_reg_frz 7 (by simp [dsts]) ?_
      intro K hK
      simp only [↓AXq_nil, ↓AXq_cons, pval, DX, Nat.reduceBEq, ↓DN, UP, DF, qSh, qCv, qIA, qIx, qSl, qBu, qCe, qOn, reduceCtorEq, ↓reduceIte, nLT, nLE, nEQ, nAdd, nMul, nPow, nSub, zLT, zLE, zNat, RMsg234]
      refine acallk (h6 _) ?_
      rintro r s8 ⟨rfl, rfl⟩
      simp only [↓AXq_nil, ↓AXq_cons, pval, DX, Nat.reduceBEq, ↓DN, UP, DF, qSh, qCv, qIA, qIx, qSl, qBu, qCe, qOn, reduceCtorEq, ↓reduceIte, nLT, nLE, nEQ, nAdd, nMul, nPow, nSub, zLT, zLE, zNat, RMsg234]
      intro o7 ho7
      refine hK _ _ o7 _ (by simp only [upd, nEQ, ↓reduceIte]) ho7 ?_
      clear hK K ho7
      refine awp_drw_seq T.mixed [3, 9, 19] (by kernel_rfl) ?_
      intro K hK
      simp only [↓AXq_nil, ↓AXq_cons, pval, DX, Nat.reduceBEq, ↓DN, UP, DF, qSh, qCv, qIA, qIx, qSl, qBu, qCe, qOn, reduceCtorEq, ↓reduceIte, nLT, nLE, nEQ, nAdd, nMul, nPow, nSub, zLT, zLE, zNat, RMsg234]
      refine acallk (h7 _) ?_
      rintro r s9 ⟨rfl, rfl⟩
      simp only [↓AXq_nil, ↓AXq_cons, pval, DX, Nat.reduceBEq, ↓DN, UP, DF, qSh, qCv, qIA, qIx, qSl, qBu, qCe, qOn, reduceCtorEq, ↓reduceIte, nLT, nLE, nEQ, nAdd, nMul, nPow, nSub, zLT, zLE, zNat, RMsg234, listEqq]
      refine acallk (h8 _) ?_
      rintro r s10 ⟨rfl, rfl⟩
      simp only [↓AXq_nil, ↓AXq_cons, pval, DX, Nat.reduceBEq, ↓DN, UP, DF, qSh, qCv, qIA, qIx, qSl, qBu, qCe, qOn, reduceCtorEq, ↓reduceIte, nLT, nLE, nEQ, nAdd, nMul, nPow, nSub, zLT, zLE, zNat, RMsg234, listEqq]
      refine acallk (h9 _) ?_
      rintro r s11 ⟨rfl, rfl⟩
      simp only [↓AXq_nil, ↓AXq_cons, pval, DX, Nat.reduceBEq, ↓DN, UP, DF, qSh, qCv, qIA, qIx, qSl, qBu, qCe, qOn, reduceCtorEq, ↓reduceIte, nLT, nLE, nEQ, nAdd, nMul, nPow, nSub, zLT, zLE, zNat, RMsg234]
      refine hK _ _ ?_
      clear hK K
      refine awp_ret ?_
      simp only [retQ, AEnds, aresL, ares, List.toList_toArray, ↓upd_same]; try simp only [↓DN, UP, DF, qSh, qCv, qIA, qIx, qSl, qBu, qCe, qOn, reduceCtorEq, ↓reduceIte, nLT, nLE, nEQ, nAdd, nMul, nPow, nSub, zLT, zLE, zNat, RMsg234, DT]
      exact ⟨_, _, AV.weak.refl _, AS.le.refl _, rfl⟩

end Go.Proofs.Ytcnilmidfhpckaa


