/- Contracts of the program's functions, each walked once; the conditions stand in each theorem. -/
import Derived.Test.YtcnilmidfhpckaaAMp6
import Derived.Test.YtcnilmidfhpckaaW5
import Derived.Test.YtcnilmidfhpckaaW4
import Derived.Test.YtcnilmidfhpckaaW2
set_option linter.unusedSimpArgs false
set_option linter.unusedVariables false
open Nat renaming reduceLT → nLT, reduceLeDiff → nLE, reduceEqDiff → nEQ, reduceAdd → nAdd, reduceMul → nMul, reducePow → nPow, reduceSub → nSub
open Int renaming reduceLT → zLT, reduceLE → zLE, reduceToNat → zNat
open Go.AM renaming ashift → qSh, aconv → qCv, aindexAddr → qIA, aindex → qIx, aslice → qSl, abuiltin → qBu
open Go.AM.AV renaming cells → qCe, one → qOn
set_option autoImplicit false
namespace Go.Proofs.Ytcnilmidfhpckaa
open Go Go.AM Go.Proofs

theorem RMsg1153 : type_of% (And.intro (And.intro (And.intro (And.intro (And.intro (And.intro @Try.underlying3 (And.intro T.c3 T.g3)) (And.intro (And.intro T.b3 T.z3) (And.intro @Try.underlying5 T.c5))) (And.intro (And.intro (And.intro T.g5 T.b5) (And.intro T.z5 @Try.underlying9)) (And.intro (And.intro T.c9 T.g9) (And.intro T.b9 T.z9)))) (And.intro (And.intro (And.intro (And.intro @Try.underlying28 T.c28) (And.intro T.g28 T.b28)) (And.intro (And.intro T.z28 T.s28) (And.intro @Try.underlying42 T.c42))) (And.intro (And.intro (And.intro T.g42 T.b42) (And.intro T.z42 @Try.underlying43)) (And.intro (And.intro T.c43 T.g43) (And.intro T.b43 T.z43))))) (And.intro (And.intro (And.intro (And.intro (And.intro T.s43 @Try.underlying45) (And.intro T.c45 T.g45)) (And.intro (And.intro T.b45 T.z45) (And.intro T.h45 @Try.underlying81))) (And.intro (And.intro (And.intro T.c81 T.g81) (And.intro T.b81 T.z81)) (And.intro (And.intro T.s81 @Try.underlying83) (And.intro T.c83 T.g83)))) (And.intro (And.intro (And.intro (And.intro T.b83 T.z83) (And.intro T.h83 @Try.underlying85)) (And.intro (And.intro T.c85 T.g85) (And.intro T.b85 T.z85))) (And.intro (And.intro (And.intro T.h85 T.f45_0) (And.intro T.f45_1 T.f45_2)) (And.intro (And.intro T.f83_0 T.f83_1) (And.intro T.f85_0 T.f85_1)))))) Try.ntmps53) :=
  (And.intro (And.intro (And.intro (And.intro (And.intro (And.intro @Try.underlying3 (And.intro T.c3 T.g3)) (And.intro (And.intro T.b3 T.z3) (And.intro @Try.underlying5 T.c5))) (And.intro (And.intro (And.intro T.g5 T.b5) (And.intro T.z5 @Try.underlying9)) (And.intro (And.intro T.c9 T.g9) (And.intro T.b9 T.z9)))) (And.intro (And.intro (And.intro (And.intro @Try.underlying28 T.c28) (And.intro T.g28 T.b28)) (And.intro (And.intro T.z28 T.s28) (And.intro @Try.underlying42 T.c42))) (And.intro (And.intro (And.intro T.g42 T.b42) (And.intro T.z42 @Try.underlying43)) (And.intro (And.intro T.c43 T.g43) (And.intro T.b43 T.z43))))) (And.intro (And.intro (And.intro (And.intro (And.intro T.s43 @Try.underlying45) (And.intro T.c45 T.g45)) (And.intro (And.intro T.b45 T.z45) (And.intro T.h45 @Try.underlying81))) (And.intro (And.intro (And.intro T.c81 T.g81) (And.intro T.b81 T.z81)) (And.intro (And.intro T.s81 @Try.underlying83) (And.intro T.c83 T.g83)))) (And.intro (And.intro (And.intro (And.intro T.b83 T.z83) (And.intro T.h83 @Try.underlying85)) (And.intro (And.intro T.c85 T.g85) (And.intro T.b85 T.z85))) (And.intro (And.intro (And.intro T.h85 T.f45_0) (And.intro T.f45_1 T.f45_2)) (And.intro (And.intro T.f83_0 T.f83_1) (And.intro T.f85_0 T.f85_1)))))) Try.ntmps53)

variable {Γ : Nat → List AV}

theorem natNe {a b : Nat} (h : a ≠ b) : ((a : Int) != (b : Int)) = true := by simp only [bne_iff_ne, ne_eq]; omega
theorem natEq {a b : Nat} (h : a = b) : ((a : Int) != (b : Int)) = false := by subst h; simp
theorem listNe {a b : List UInt8} (h : a ≠ b) : (a != b) = true ∧ (!a == b) = true := ⟨by simpa using h, by simpa using h⟩
theorem listEq {a b : List UInt8} (h : a = b) : (a != b) = false ∧ (!a == b) = false := by subst h; simp
/-- Two rows are the same as far as they were looked at. -/
theorem take_eq {α : Type} {a b : List α} {i : Nat} (ha : i < a.length) (hb : i < b.length) (h : a.take i = b.take i) (he : a[i] = b[i]) : a.take (i + 1) = b.take (i + 1) := by
  rw [List.take_succ_eq_append_getElem ha, List.take_succ_eq_append_getElem hb, h, he]
theorem take_eq_full {α : Type} {a b : List α} {i : Nat} (hl : a.length = b.length) (ha : ¬ i < a.length) (h : a.take i = b.take i) : a = b := by
  rwa [List.take_of_length_le (by omega), List.take_of_length_le (by omega)] at h

set_option maxHeartbeats 8000000 in
set_option maxRecDepth 100000 in
theorem same21_calls (a b : PathV) (ha : a.wf) (s : AS) : ACalls Try.prog Γ 53 [.agg a.cells, .agg b.cells] s (fun r s' => r = .v (.bool (decide (a = b))) ∧ s' = s) := by
  refine acalls_body Try.func53 rfl Try.ntmps53 Try.results53 (by simp) ?_
  obtain ⟨k1, p1, l1⟩ := a
  obtain ⟨k2, p2, l2⟩ := b
  obtain ⟨_, hw, hl⟩ := ha
  simp only at hw hl
  unfold maxLen at hl
  unfold PathV.cells
  simp only
  have hrow1 := fun i (h : i < l1.length) => row_at (c := StepV.cells) (k := 2) (fun _ => rfl) h
  have hrow2 := fun i (h : i < l2.length) => row_at (c := StepV.cells) (k := 2) (fun _ => rfl) h
  generalize rowC StepV.cells l1 = X1 at *
  generalize rowC StepV.cells l2 = X2 at *
  refine awp_reg_frz2 2 3 (by decide) (by decide) (by decide) ?_
  intro K hK
  simp only [↓AXq_nil, ↓AXq_cons, pval, DX, Nat.reduceBEq, ↓DN, UP, DF, qSh, qCv, qIA, qIx, qSl, qBu, qCe, qOn, reduceCtorEq, ↓reduceIte, nLT, nLE, nEQ, nAdd, nMul, nPow, nSub, zLT, zLE, zNat, RMsg1153]
  intro o1 h1 o2 h2
  refine hK _ _ o1 o2 _ _ (by simp only [upd, nEQ, ↓reduceIte]) (by simp only [upd, nEQ, ↓reduceIte]) h1 (by rw [AS.set_objs_eq]; exact h2) ?_
  clear hK K h1 h2
  refine awp_seq_k ?_
  intro K hK
  by_cases hh : k1 = k2 ∧ p1 = p2 ∧ l1.length = l2.length
  · obtain ⟨rfl, rfl, hll⟩ := hh
    refine awp_reg_seq ?_
    intro K hK
    simp only [↓DN, UP, DF, qSh, qCv, qIA, qIx, qSl, qBu, qCe, qOn, reduceCtorEq, ↓reduceIte, nLT, nLE, nEQ, nAdd, nMul, nPow, nSub, zLT, zLE, zNat, RMsg1153, natEq (show k1 = k1 from rfl), listEq (show p1 = p1 from rfl), natEq hll]
    refine hK _ _ ?_
    clear hK K
    refine awp_cond_k ?_
    intro X Y hX hY
    simp only [↓DN, UP, DF, qSh, qCv, qIA, qIx, qSl, qBu, qCe, qOn, reduceCtorEq, ↓reduceIte, nLT, nLE, nEQ, nAdd, nMul, nPow, nSub, zLT, zLE, zNat, RMsg1153, DB]
    refine hY ?_
    clear hX hY X Y
    refine awp_skip ?_
    refine hK _ _ ?_
    clear hK K
    refine awp_seq_k ?_
    intro K hK
    refine awp_reg_seq ?_
    intro K hK
    simp only [↓DN, UP, DF, qSh, qCv, qIA, qIx, qSl, qBu, qCe, qOn, reduceCtorEq, ↓reduceIte, nLT, nLE, nEQ, nAdd, nMul, nPow, nSub, zLT, zLE, zNat, RMsg1153]
    refine hK _ _ ?_
    clear hK K
    refine awp_block ?_
    refine awp_loop (fun E s1 => ∃ i : Nat, i ≤ l1.length ∧ E 5 = .v (.int .i64 i) ∧ E 2 = .rop [.v (.int .u64 k1), .sl 1 p1.length (p1.map byteV) .any, .sl 2 l1.length X1 .any] ∧ E 3 = .rop [.v (.int .u64 k1), .sl 1 p1.length (p1.map byteV) .any, .sl 2 l2.length X2 .any] ∧ l1.take i = l2.take i ∧ s1 = s)
      (fun E _ => match E 5 with | .v (.int _ i) => l1.length - i.toNat | _ => 0) ?_ ?_
    · exact ⟨0, Nat.zero_le _, by simp only [upd, ↓reduceIte]; rfl, by simp only [upd, nEQ, ↓reduceIte], by simp only [upd, nEQ, ↓reduceIte], by simp, rfl⟩
    · rintro E1 s1 ⟨i, hi, g5, g2, g3, hall, rfl⟩ -
      refine awp_seq_k ?_
      intro K2 hK2
      by_cases hi' : i < l1.length
      · refine awp_reg_seq ?_
        intro K hK
        simp only [↓DN, UP, DF, qSh, qCv, qIA, qIx, qSl, qBu, qCe, qOn, reduceCtorEq, ↓reduceIte, nLT, nLE, nEQ, nAdd, nMul, nPow, nSub, zLT, zLE, zNat, RMsg1153, g5, g2, eye_lt_nat, decide_eq_true hi']
        refine hK _ _ ?_
        clear hK K
        refine awp_cond_k ?_
        intro X Y hX hY
        simp only [↓DN, UP, DF, qSh, qCv, qIA, qIx, qSl, qBu, qCe, qOn, reduceCtorEq, ↓reduceIte, nLT, nLE, nEQ, nAdd, nMul, nPow, nSub, zLT, zLE, zNat, RMsg1153, DB]
        refine hX ?_
        clear hX hY X Y
        refine awp_skip ?_
        refine hK2 _ _ ?_
        clear hK2 K2
        refine awp_seq_k ?_
        intro K3 hK3
        refine awp_block ?_
        have hi2 : i < l2.length := by omega
        have hat1 := hrow1 i hi'
        have hat2 := hrow2 i hi2
        have hge : (0 : Int) ≤ (i : Int) := by omega
        have hyes : l1[i] = l2[i] → l1.take (i + 1) = l2.take (i + 1) := take_eq hi' hi2 hall
        have hno : l1[i] ≠ l2[i] → decide ((⟨k1, p1, l1⟩ : PathV) = ⟨k1, p1, l2⟩) = false := fun h => decide_eq_false fun q => h (by simp only [PathV.mk.injEq, true_and] at q; subst q; rfl)
        have hsw := hw l1[i] (List.getElem_mem hi')
        generalize l1[i] = y1 at *
        generalize l2[i] = y2 at *
        obtain ⟨f1, t1⟩ := y1
        obtain ⟨f2, t2⟩ := y2
        obtain ⟨_, _, htl⟩ := hsw
        simp only at htl
        unfold maxLen at htl
        unfold StepV.cells at hat1 hat2
        simp only at hat1 hat2
        have hrw1 := fun i (h : i < t1.length) => row_at (c := SealV.cells) (k := 2) (fun _ => rfl) h
        have hrw2 := fun i (h : i < t2.length) => row_at (c := SealV.cells) (k := 2) (fun _ => rfl) h
        generalize rowC SealV.cells t1 = T1 at *
        generalize rowC SealV.cells t2 = T2 at *
        refine awp_drf_frz2 T.mixed 6 7 [10, 11, 12, 13] [] [] [10, 11] (by kernel_rfl) (by decide) (by decide) (by decide) ?_
        intro K hK
        simp only [↓AXz_nil, ↓AXz_cons, ↓AGiv_call, glook_nil, glook_cons, glookN_nil, glookN_cons, noughtV, pval, DX, Nat.reduceBEq, List.toList_toArray, List.map_cons, List.map_nil, aeval, ↓DN, UP, DF, qSh, qCv, qIA, qIx, qSl, qBu, qCe, qOn, reduceCtorEq, ↓reduceIte, nLT, nLE, nEQ, nAdd, nMul, nPow, nSub, zLT, zLE, zNat, RMsg1153, g5, g2, g3, eye_lt_nat, hi', hi2, hge, hat1, hat2]
        intro o1 ho1 o2 ho2
        have hne : o1 ≠ o2 := by rintro rfl; simp at ho2
        have hne2 := hne.symm
        simp only [hne, hne2, if_true, if_false, ↓reduceIte, List.set_cons_zero, List.set_cons_succ, List.length_cons, List.length_nil, Nat.reduceAdd, Nat.le_refl, true_and]
        rw [set_four hne]
        refine hK _ _ o1 o2 _ _ (by simp only [upd, nEQ, ↓reduceIte]) (by simp only [upd, nEQ, ↓reduceIte]) ho1 (by rw [AS.set_objs_ne _ hne2]; simpa [hne2] using ho2) ?_
        clear hK K ho1 ho2 hne hne2
        refine awp_seq_k ?_
        intro K hK
        by_cases hh2 : f1 = f2 ∧ t1.length = t2.length
        · obtain ⟨rfl, htt⟩ := hh2
          refine awp_reg_seq ?_
          intro K hK
          simp only [↓DN, UP, DF, qSh, qCv, qIA, qIx, qSl, qBu, qCe, qOn, reduceCtorEq, ↓reduceIte, nLT, nLE, nEQ, nAdd, nMul, nPow, nSub, zLT, zLE, zNat, RMsg1153, natEq (show f1 = f1 from rfl), natEq htt]
          refine hK _ _ ?_
          clear hK K
          refine awp_cond_k ?_
          intro X Y hX hY
          simp only [↓DN, UP, DF, qSh, qCv, qIA, qIx, qSl, qBu, qCe, qOn, reduceCtorEq, ↓reduceIte, nLT, nLE, nEQ, nAdd, nMul, nPow, nSub, zLT, zLE, zNat, RMsg1153, DB]
          refine hY ?_
          clear hX hY X Y
          refine awp_skip ?_
          refine hK _ _ ?_
          clear hK K
          refine awp_reg_seq ?_
          intro K hK
          simp only [↓DN, UP, DF, qSh, qCv, qIA, qIx, qSl, qBu, qCe, qOn, reduceCtorEq, ↓reduceIte, nLT, nLE, nEQ, nAdd, nMul, nPow, nSub, zLT, zLE, zNat, RMsg1153]
          refine hK _ _ ?_
          clear hK K
          refine awp_block ?_
          refine awp_loop (fun E s2 => ∃ j : Nat, j ≤ t1.length ∧ E 8 = .v (.int .i64 j) ∧ E 6 = .rop [.v (.int .u64 f1), .sl 2 t1.length T1 .any] ∧ E 7 = .rop [.v (.int .u64 f1), .sl 2 t2.length T2 .any] ∧ t1.take j = t2.take j ∧ E 5 = .v (.int .i64 i) ∧ E 2 = .rop [.v (.int .u64 k1), .sl 1 p1.length (p1.map byteV) .any, .sl 2 l1.length X1 .any] ∧ E 3 = .rop [.v (.int .u64 k1), .sl 1 p1.length (p1.map byteV) .any, .sl 2 l2.length X2 .any] ∧ s2 = s1)
            (fun E _ => match E 8 with | .v (.int _ i) => t1.length - i.toNat | _ => 0) ?_ ?_
          · exact ⟨0, Nat.zero_le _, by simp only [upd, ↓reduceIte]; rfl, by simp only [upd, nEQ, ↓reduceIte], by simp only [upd, nEQ, ↓reduceIte], by simp, by simp only [upd, g5, nEQ, ↓reduceIte], by simp only [upd, g2, nEQ, ↓reduceIte], by simp only [upd, g3, nEQ, ↓reduceIte], rfl⟩
          · have G5 := g5
            clear g5 g2 g3
            rintro E2 s2 ⟨j, hj, g8, g6, g7, hallj, g5, g2, g3, rfl⟩ -
            refine awp_seq_k ?_
            intro K2 hK2
            by_cases hj' : j < t1.length
            · refine awp_reg_seq ?_
              intro K hK
              simp only [↓DN, UP, DF, qSh, qCv, qIA, qIx, qSl, qBu, qCe, qOn, reduceCtorEq, ↓reduceIte, nLT, nLE, nEQ, nAdd, nMul, nPow, nSub, zLT, zLE, zNat, RMsg1153, g8, g6, eye_lt_nat, decide_eq_true hj']
              refine hK _ _ ?_
              clear hK K
              refine awp_cond_k ?_
              intro X Y hX hY
              simp only [↓DN, UP, DF, qSh, qCv, qIA, qIx, qSl, qBu, qCe, qOn, reduceCtorEq, ↓reduceIte, nLT, nLE, nEQ, nAdd, nMul, nPow, nSub, zLT, zLE, zNat, RMsg1153, DB]
              refine hX ?_
              clear hX hY X Y
              refine awp_skip ?_
              refine hK2 _ _ ?_
              clear hK2 K2
              refine awp_seq_k ?_
              intro K4 hK4
              refine awp_block ?_
              have hj2 : j < t2.length := by omega
              have hbt1 := hrw1 j hj'
              have hbt2 := hrw2 j hj2
              have hgj : (0 : Int) ≤ (j : Int) := by omega
              have hyes2 : t1[j] = t2[j] → t1.take (j + 1) = t2.take (j + 1) := take_eq hj' hj2 hallj
              have hno2 : t1[j] ≠ t2[j] → decide ((⟨k1, p1, l1⟩ : PathV) = ⟨k1, p1, l2⟩) = false := fun h => hno fun q => h (by simp only [StepV.mk.injEq, true_and] at q; subst q; rfl)
              generalize t1[j] = z1 at *
              generalize t2[j] = z2 at *
              obtain ⟨u1, v1⟩ := z1
              obtain ⟨u2, v2⟩ := z2
              unfold SealV.cells at hbt1 hbt2
              simp only at hbt1 hbt2
              by_cases hu : u1 = u2
              · subst hu
                by_cases hv : v1 = v2
                · subst hv
                  refine awp_drw_seq T.mixed [] (by kernel_rfl) ?_
                  intro K hK
                  simp only [↓AXq_nil, ↓AXq_cons, pval, ↓AXz_nil, ↓AXz_cons, ↓AGiv_call, glook_nil, glook_cons, glookN_nil, glookN_cons, noughtV, pval, DX, Nat.reduceBEq, List.toList_toArray, List.map_cons, List.map_nil, aeval, DX, Nat.reduceBEq, ↓DN, UP, DF, qSh, qCv, qIA, qIx, qSl, qBu, qCe, qOn, reduceCtorEq, ↓reduceIte, nLT, nLE, nEQ, nAdd, nMul, nPow, nSub, zLT, zLE, zNat, RMsg1153, g8, g6, g7, eye_lt_nat, hj', hj2, hgj, hbt1, hbt2, natEq (show u1 = u1 from rfl), listEq (show v1 = v1 from rfl)]
                  refine hK _ _ ?_
                  clear hK K
                  refine awp_cond_k ?_
                  intro X Y hX hY
                  simp only [↓DN, UP, DF, qSh, qCv, qIA, qIx, qSl, qBu, qCe, qOn, reduceCtorEq, ↓reduceIte, nLT, nLE, nEQ, nAdd, nMul, nPow, nSub, zLT, zLE, zNat, RMsg1153, DB]
                  refine hY ?_
                  clear hX hY X Y
                  refine awp_skip ?_
                  simp only [blockQ, thenQ, if_true, if_false]
                  refine hK4 _ _ ?_
                  clear hK4 K4
                  refine awp_reg_end ?_
                  intro K hK
                  simp only [↓DN, UP, DF, qSh, qCv, qIA, qIx, qSl, qBu, qCe, qOn, reduceCtorEq, ↓reduceIte, nLT, nLE, nEQ, nAdd, nMul, nPow, nSub, zLT, zLE, zNat, RMsg1153, g8, eye_succM j (by omega)]
                  refine hK _ _ ?_
                  clear hK K
                  refine ⟨⟨j + 1, by omega, by simp only [upd, ↓reduceIte], by simp only [upd, g6, nEQ, ↓reduceIte], by simp only [upd, g7, nEQ, ↓reduceIte], hyes2 rfl, by simp only [upd, g5, nEQ, ↓reduceIte], by simp only [upd, g2, nEQ, ↓reduceIte], by simp only [upd, g3, nEQ, ↓reduceIte], rfl⟩, ?_⟩
                  simp only [g8, upd, ↓reduceIte]
                  omega
                · refine awp_drw_seq T.mixed [] (by kernel_rfl) ?_
                  intro K hK
                  simp only [↓AXq_nil, ↓AXq_cons, pval, ↓AXz_nil, ↓AXz_cons, ↓AGiv_call, glook_nil, glook_cons, glookN_nil, glookN_cons, noughtV, pval, DX, Nat.reduceBEq, List.toList_toArray, List.map_cons, List.map_nil, aeval, DX, Nat.reduceBEq, ↓DN, UP, DF, qSh, qCv, qIA, qIx, qSl, qBu, qCe, qOn, reduceCtorEq, ↓reduceIte, nLT, nLE, nEQ, nAdd, nMul, nPow, nSub, zLT, zLE, zNat, RMsg1153, g8, g6, g7, eye_lt_nat, hj', hj2, hgj, hbt1, hbt2, natEq (show u1 = u1 from rfl), listNe hv]
                  refine hK _ _ ?_
                  clear hK K
                  refine awp_cond_k ?_
                  intro X Y hX hY
                  simp only [↓DN, UP, DF, qSh, qCv, qIA, qIx, qSl, qBu, qCe, qOn, reduceCtorEq, ↓reduceIte, nLT, nLE, nEQ, nAdd, nMul, nPow, nSub, zLT, zLE, zNat, RMsg1153, DB]
                  refine hX ?_
                  clear hX hY X Y
                  refine awp_reg_seq ?_
                  intro K hK
                  simp only [↓DN, UP, DF, qSh, qCv, qIA, qIx, qSl, qBu, qCe, qOn, reduceCtorEq, ↓reduceIte, nLT, nLE, nEQ, nAdd, nMul, nPow, nSub, zLT, zLE, zNat, RMsg1153]
                  refine hK _ _ ?_
                  clear hK K
                  refine awp_ret ?_
                  try simp only [thenQ, blockQ]
                  simp only [retQ, AEnds, aresL, ares, List.toList_toArray, ↓upd_same]; try simp only [↓DN, UP, DF, qSh, qCv, qIA, qIx, qSl, qBu, qCe, qOn, reduceCtorEq, ↓reduceIte, nLT, nLE, nEQ, nAdd, nMul, nPow, nSub, zLT, zLE, zNat, RMsg1153, DT]
                  exact ⟨_, _, AV.weak.refl _, AS.le.refl _, by rw [hno2 fun q => hv (by simpa using q)], rfl⟩
              · refine awp_drw_seq T.mixed [] (by kernel_rfl) ?_
                intro K hK
                simp only [↓AXq_nil, ↓AXq_cons, pval, ↓AXz_nil, ↓AXz_cons, ↓AGiv_call, glook_nil, glook_cons, glookN_nil, glookN_cons, noughtV, pval, DX, Nat.reduceBEq, List.toList_toArray, List.map_cons, List.map_nil, aeval, DX, Nat.reduceBEq, ↓DN, UP, DF, qSh, qCv, qIA, qIx, qSl, qBu, qCe, qOn, reduceCtorEq, ↓reduceIte, nLT, nLE, nEQ, nAdd, nMul, nPow, nSub, zLT, zLE, zNat, RMsg1153, g8, g6, g7, eye_lt_nat, hj', hj2, hgj, hbt1, hbt2, natNe hu]
                refine hK _ _ ?_
                clear hK K
                refine awp_cond_k ?_
                intro X Y hX hY
                simp only [↓DN, UP, DF, qSh, qCv, qIA, qIx, qSl, qBu, qCe, qOn, reduceCtorEq, ↓reduceIte, nLT, nLE, nEQ, nAdd, nMul, nPow, nSub, zLT, zLE, zNat, RMsg1153, DB]
                refine hX ?_
                clear hX hY X Y
                refine awp_reg_seq ?_
                intro K hK
                simp only [↓DN, UP, DF, qSh, qCv, qIA, qIx, qSl, qBu, qCe, qOn, reduceCtorEq, ↓reduceIte, nLT, nLE, nEQ, nAdd, nMul, nPow, nSub, zLT, zLE, zNat, RMsg1153]
                refine hK _ _ ?_
                clear hK K
                refine awp_ret ?_
                try simp only [thenQ, blockQ]
                simp only [retQ, AEnds, aresL, ares, List.toList_toArray, ↓upd_same]; try simp only [↓DN, UP, DF, qSh, qCv, qIA, qIx, qSl, qBu, qCe, qOn, reduceCtorEq, ↓reduceIte, nLT, nLE, nEQ, nAdd, nMul, nPow, nSub, zLT, zLE, zNat, RMsg1153, DT]
                exact ⟨_, _, AV.weak.refl _, AS.le.refl _, by rw [hno2 fun q => hu (by simp only [SealV.mk.injEq] at q; exact q.1)], rfl⟩
            · refine awp_reg_seq ?_
              intro K hK
              simp only [↓DN, UP, DF, qSh, qCv, qIA, qIx, qSl, qBu, qCe, qOn, reduceCtorEq, ↓reduceIte, nLT, nLE, nEQ, nAdd, nMul, nPow, nSub, zLT, zLE, zNat, RMsg1153, g8, g6, eye_lt_nat, decide_eq_false hj']
              refine hK _ _ ?_
              clear hK K
              refine awp_cond_k ?_
              intro X Y hX hY
              simp only [↓DN, UP, DF, qSh, qCv, qIA, qIx, qSl, qBu, qCe, qOn, reduceCtorEq, ↓reduceIte, nLT, nLE, nEQ, nAdd, nMul, nPow, nSub, zLT, zLE, zNat, RMsg1153, DB]
              refine hY ?_
              clear hX hY X Y
              refine awp_exit ?_
              simp only [thenQ, blockQ, if_true, if_false]
              refine hK3 _ _ ?_
              clear hK3 hK2 K2 K3
              refine awp_reg_end ?_
              intro K hK
              simp only [↓DN, UP, DF, qSh, qCv, qIA, qIx, qSl, qBu, qCe, qOn, reduceCtorEq, ↓reduceIte, nLT, nLE, nEQ, nAdd, nMul, nPow, nSub, zLT, zLE, zNat, RMsg1153, g5, eye_succM i (by omega)]
              refine hK _ _ ?_
              clear hK K
              refine ⟨⟨i + 1, by omega, by simp only [upd, ↓reduceIte], by simp only [upd, g2, nEQ, ↓reduceIte], by simp only [upd, g3, nEQ, ↓reduceIte], hyes (by rw [take_eq_full htt hj' hallj]), rfl⟩, ?_⟩
              simp only [G5, upd, ↓reduceIte]
              omega
        · have hy12 : (⟨f1, t1⟩ : StepV) ≠ ⟨f2, t2⟩ := fun q => hh2 (by simp only [StepV.mk.injEq] at q; exact ⟨q.1, by rw [q.2]⟩)
          by_cases hf : f1 = f2
          · have htt : t1.length ≠ t2.length := fun q => hh2 ⟨hf, q⟩
            refine awp_reg_seq ?_
            intro K hK
            simp only [↓DN, UP, DF, qSh, qCv, qIA, qIx, qSl, qBu, qCe, qOn, reduceCtorEq, ↓reduceIte, nLT, nLE, nEQ, nAdd, nMul, nPow, nSub, zLT, zLE, zNat, RMsg1153, natEq hf, natNe htt]
            refine hK _ _ ?_
            clear hK K
            refine awp_cond_k ?_
            intro X Y hX hY
            simp only [↓DN, UP, DF, qSh, qCv, qIA, qIx, qSl, qBu, qCe, qOn, reduceCtorEq, ↓reduceIte, nLT, nLE, nEQ, nAdd, nMul, nPow, nSub, zLT, zLE, zNat, RMsg1153, DB]
            refine hX ?_
            clear hX hY X Y
            refine awp_reg_seq ?_
            intro K hK
            simp only [↓DN, UP, DF, qSh, qCv, qIA, qIx, qSl, qBu, qCe, qOn, reduceCtorEq, ↓reduceIte, nLT, nLE, nEQ, nAdd, nMul, nPow, nSub, zLT, zLE, zNat, RMsg1153]
            refine hK _ _ ?_
            clear hK K
            refine awp_ret ?_
            try simp only [thenQ, blockQ]
            simp only [retQ, AEnds, aresL, ares, List.toList_toArray, ↓upd_same]; try simp only [↓DN, UP, DF, qSh, qCv, qIA, qIx, qSl, qBu, qCe, qOn, reduceCtorEq, ↓reduceIte, nLT, nLE, nEQ, nAdd, nMul, nPow, nSub, zLT, zLE, zNat, RMsg1153, DT]
            exact ⟨_, _, AV.weak.refl _, AS.le.refl _, by rw [hno hy12], rfl⟩
          · refine awp_reg_seq ?_
            intro K hK
            simp only [↓DN, UP, DF, qSh, qCv, qIA, qIx, qSl, qBu, qCe, qOn, reduceCtorEq, ↓reduceIte, nLT, nLE, nEQ, nAdd, nMul, nPow, nSub, zLT, zLE, zNat, RMsg1153, natNe hf]
            refine hK _ _ ?_
            clear hK K
            refine awp_cond_k ?_
            intro X Y hX hY
            simp only [↓DN, UP, DF, qSh, qCv, qIA, qIx, qSl, qBu, qCe, qOn, reduceCtorEq, ↓reduceIte, nLT, nLE, nEQ, nAdd, nMul, nPow, nSub, zLT, zLE, zNat, RMsg1153, DB]
            refine hX ?_
            clear hX hY X Y
            refine awp_reg_seq ?_
            intro K hK
            simp only [↓DN, UP, DF, qSh, qCv, qIA, qIx, qSl, qBu, qCe, qOn, reduceCtorEq, ↓reduceIte, nLT, nLE, nEQ, nAdd, nMul, nPow, nSub, zLT, zLE, zNat, RMsg1153]
            refine hK _ _ ?_
            clear hK K
            refine awp_ret ?_
            try simp only [thenQ, blockQ]
            simp only [retQ, AEnds, aresL, ares, List.toList_toArray, ↓upd_same]; try simp only [↓DN, UP, DF, qSh, qCv, qIA, qIx, qSl, qBu, qCe, qOn, reduceCtorEq, ↓reduceIte, nLT, nLE, nEQ, nAdd, nMul, nPow, nSub, zLT, zLE, zNat, RMsg1153, DT]
            exact ⟨_, _, AV.weak.refl _, AS.le.refl _, by rw [hno hy12], rfl⟩
      · refine awp_reg_seq ?_
        intro K hK
        simp only [↓DN, UP, DF, qSh, qCv, qIA, qIx, qSl, qBu, qCe, qOn, reduceCtorEq, ↓reduceIte, nLT, nLE, nEQ, nAdd, nMul, nPow, nSub, zLT, zLE, zNat, RMsg1153, g5, g2, eye_lt_nat, decide_eq_false hi']
        refine hK _ _ ?_
        clear hK K
        refine awp_cond_k ?_
        intro X Y hX hY
        simp only [↓DN, UP, DF, qSh, qCv, qIA, qIx, qSl, qBu, qCe, qOn, reduceCtorEq, ↓reduceIte, nLT, nLE, nEQ, nAdd, nMul, nPow, nSub, zLT, zLE, zNat, RMsg1153, DB]
        refine hY ?_
        clear hX hY X Y
        refine awp_exit ?_
        simp only [thenQ, blockQ, if_true]
        refine hK _ _ ?_
        clear hK K hK2 K2
        refine awp_reg_seq ?_
        intro K hK
        simp only [↓DN, UP, DF, qSh, qCv, qIA, qIx, qSl, qBu, qCe, qOn, reduceCtorEq, ↓reduceIte, nLT, nLE, nEQ, nAdd, nMul, nPow, nSub, zLT, zLE, zNat, RMsg1153]
        refine hK _ _ ?_
        clear hK K
        refine awp_ret ?_
        simp only [retQ, AEnds, aresL, ares, List.toList_toArray, ↓upd_same]; try simp only [↓DN, UP, DF, qSh, qCv, qIA, qIx, qSl, qBu, qCe, qOn, reduceCtorEq, ↓reduceIte, nLT, nLE, nEQ, nAdd, nMul, nPow, nSub, zLT, zLE, zNat, RMsg1153, DT]
        exact ⟨_, _, AV.weak.refl _, AS.le.refl _, by rw [decide_eq_true (by rw [take_eq_full hll hi' hall])], rfl⟩
  · have hab : decide ((⟨k1, p1, l1⟩ : PathV) = ⟨k2, p2, l2⟩) = false := decide_eq_false fun q => hh (by simp only [PathV.mk.injEq] at q; exact ⟨q.1, q.2.1, by rw [q.2.2]⟩)
    rw [hab] at hK ⊢
    clear hab
    by_cases q1 : k1 = k2
    · by_cases q2 : p1 = p2
      · have q3 : l1.length ≠ l2.length := fun q => hh ⟨q1, q2, q⟩
        refine awp_reg_seq ?_
        intro K hK
        simp only [↓DN, UP, DF, qSh, qCv, qIA, qIx, qSl, qBu, qCe, qOn, reduceCtorEq, ↓reduceIte, nLT, nLE, nEQ, nAdd, nMul, nPow, nSub, zLT, zLE, zNat, RMsg1153, natEq q1, listEq q2, natNe q3]
        refine hK _ _ ?_
        clear hK K
        refine awp_cond_k ?_
        intro X Y hX hY
        simp only [↓DN, UP, DF, qSh, qCv, qIA, qIx, qSl, qBu, qCe, qOn, reduceCtorEq, ↓reduceIte, nLT, nLE, nEQ, nAdd, nMul, nPow, nSub, zLT, zLE, zNat, RMsg1153, DB]
        refine hX ?_
        clear hX hY X Y
        refine awp_reg_seq ?_
        intro K hK
        simp only [↓DN, UP, DF, qSh, qCv, qIA, qIx, qSl, qBu, qCe, qOn, reduceCtorEq, ↓reduceIte, nLT, nLE, nEQ, nAdd, nMul, nPow, nSub, zLT, zLE, zNat, RMsg1153]
        refine hK _ _ ?_
        clear hK K
        refine awp_ret ?_
        try simp only [thenQ, blockQ]
        simp only [retQ, AEnds, aresL, ares, List.toList_toArray, ↓upd_same]; try simp only [↓DN, UP, DF, qSh, qCv, qIA, qIx, qSl, qBu, qCe, qOn, reduceCtorEq, ↓reduceIte, nLT, nLE, nEQ, nAdd, nMul, nPow, nSub, zLT, zLE, zNat, RMsg1153, DT]
        exact ⟨_, _, AV.weak.refl _, AS.le.refl _, rfl, rfl⟩
      · refine awp_reg_seq ?_
        intro K hK
        simp only [↓DN, UP, DF, qSh, qCv, qIA, qIx, qSl, qBu, qCe, qOn, reduceCtorEq, ↓reduceIte, nLT, nLE, nEQ, nAdd, nMul, nPow, nSub, zLT, zLE, zNat, RMsg1153, natEq q1, listNe q2]
        refine hK _ _ ?_
        clear hK K
        refine awp_cond_k ?_
        intro X Y hX hY
        simp only [↓DN, UP, DF, qSh, qCv, qIA, qIx, qSl, qBu, qCe, qOn, reduceCtorEq, ↓reduceIte, nLT, nLE, nEQ, nAdd, nMul, nPow, nSub, zLT, zLE, zNat, RMsg1153, DB]
        refine hX ?_
        clear hX hY X Y
        refine awp_reg_seq ?_
        intro K hK
        simp only [↓DN, UP, DF, qSh, qCv, qIA, qIx, qSl, qBu, qCe, qOn, reduceCtorEq, ↓reduceIte, nLT, nLE, nEQ, nAdd, nMul, nPow, nSub, zLT, zLE, zNat, RMsg1153]
        refine hK _ _ ?_
        clear hK K
        refine awp_ret ?_
        try simp only [thenQ, blockQ]
        simp only [retQ, AEnds, aresL, ares, List.toList_toArray, ↓upd_same]; try simp only [↓DN, UP, DF, qSh, qCv, qIA, qIx, qSl, qBu, qCe, qOn, reduceCtorEq, ↓reduceIte, nLT, nLE, nEQ, nAdd, nMul, nPow, nSub, zLT, zLE, zNat, RMsg1153, DT]
        exact ⟨_, _, AV.weak.refl _, AS.le.refl _, rfl, rfl⟩
    · refine awp_reg_seq ?_
      intro K hK
      simp only [↓DN, UP, DF, qSh, qCv, qIA, qIx, qSl, qBu, qCe, qOn, reduceCtorEq, ↓reduceIte, nLT, nLE, nEQ, nAdd, nMul, nPow, nSub, zLT, zLE, zNat, RMsg1153, natNe q1]
      refine hK _ _ ?_
      clear hK K
      refine awp_cond_k ?_
      intro X Y hX hY
      simp only [↓DN, UP, DF, qSh, qCv, qIA, qIx, qSl, qBu, qCe, qOn, reduceCtorEq, ↓reduceIte, nLT, nLE, nEQ, nAdd, nMul, nPow, nSub, zLT, zLE, zNat, RMsg1153, DB]
      refine hX ?_
      clear hX hY X Y
      refine awp_reg_seq ?_
      intro K hK
      simp only [↓DN, UP, DF, qSh, qCv, qIA, qIx, qSl, qBu, qCe, qOn, reduceCtorEq, ↓reduceIte, nLT, nLE, nEQ, nAdd, nMul, nPow, nSub, zLT, zLE, zNat, RMsg1153]
      refine hK _ _ ?_
      clear hK K
      refine awp_ret ?_
      try simp only [thenQ, blockQ]
      simp only [retQ, AEnds, aresL, ares, List.toList_toArray, ↓upd_same]; try simp only [↓DN, UP, DF, qSh, qCv, qIA, qIx, qSl, qBu, qCe, qOn, reduceCtorEq, ↓reduceIte, nLT, nLE, nEQ, nAdd, nMul, nPow, nSub, zLT, zLE, zNat, RMsg1153, DT]
      exact ⟨_, _, AV.weak.refl _, AS.le.refl _, rfl, rfl⟩

end Go.Proofs.Ytcnilmidfhpckaa


set_option autoImplicit false
namespace Go.Proofs.Ytcnilmidfhpckaa
open Go Go.AM Go.Proofs

theorem RMsg1221 : type_of% (And.intro (And.intro (And.intro (And.intro (And.intro (And.intro (And.intro @Try.underlying3 T.c3) (And.intro T.g3 (And.intro T.b3 T.z3))) (And.intro (And.intro @Try.underlying4 (And.intro T.c4 T.g4)) (And.intro T.b4 (And.intro T.z4 @Try.underlying5)))) (And.intro (And.intro (And.intro T.c5 (And.intro T.g5 T.b5)) (And.intro T.z5 (And.intro @Try.underlying28 T.c28))) (And.intro (And.intro T.g28 (And.intro T.b28 T.z28)) (And.intro T.s28 (And.intro @Try.underlying41 T.c41))))) (And.intro (And.intro (And.intro (And.intro T.g41 T.b41) (And.intro T.z41 (And.intro T.s41 @Try.underlying42))) (And.intro (And.intro T.c42 (And.intro T.g42 T.b42)) (And.intro T.z42 (And.intro @Try.underlying43 T.c43)))) (And.intro (And.intro (And.intro T.g43 (And.intro T.b43 T.z43)) (And.intro T.s43 (And.intro @Try.underlying45 T.c45))) (And.intro (And.intro T.g45 (And.intro T.b45 T.z45)) (And.intro T.h45 (And.intro @Try.underlying47 T.c47)))))) (And.intro (And.intro (And.intro (And.intro (And.intro T.g47 T.b47) (And.intro T.z47 (And.intro T.h47 @Try.underlying80))) (And.intro (And.intro T.c80 (And.intro T.g80 T.b80)) (And.intro T.z80 (And.intro T.h80 @Try.underlying81)))) (And.intro (And.intro (And.intro T.c81 (And.intro T.g81 T.b81)) (And.intro T.z81 (And.intro T.s81 @Try.underlying83))) (And.intro (And.intro T.c83 (And.intro T.g83 T.b83)) (And.intro T.z83 (And.intro T.h83 @Try.underlying85))))) (And.intro (And.intro (And.intro (And.intro T.c85 T.g85) (And.intro T.b85 (And.intro T.z85 T.h85))) (And.intro (And.intro T.f45_0 (And.intro T.f45_1 T.f45_2)) (And.intro T.f47_0 (And.intro T.f47_1 T.f47_2)))) (And.intro (And.intro (And.intro T.f47_3 (And.intro T.f47_4 T.f47_5)) (And.intro T.f47_6 (And.intro T.f47_7 T.f83_0))) (And.intro (And.intro T.f83_1 (And.intro T.f85_0 T.f85_1)) (And.intro T.k52 (And.intro T.k53 T.k54))))))) Try.ntmps21) :=
  (And.intro (And.intro (And.intro (And.intro (And.intro (And.intro (And.intro @Try.underlying3 T.c3) (And.intro T.g3 (And.intro T.b3 T.z3))) (And.intro (And.intro @Try.underlying4 (And.intro T.c4 T.g4)) (And.intro T.b4 (And.intro T.z4 @Try.underlying5)))) (And.intro (And.intro (And.intro T.c5 (And.intro T.g5 T.b5)) (And.intro T.z5 (And.intro @Try.underlying28 T.c28))) (And.intro (And.intro T.g28 (And.intro T.b28 T.z28)) (And.intro T.s28 (And.intro @Try.underlying41 T.c41))))) (And.intro (And.intro (And.intro (And.intro T.g41 T.b41) (And.intro T.z41 (And.intro T.s41 @Try.underlying42))) (And.intro (And.intro T.c42 (And.intro T.g42 T.b42)) (And.intro T.z42 (And.intro @Try.underlying43 T.c43)))) (And.intro (And.intro (And.intro T.g43 (And.intro T.b43 T.z43)) (And.intro T.s43 (And.intro @Try.underlying45 T.c45))) (And.intro (And.intro T.g45 (And.intro T.b45 T.z45)) (And.intro T.h45 (And.intro @Try.underlying47 T.c47)))))) (And.intro (And.intro (And.intro (And.intro (And.intro T.g47 T.b47) (And.intro T.z47 (And.intro T.h47 @Try.underlying80))) (And.intro (And.intro T.c80 (And.intro T.g80 T.b80)) (And.intro T.z80 (And.intro T.h80 @Try.underlying81)))) (And.intro (And.intro (And.intro T.c81 (And.intro T.g81 T.b81)) (And.intro T.z81 (And.intro T.s81 @Try.underlying83))) (And.intro (And.intro T.c83 (And.intro T.g83 T.b83)) (And.intro T.z83 (And.intro T.h83 @Try.underlying85))))) (And.intro (And.intro (And.intro (And.intro T.c85 T.g85) (And.intro T.b85 (And.intro T.z85 T.h85))) (And.intro (And.intro T.f45_0 (And.intro T.f45_1 T.f45_2)) (And.intro T.f47_0 (And.intro T.f47_1 T.f47_2)))) (And.intro (And.intro (And.intro T.f47_3 (And.intro T.f47_4 T.f47_5)) (And.intro T.f47_6 (And.intro T.f47_7 T.f83_0))) (And.intro (And.intro T.f83_1 (And.intro T.f85_0 T.f85_1)) (And.intro T.k52 (And.intro T.k53 T.k54))))))) Try.ntmps21)

variable {Γ : Nat → List AV}

theorem n32 {n : Nat} (h : n = 32) : ((n : Int) != 32) = false := by subst h; rfl
theorem n32T {n : Nat} (h : n ≠ 32) : ((n : Int) != 32) = true := by simp only [bne_iff_ne, ne_eq]; omega
def nopath : PathV := ⟨0, [], []⟩
theorem nopath_iff (p : PathV) : p.none ↔ p = nopath := by
  obtain ⟨a, b, c⟩ := p
  unfold PathV.none nopath
  simp only [PathV.mk.injEq, List.length_eq_zero_iff]

set_option maxHeartbeats 8000000 in
set_option maxRecDepth 100000 in
theorem refMRight_calls (c : CommitV) (hw : c.wf) (s : AS) : ACalls Try.prog Γ 21 [.agg c.cells] s (fun r s' => r = .v (.bool (decide c.right)) ∧ s' = s) := by
  refine acalls_body Try.func21 rfl Try.ntmps21 Try.results21 (by simp) ?_
  obtain ⟨w1, w2, w3⟩ := hw
  have hsm := fun s => same21_calls (Γ := Γ) c.path nopath w2 s
  obtain ⟨g, e, sd, ps, hp, pa, cf, mb⟩ := c
  simp only at w1 w2 w3 hsm
  have hcr : decide (CommitV.right ⟨g, e, sd, ps, hp, pa, cf, mb⟩) = decide (((1 ≤ g.length ∧ g.length ≤ 16) ∧ (0 ≤ e ∧ e ≤ 1048576) ∧ (0 ≤ sd ∧ sd < 32) ∧ ps.length ≤ 16 ∧ cf.length = 32 ∧ mb.length = 32) ∧ (∀ x ∈ ps, x.right) ∧ ((hp = true → pa.right) ∧ (hp = false → pa = nopath))) := by
    refine decide_eq_decide.2 ?_
    unfold CommitV.right CommitV.pathed
    simp only [nopath_iff]
    constructor
    · rintro ⟨a1, a2, a3, a4, a5, a6, a7, a8⟩; exact ⟨⟨a2, a3, a4, a5, a7, a8⟩, a1, a6⟩
    · rintro ⟨⟨a2, a3, a4, a5, a7, a8⟩, a1, a6⟩; exact ⟨a1, a2, a3, a4, a5, a6, a7, a8⟩
  rw [hcr]
  clear hcr
  obtain ⟨w4, w5, w6⟩ := w2
  unfold maxLen at w3 w6
  obtain ⟨pk, pp, pst⟩ := pa
  simp only at w4 w5 w6
  unfold CommitV.cells
  unfold PathV.cells nopath at hsm
  simp only at hsm ⊢
  have hrow := fun i (h : i < ps.length) => row_at (c := PropV.cells) (k := 5) (fun _ => rfl) h
  have hrowS := fun i (h : i < pst.length) => row_at (c := StepV.cells) (k := 2) (fun _ => rfl) h
  generalize rowC StepV.cells pst = X at *
  generalize rowC PropV.cells ps = Z at *
  refine awp_reg_frz 1 (by simp [dsts]) ?_
  intro K hK
  simp only [↓AXq_nil, ↓AXq_cons, pval, DX, Nat.reduceBEq, ↓DN, UP, DF, qSh, qCv, qIA, qIx, qSl, qBu, qCe, qOn, reduceCtorEq, ↓reduceIte, nLT, nLE, nEQ, nAdd, nMul, nPow, nSub, zLT, zLE, zNat, RMsg1221]
  intro o ho
  refine hK _ _ o _ (by simp only [upd, nEQ, ↓reduceIte]) ho ?_
  clear hK K ho
  refine awp_seq_k ?_
  intro K hK
  by_cases hA : (1 ≤ g.length ∧ g.length ≤ 16) ∧ (0 ≤ e ∧ e ≤ 1048576) ∧ (0 ≤ sd ∧ sd < 32) ∧ ps.length ≤ 16 ∧ cf.length = 32 ∧ mb.length = 32
  · have hd : ∀ (A B : Prop) [Decidable A] [Decidable B], A → decide (A ∧ B) = decide B := fun A B _ _ h => decide_eq_decide.2 ⟨fun q => q.2, fun q => ⟨h, q⟩⟩
    rw [hd _ _ hA] at hK ⊢
    clear hd
    obtain ⟨⟨a1, a2⟩, ⟨a3, a4⟩, ⟨a5, a6⟩, a7, a8, a9⟩ := hA
    refine awp_reg_seq ?_
    intro K hK
    simp only [↓DN, UP, DF, qSh, qCv, qIA, qIx, qSl, qBu, qCe, qOn, reduceCtorEq, ↓reduceIte, nLT, nLE, nEQ, nAdd, nMul, nPow, nSub, zLT, zLE, zNat, RMsg1221, decide_eq_false (show ¬ (g.length : Int) < 1 by omega), decide_eq_false (show ¬ (16 : Int) < (g.length : Int) by omega), decide_eq_false (show ¬ e < 0 by omega), decide_eq_false (show ¬ (1048576 : Int) < e by omega), decide_eq_false (show ¬ sd < 0 by omega), decide_eq_false (show ¬ (31 : Int) < sd by omega), decide_eq_false (show ¬ (16 : Int) < (ps.length : Int) by omega), n32 a8, n32 a9]
    refine hK _ _ ?_
    clear hK K
    refine awp_cond_k ?_
    intro X Y hX hY
    simp only [↓DN, UP, DF, qSh, qCv, qIA, qIx, qSl, qBu, qCe, qOn, reduceCtorEq, ↓reduceIte, nLT, nLE, nEQ, nAdd, nMul, nPow, nSub, zLT, zLE, zNat, RMsg1221, DB]
    refine hY ?_
    clear hX hY X Y
    refine awp_skip ?_
    refine hK _ _ ?_
    clear hK K
    refine awp_seq_k ?_
    intro K hK
    refine awp_reg_seq ?_
    intro K hK
    simp only [↓DN, UP, DF, qSh, qCv, qIA, qIx, qSl, qBu, qCe, qOn, reduceCtorEq, ↓reduceIte, nLT, nLE, nEQ, nAdd, nMul, nPow, nSub, zLT, zLE, zNat, RMsg1221]
    refine hK _ _ ?_
    clear hK K
    refine awp_block ?_
    refine awp_loop (fun E s1 => ∃ i : Nat, i ≤ ps.length ∧ E 3 = .v (.int .i64 i) ∧ E 1 = .rop [.sl 1 g.length (g.map byteV) .any, .v (.int .i64 e), .v (.int .i64 sd), .sl 5 ps.length Z .any, .v (.bool hp), .v (.int .u64 pk), .sl 1 pp.length (pp.map byteV) .any, .sl 2 pst.length X .any, .sl 1 cf.length (cf.map byteV) .any, .sl 1 mb.length (mb.map byteV) .any] ∧ (∀ p ∈ ps.take i, p.right) ∧ s1 = s)
      (fun E _ => match E 3 with | .v (.int _ i) => ps.length - i.toNat | _ => 0) ?_ ?_
    · exact ⟨0, Nat.zero_le _, by simp only [upd, ↓reduceIte]; rfl, by simp only [upd, nEQ, ↓reduceIte], by simp, rfl⟩
    · rintro E1 s1 ⟨i, hi, g8, g1, hall, rfl⟩ -
      refine awp_seq_k ?_
      intro K2 hK2
      by_cases hi' : i < ps.length
      · refine awp_reg_seq ?_
        intro K hK
        simp only [↓DN, UP, DF, qSh, qCv, qIA, qIx, qSl, qBu, qCe, qOn, reduceCtorEq, ↓reduceIte, nLT, nLE, nEQ, nAdd, nMul, nPow, nSub, zLT, zLE, zNat, RMsg1221, g8, g1, eye_lt_nat, decide_eq_true hi']
        refine hK _ _ ?_
        clear hK K
        refine awp_cond_k ?_
        intro X Y hX hY
        simp only [↓DN, UP, DF, qSh, qCv, qIA, qIx, qSl, qBu, qCe, qOn, reduceCtorEq, ↓reduceIte, nLT, nLE, nEQ, nAdd, nMul, nPow, nSub, zLT, zLE, zNat, RMsg1221, DB]
        refine hX ?_
        clear hX hY X Y
        refine awp_skip ?_
        refine hK2 _ _ ?_
        clear hK2 K2
        refine awp_seq_k ?_
        intro K3 hK3
        refine awp_block ?_
        have hat := hrow i hi'
        have hge : (0 : Int) ≤ (i : Int) := by omega
        obtain ⟨y, hy⟩ : ∃ y, y = ps[i] := ⟨_, rfl⟩
        rw [← hy] at hat
        have hym : y ∈ ps := by rw [hy]; exact List.getElem_mem hi'
        have htk : y.right → ∀ x ∈ ps.take (i + 1), x.right := fun h => take_all hi' hall (by rw [← hy]; exact h)
        have hst := fun s => refProper_calls (Γ := Γ) y s
        clear hy
        obtain ⟨pk1, pk2, pk3, pk4, pk5⟩ := y
        unfold PropV.cells at hat hst
        refine awp_reg_seq ?_
        intro K hK
        simp only [↓DN, UP, DF, qSh, qCv, qIA, qIx, qSl, qBu, qCe, qOn, reduceCtorEq, ↓reduceIte, nLT, nLE, nEQ, nAdd, nMul, nPow, nSub, zLT, zLE, zNat, RMsg1221, g8, g1, eye_lt_nat, hi', hge, hat]
        refine acallk (hst _) ?_
        rintro r s2 ⟨rfl, rfl⟩
        by_cases h1 : PropV.right ⟨pk1, pk2, pk3, pk4, pk5⟩
        · simp only [↓AXq_nil, ↓AXq_cons, pval, DX, Nat.reduceBEq, ↓DN, UP, DF, qSh, qCv, qIA, qIx, qSl, qBu, qCe, qOn, reduceCtorEq, ↓reduceIte, nLT, nLE, nEQ, nAdd, nMul, nPow, nSub, zLT, zLE, zNat, RMsg1221, decide_eq_true h1]
          refine hK _ _ ?_
          clear hK K
          refine awp_cond_k ?_
          intro X Y hX hY
          simp only [↓DN, UP, DF, qSh, qCv, qIA, qIx, qSl, qBu, qCe, qOn, reduceCtorEq, ↓reduceIte, nLT, nLE, nEQ, nAdd, nMul, nPow, nSub, zLT, zLE, zNat, RMsg1221, DB]
          refine hY ?_
          clear hX hY X Y
          refine awp_skip ?_
          simp only [blockQ, thenQ, if_true, if_false]
          refine hK3 _ _ ?_
          clear hK3 K3
          refine awp_reg_end ?_
          intro K hK
          simp only [↓DN, UP, DF, qSh, qCv, qIA, qIx, qSl, qBu, qCe, qOn, reduceCtorEq, ↓reduceIte, nLT, nLE, nEQ, nAdd, nMul, nPow, nSub, zLT, zLE, zNat, RMsg1221, g8, eye_succM i (by omega)]
          refine hK _ _ ?_
          clear hK K
          refine ⟨⟨i + 1, by omega, by simp only [upd, ↓reduceIte], by simp only [upd, g1, nEQ, ↓reduceIte], htk h1, rfl⟩, ?_⟩
          simp only [g8, upd, ↓reduceIte]
          omega
        · simp only [↓AXq_nil, ↓AXq_cons, pval, DX, Nat.reduceBEq, ↓DN, UP, DF, qSh, qCv, qIA, qIx, qSl, qBu, qCe, qOn, reduceCtorEq, ↓reduceIte, nLT, nLE, nEQ, nAdd, nMul, nPow, nSub, zLT, zLE, zNat, RMsg1221, decide_eq_false h1]
          refine hK _ _ ?_
          clear hK K
          refine awp_cond_k ?_
          intro X Y hX hY
          simp only [↓DN, UP, DF, qSh, qCv, qIA, qIx, qSl, qBu, qCe, qOn, reduceCtorEq, ↓reduceIte, nLT, nLE, nEQ, nAdd, nMul, nPow, nSub, zLT, zLE, zNat, RMsg1221, DB]
          refine hX ?_
          clear hX hY X Y
          refine awp_reg_seq ?_
          intro K hK
          simp only [↓DN, UP, DF, qSh, qCv, qIA, qIx, qSl, qBu, qCe, qOn, reduceCtorEq, ↓reduceIte, nLT, nLE, nEQ, nAdd, nMul, nPow, nSub, zLT, zLE, zNat, RMsg1221]
          refine hK _ _ ?_
          clear hK K
          refine awp_ret ?_
          try simp only [thenQ, blockQ]
          simp only [retQ, AEnds, aresL, ares, List.toList_toArray, ↓upd_same]; try simp only [↓DN, UP, DF, qSh, qCv, qIA, qIx, qSl, qBu, qCe, qOn, reduceCtorEq, ↓reduceIte, nLT, nLE, nEQ, nAdd, nMul, nPow, nSub, zLT, zLE, zNat, RMsg1221, DT]
          exact ⟨_, _, AV.weak.refl _, AS.le.refl _, by rw [decide_eq_false fun q => h1 (q.1 _ hym)], rfl⟩
      · have hfull := take_full hi' hall
        have hd : ∀ (A B : Prop) [Decidable A] [Decidable B], A → decide (A ∧ B) = decide B := fun A B _ _ h => decide_eq_decide.2 ⟨fun q => q.2, fun q => ⟨h, q⟩⟩
        rw [hd _ _ hfull] at hK ⊢
        clear hd
        refine awp_reg_seq ?_
        intro K hK
        simp only [↓DN, UP, DF, qSh, qCv, qIA, qIx, qSl, qBu, qCe, qOn, reduceCtorEq, ↓reduceIte, nLT, nLE, nEQ, nAdd, nMul, nPow, nSub, zLT, zLE, zNat, RMsg1221, g8, g1, eye_lt_nat, decide_eq_false hi']
        refine hK _ _ ?_
        clear hK K
        refine awp_cond_k ?_
        intro X Y hX hY
        simp only [↓DN, UP, DF, qSh, qCv, qIA, qIx, qSl, qBu, qCe, qOn, reduceCtorEq, ↓reduceIte, nLT, nLE, nEQ, nAdd, nMul, nPow, nSub, zLT, zLE, zNat, RMsg1221, DB]
        refine hY ?_
        clear hX hY X Y
        refine awp_exit ?_
        simp only [thenQ, blockQ, if_true]
        refine hK _ _ ?_
        clear hK K hK2 K2 g8
        refine awp_seq_k ?_
        intro K hK
        cases hp with
        | false =>
          refine awp_reg_seq ?_
          intro K hK
          simp only [↓DN, UP, DF, qSh, qCv, qIA, qIx, qSl, qBu, qCe, qOn, reduceCtorEq, ↓reduceIte, nLT, nLE, nEQ, nAdd, nMul, nPow, nSub, zLT, zLE, zNat, RMsg1221, g1]
          refine hK _ _ ?_
          clear hK K
          refine awp_cond_k ?_
          intro X Y hX hY
          simp only [↓DN, UP, DF, qSh, qCv, qIA, qIx, qSl, qBu, qCe, qOn, reduceCtorEq, ↓reduceIte, nLT, nLE, nEQ, nAdd, nMul, nPow, nSub, zLT, zLE, zNat, RMsg1221, DB]
          refine hX ?_
          clear hX hY X Y
          refine awp_reg_seq ?_
          intro K hK
          simp only [↓DN, UP, DF, qSh, qCv, qIA, qIx, qSl, qBu, qCe, qOn, reduceCtorEq, ↓reduceIte, nLT, nLE, nEQ, nAdd, nMul, nPow, nSub, zLT, zLE, zNat, RMsg1221, g1]
          refine acallk (ACalls.weaks (.cons (AV.weak.refl _) (.cons (AV.weak_agg (.cons (AV.weak.refl _) (.cons AV.weak_nil (.cons AV.weak_nil .nil)))) .nil)) (hsm _)) ?_
          rintro r s2 ⟨rfl, rfl⟩
          simp only [↓AXq_nil, ↓AXq_cons, pval, DX, Nat.reduceBEq, ↓DN, UP, DF, qSh, qCv, qIA, qIx, qSl, qBu, qCe, qOn, reduceCtorEq, ↓reduceIte, nLT, nLE, nEQ, nAdd, nMul, nPow, nSub, zLT, zLE, zNat, RMsg1221]
          refine hK _ _ ?_
          clear hK K
          refine awp_ret ?_
          try simp only [thenQ, blockQ]
          simp only [retQ, AEnds, aresL, ares, List.toList_toArray, ↓upd_same]; try simp only [↓DN, UP, DF, qSh, qCv, qIA, qIx, qSl, qBu, qCe, qOn, reduceCtorEq, ↓reduceIte, nLT, nLE, nEQ, nAdd, nMul, nPow, nSub, zLT, zLE, zNat, RMsg1221, DT]
          refine ⟨_, _, AV.weak.refl _, AS.le.refl _, ?_, rfl⟩
          congr 2
          exact decide_eq_decide.2 ⟨fun h _ => h, fun h => h trivial⟩
        | true =>
          have hpr : decide ((true = true → PathV.right ⟨pk, pp, pst⟩) ∧ (true = false → (⟨pk, pp, pst⟩ : PathV) = nopath)) = decide (((Pub pk ∧ (pp.length = 0 ∨ pp.length = 32) ∧ pst.length ≤ 5)) ∧ ∀ x ∈ pst, x.right) := by
            refine decide_eq_decide.2 ⟨fun h => ?_, fun h => ⟨fun _ => ?_, fun q => by cases q⟩⟩
            · obtain ⟨b1, b2, b3, b4⟩ := h.1 rfl
              exact ⟨⟨b2, b3, b4⟩, b1⟩
            · obtain ⟨⟨b2, b3, b4⟩, b1⟩ := h
              exact ⟨b1, b2, b3, b4⟩
          rw [hpr] at hK ⊢
          clear hpr
          refine awp_reg_seq ?_
          intro K hK
          simp only [↓DN, UP, DF, qSh, qCv, qIA, qIx, qSl, qBu, qCe, qOn, reduceCtorEq, ↓reduceIte, nLT, nLE, nEQ, nAdd, nMul, nPow, nSub, zLT, zLE, zNat, RMsg1221, g1]
          refine hK _ _ ?_
          clear hK K
          refine awp_cond_k ?_
          intro X Y hX hY
          simp only [↓DN, UP, DF, qSh, qCv, qIA, qIx, qSl, qBu, qCe, qOn, reduceCtorEq, ↓reduceIte, nLT, nLE, nEQ, nAdd, nMul, nPow, nSub, zLT, zLE, zNat, RMsg1221, DB]
          refine hY ?_
          clear hX hY X Y
          refine awp_skip ?_
          refine hK _ _ ?_
          clear hK K
          refine awp_seq_k ?_
          intro K hK
          by_cases hB : Pub pk ∧ (pp.length = 0 ∨ pp.length = 32) ∧ pst.length ≤ 5
          · have hd : ∀ (A B : Prop) [Decidable A] [Decidable B], A → decide (A ∧ B) = decide B := fun A B _ _ h => decide_eq_decide.2 ⟨fun q => q.2, fun q => ⟨h, q⟩⟩
            rw [hd _ _ hB] at hK ⊢
            clear hd
            obtain ⟨b1, b2, b3⟩ := hB
            have b2' : (((pp.length : Int) != 0) = false) ∨ (((pp.length : Int) != 0) = true ∧ ((pp.length : Int) != 32) = false) := by
              by_cases q : pp.length = 0
              · exact Or.inl (eq0N q)
              · exact Or.inr ⟨ne0N q, n32 (by omega)⟩
            have hgo : ∀ (E : Env), E 1 = .rop [.sl 1 g.length (g.map byteV) .any, .v (.int .i64 e), .v (.int .i64 sd), .sl 5 ps.length Z .any, .v (.bool true), .v (.int .u64 pk), .sl 1 pp.length (pp.map byteV) .any, .sl 2 pst.length X .any, .sl 1 cf.length (cf.map byteV) .any, .sl 1 mb.length (mb.map byteV) .any] → K E s1 := by
              clear g1 E1
              intro E g1
              refine hK _ _ ?_
              clear hK K
              refine awp_seq_k ?_
              intro K hK
              refine awp_reg_seq ?_
              intro K hK
              simp only [↓DN, UP, DF, qSh, qCv, qIA, qIx, qSl, qBu, qCe, qOn, reduceCtorEq, ↓reduceIte, nLT, nLE, nEQ, nAdd, nMul, nPow, nSub, zLT, zLE, zNat, RMsg1221]
              refine hK _ _ ?_
              clear hK K
              refine awp_block ?_
              refine awp_loop (fun E s9 => ∃ i : Nat, i ≤ pst.length ∧ E 4 = .v (.int .i64 i) ∧ E 1 = .rop [.sl 1 g.length (g.map byteV) .any, .v (.int .i64 e), .v (.int .i64 sd), .sl 5 ps.length Z .any, .v (.bool true), .v (.int .u64 pk), .sl 1 pp.length (pp.map byteV) .any, .sl 2 pst.length X .any, .sl 1 cf.length (cf.map byteV) .any, .sl 1 mb.length (mb.map byteV) .any] ∧ (∀ p ∈ pst.take i, p.right) ∧ s9 = s1)
                (fun E _ => match E 4 with | .v (.int _ i) => pst.length - i.toNat | _ => 0) ?_ ?_
              · exact ⟨0, Nat.zero_le _, by simp only [upd, ↓reduceIte]; rfl, by simp only [upd, g1, nEQ, ↓reduceIte], by simp, rfl⟩
              · clear g1
                rintro E1 s9 ⟨i, hi, g4, g1, hall, rfl⟩ -
                refine awp_seq_k ?_
                intro K2 hK2
                by_cases hi' : i < pst.length
                · refine awp_reg_seq ?_
                  intro K hK
                  simp only [↓DN, UP, DF, qSh, qCv, qIA, qIx, qSl, qBu, qCe, qOn, reduceCtorEq, ↓reduceIte, nLT, nLE, nEQ, nAdd, nMul, nPow, nSub, zLT, zLE, zNat, RMsg1221, g4, g1, eye_lt_nat, decide_eq_true hi']
                  refine hK _ _ ?_
                  clear hK K
                  refine awp_cond_k ?_
                  intro X Y hX hY
                  simp only [↓DN, UP, DF, qSh, qCv, qIA, qIx, qSl, qBu, qCe, qOn, reduceCtorEq, ↓reduceIte, nLT, nLE, nEQ, nAdd, nMul, nPow, nSub, zLT, zLE, zNat, RMsg1221, DB]
                  refine hX ?_
                  clear hX hY X Y
                  refine awp_skip ?_
                  refine hK2 _ _ ?_
                  clear hK2 K2
                  refine awp_seq_k ?_
                  intro K3 hK3
                  refine awp_block ?_
                  have hat := hrowS i hi'
                  have hge : (0 : Int) ≤ (i : Int) := by omega
                  obtain ⟨y, hy⟩ : ∃ y, y = pst[i] := ⟨_, rfl⟩
                  rw [← hy] at hat
                  have hym : y ∈ pst := by rw [hy]; exact List.getElem_mem hi'
                  have htk : y.right → ∀ x ∈ pst.take (i + 1), x.right := fun h => take_all hi' hall (by rw [← hy]; exact h)
                  have hyw := w5 y hym
                  clear hy
                  have hbad : ¬ y.right → decide (∀ x ∈ pst, x.right) = false := fun h => decide_eq_false fun hr => h (hr y hym)
                  obtain ⟨f, t⟩ := y
                  obtain ⟨_, _, hyl⟩ := hyw
                  simp only at hyl
                  unfold maxLen at hyl
                  unfold StepV.cells at hat
                  have hrw := fun i (h : i < t.length) => row_at (c := SealV.cells) (k := 2) (fun _ => rfl) h
                  generalize rowC SealV.cells t = T at *
                  refine awp_reg_frz 5 (by simp [dsts]) ?_
                  intro K2 hK2
                  simp only [↓AXq_nil, ↓AXq_cons, pval, DX, Nat.reduceBEq, ↓DN, UP, DF, qSh, qCv, qIA, qIx, qSl, qBu, qCe, qOn, reduceCtorEq, ↓reduceIte, nLT, nLE, nEQ, nAdd, nMul, nPow, nSub, zLT, zLE, zNat, RMsg1221, g4, g1, eye_lt_nat, hi', hge, hat]
                  intro o ho
                  refine hK2 _ _ o _ (by simp only [upd, nEQ, ↓reduceIte]) ho ?_
                  clear hK2 K2 ho
                  refine awp_seq_k ?_
                  intro K2 hK2
                  refine awp_reg_seq ?_
                  intro K hK
                  simp only [↓DN, UP, DF, qSh, qCv, qIA, qIx, qSl, qBu, qCe, qOn, reduceCtorEq, ↓reduceIte, nLT, nLE, nEQ, nAdd, nMul, nPow, nSub, zLT, zLE, zNat, RMsg1221]
                  refine acallk (refRightP_calls f _) ?_
                  rintro r s3 ⟨rfl, rfl⟩
                  by_cases c1 : Pub f
                  · by_cases c2 : t.length ≤ 32
                    · simp only [↓AXq_nil, ↓AXq_cons, pval, DX, Nat.reduceBEq, ↓DN, UP, DF, qSh, qCv, qIA, qIx, qSl, qBu, qCe, qOn, reduceCtorEq, ↓reduceIte, nLT, nLE, nEQ, nAdd, nMul, nPow, nSub, zLT, zLE, zNat, RMsg1221, decide_eq_true c1, decide_eq_false (show ¬ (32 : Int) < (t.length : Int) by omega)]
                      refine hK _ _ ?_
                      clear hK K
                      refine awp_cond_k ?_
                      intro X Y hX hY
                      simp only [↓DN, UP, DF, qSh, qCv, qIA, qIx, qSl, qBu, qCe, qOn, reduceCtorEq, ↓reduceIte, nLT, nLE, nEQ, nAdd, nMul, nPow, nSub, zLT, zLE, zNat, RMsg1221, DB]
                      refine hY ?_
                      clear hX hY X Y
                      refine awp_skip ?_
                      refine hK2 _ _ ?_
                      clear hK2 K2
                      refine awp_reg_seq ?_
                      intro K hK
                      simp only [↓DN, UP, DF, qSh, qCv, qIA, qIx, qSl, qBu, qCe, qOn, reduceCtorEq, ↓reduceIte, nLT, nLE, nEQ, nAdd, nMul, nPow, nSub, zLT, zLE, zNat, RMsg1221]
                      refine hK _ _ ?_
                      clear hK K
                      refine awp_block ?_
                      refine awp_loop (fun E s1 => ∃ k : Nat, k ≤ t.length ∧ E 6 = .v (.int .i64 k) ∧ E 5 = .rop [.v (.int .u64 f), .sl 2 t.length T .any] ∧ E 4 = .v (.int .i64 i) ∧ E 1 = .rop [.sl 1 g.length (g.map byteV) .any, .v (.int .i64 e), .v (.int .i64 sd), .sl 5 ps.length Z .any, .v (.bool true), .v (.int .u64 pk), .sl 1 pp.length (pp.map byteV) .any, .sl 2 pst.length X .any, .sl 1 cf.length (cf.map byteV) .any, .sl 1 mb.length (mb.map byteV) .any] ∧ (∀ p ∈ t.take k, p.right) ∧ s1 = s3)
                        (fun E _ => match E 6 with | .v (.int _ i) => t.length - i.toNat | _ => 0) ?_ ?_
                      · exact ⟨0, Nat.zero_le _, by simp only [upd, ↓reduceIte]; rfl, by simp only [upd, nEQ, ↓reduceIte], by simp only [upd, g4, nEQ, ↓reduceIte], by simp only [upd, g1, nEQ, ↓reduceIte], by simp, rfl⟩
                      · have G4 := g4
                        clear g4 g1 hall
                        rintro E2 s4 ⟨k, hk, g6, g5, g4, g1, hall, rfl⟩ -
                        refine awp_seq_k ?_
                        intro K2 hK2
                        by_cases hk' : k < t.length
                        · refine awp_reg_seq ?_
                          intro K hK
                          simp only [↓DN, UP, DF, qSh, qCv, qIA, qIx, qSl, qBu, qCe, qOn, reduceCtorEq, ↓reduceIte, nLT, nLE, nEQ, nAdd, nMul, nPow, nSub, zLT, zLE, zNat, RMsg1221, g6, g5, eye_lt_nat, decide_eq_true hk']
                          refine hK _ _ ?_
                          clear hK K
                          refine awp_cond_k ?_
                          intro X Y hX hY
                          simp only [↓DN, UP, DF, qSh, qCv, qIA, qIx, qSl, qBu, qCe, qOn, reduceCtorEq, ↓reduceIte, nLT, nLE, nEQ, nAdd, nMul, nPow, nSub, zLT, zLE, zNat, RMsg1221, DB]
                          refine hX ?_
                          clear hX hY X Y
                          refine awp_skip ?_
                          refine hK2 _ _ ?_
                          clear hK2 K2
                          refine awp_seq_k ?_
                          intro K4 hK4
                          refine awp_block ?_
                          have hat := hrw k hk'
                          have hge : (0 : Int) ≤ (k : Int) := by omega
                          obtain ⟨z, hz⟩ : ∃ z, z = t[k] := ⟨_, rfl⟩
                          rw [← hz] at hat
                          have hzm : z ∈ t := by rw [hz]; exact List.getElem_mem hk'
                          have htk2 : z.right → ∀ x ∈ t.take (k + 1), x.right := fun h => take_all hk' hall (by rw [← hz]; exact h)
                          clear hz
                          obtain ⟨u, v⟩ := z
                          unfold SealV.cells at hat
                          refine awp_reg_seq ?_
                          intro K hK
                          simp only [↓DN, UP, DF, qSh, qCv, qIA, qIx, qSl, qBu, qCe, qOn, reduceCtorEq, ↓reduceIte, nLT, nLE, nEQ, nAdd, nMul, nPow, nSub, zLT, zLE, zNat, RMsg1221, g6, g5, eye_lt_nat, hk', hge, hat]
                          refine acallk (refRightP_calls u _) ?_
                          rintro r s5 ⟨rfl, rfl⟩
                          by_cases d1 : Pub u
                          · by_cases d2 : v.length = 48
                            · simp only [↓AXq_nil, ↓AXq_cons, pval, DX, Nat.reduceBEq, ↓DN, UP, DF, qSh, qCv, qIA, qIx, qSl, qBu, qCe, qOn, reduceCtorEq, ↓reduceIte, nLT, nLE, nEQ, nAdd, nMul, nPow, nSub, zLT, zLE, zNat, RMsg1221, g6, g5, eye_lt_nat, hk', hge, hat, decide_eq_true d1, n48 d2]
                              refine hK _ _ ?_
                              clear hK K
                              refine awp_cond_k ?_
                              intro X Y hX hY
                              simp only [↓DN, UP, DF, qSh, qCv, qIA, qIx, qSl, qBu, qCe, qOn, reduceCtorEq, ↓reduceIte, nLT, nLE, nEQ, nAdd, nMul, nPow, nSub, zLT, zLE, zNat, RMsg1221, DB]
                              refine hY ?_
                              clear hX hY X Y
                              refine awp_skip ?_
                              simp only [blockQ, thenQ, if_true, if_false]
                              refine hK4 _ _ ?_
                              clear hK4 K4
                              refine awp_reg_end ?_
                              intro K hK
                              simp only [↓DN, UP, DF, qSh, qCv, qIA, qIx, qSl, qBu, qCe, qOn, reduceCtorEq, ↓reduceIte, nLT, nLE, nEQ, nAdd, nMul, nPow, nSub, zLT, zLE, zNat, RMsg1221, g6, eye_succM k (by omega)]
                              refine hK _ _ ?_
                              clear hK K
                              refine ⟨⟨k + 1, by omega, by simp only [upd, ↓reduceIte], by simp only [upd, g5, nEQ, ↓reduceIte], by simp only [upd, g4, nEQ, ↓reduceIte], by simp only [upd, g1, nEQ, ↓reduceIte], htk2 ⟨d1, d2⟩, rfl⟩, ?_⟩
                              simp only [g6, upd, ↓reduceIte]
                              omega
                            · simp only [↓AXq_nil, ↓AXq_cons, pval, DX, Nat.reduceBEq, ↓DN, UP, DF, qSh, qCv, qIA, qIx, qSl, qBu, qCe, qOn, reduceCtorEq, ↓reduceIte, nLT, nLE, nEQ, nAdd, nMul, nPow, nSub, zLT, zLE, zNat, RMsg1221, g6, g5, eye_lt_nat, hk', hge, hat, decide_eq_true d1, n48T d2]
                              refine hK _ _ ?_
                              clear hK K
                              refine awp_cond_k ?_
                              intro X Y hX hY
                              simp only [↓DN, UP, DF, qSh, qCv, qIA, qIx, qSl, qBu, qCe, qOn, reduceCtorEq, ↓reduceIte, nLT, nLE, nEQ, nAdd, nMul, nPow, nSub, zLT, zLE, zNat, RMsg1221, DB]
                              refine hX ?_
                              clear hX hY X Y
                              refine awp_reg_seq ?_
                              intro K hK
                              simp only [↓DN, UP, DF, qSh, qCv, qIA, qIx, qSl, qBu, qCe, qOn, reduceCtorEq, ↓reduceIte, nLT, nLE, nEQ, nAdd, nMul, nPow, nSub, zLT, zLE, zNat, RMsg1221]
                              refine hK _ _ ?_
                              clear hK K
                              refine awp_ret ?_
                              try simp only [thenQ, blockQ]
                              simp only [retQ, AEnds, aresL, ares, List.toList_toArray, ↓upd_same]; try simp only [↓DN, UP, DF, qSh, qCv, qIA, qIx, qSl, qBu, qCe, qOn, reduceCtorEq, ↓reduceIte, nLT, nLE, nEQ, nAdd, nMul, nPow, nSub, zLT, zLE, zNat, RMsg1221, DT]
                              exact ⟨_, _, AV.weak.refl _, AS.le.refl _, by rw [hbad fun q => d2 (q.1 _ hzm).2], rfl⟩
                          · simp only [↓AXq_nil, ↓AXq_cons, pval, DX, Nat.reduceBEq, ↓DN, UP, DF, qSh, qCv, qIA, qIx, qSl, qBu, qCe, qOn, reduceCtorEq, ↓reduceIte, nLT, nLE, nEQ, nAdd, nMul, nPow, nSub, zLT, zLE, zNat, RMsg1221, g6, g5, eye_lt_nat, hk', hge, hat, decide_eq_false d1]
                            refine hK _ _ ?_
                            clear hK K
                            refine awp_cond_k ?_
                            intro X Y hX hY
                            simp only [↓DN, UP, DF, qSh, qCv, qIA, qIx, qSl, qBu, qCe, qOn, reduceCtorEq, ↓reduceIte, nLT, nLE, nEQ, nAdd, nMul, nPow, nSub, zLT, zLE, zNat, RMsg1221, DB]
                            refine hX ?_
                            clear hX hY X Y
                            refine awp_reg_seq ?_
                            intro K hK
                            simp only [↓DN, UP, DF, qSh, qCv, qIA, qIx, qSl, qBu, qCe, qOn, reduceCtorEq, ↓reduceIte, nLT, nLE, nEQ, nAdd, nMul, nPow, nSub, zLT, zLE, zNat, RMsg1221]
                            refine hK _ _ ?_
                            clear hK K
                            refine awp_ret ?_
                            try simp only [thenQ, blockQ]
                            simp only [retQ, AEnds, aresL, ares, List.toList_toArray, ↓upd_same]; try simp only [↓DN, UP, DF, qSh, qCv, qIA, qIx, qSl, qBu, qCe, qOn, reduceCtorEq, ↓reduceIte, nLT, nLE, nEQ, nAdd, nMul, nPow, nSub, zLT, zLE, zNat, RMsg1221, DT]
                            exact ⟨_, _, AV.weak.refl _, AS.le.refl _, by rw [hbad fun q => d1 (q.1 _ hzm).1], rfl⟩
                        · refine awp_reg_seq ?_
                          intro K hK
                          simp only [↓DN, UP, DF, qSh, qCv, qIA, qIx, qSl, qBu, qCe, qOn, reduceCtorEq, ↓reduceIte, nLT, nLE, nEQ, nAdd, nMul, nPow, nSub, zLT, zLE, zNat, RMsg1221, g6, g5, eye_lt_nat, decide_eq_false hk']
                          refine hK _ _ ?_
                          clear hK K
                          refine awp_cond_k ?_
                          intro X Y hX hY
                          simp only [↓DN, UP, DF, qSh, qCv, qIA, qIx, qSl, qBu, qCe, qOn, reduceCtorEq, ↓reduceIte, nLT, nLE, nEQ, nAdd, nMul, nPow, nSub, zLT, zLE, zNat, RMsg1221, DB]
                          refine hY ?_
                          clear hX hY X Y
                          refine awp_exit ?_
                          simp only [thenQ, blockQ, if_true, if_false]
                          refine hK3 _ _ ?_
                          clear hK3 hK2 K2 K3
                          refine awp_reg_end ?_
                          intro K hK
                          simp only [↓DN, UP, DF, qSh, qCv, qIA, qIx, qSl, qBu, qCe, qOn, reduceCtorEq, ↓reduceIte, nLT, nLE, nEQ, nAdd, nMul, nPow, nSub, zLT, zLE, zNat, RMsg1221, g4, eye_succM i (by omega)]
                          refine hK _ _ ?_
                          clear hK K
                          refine ⟨⟨i + 1, by omega, by simp only [upd, ↓reduceIte], by simp only [upd, g1, nEQ, ↓reduceIte], htk ⟨take_full hk' hall, c1, c2⟩, rfl⟩, ?_⟩
                          simp only [G4, upd, ↓reduceIte]
                          omega
                    · simp only [↓AXq_nil, ↓AXq_cons, pval, DX, Nat.reduceBEq, ↓DN, UP, DF, qSh, qCv, qIA, qIx, qSl, qBu, qCe, qOn, reduceCtorEq, ↓reduceIte, nLT, nLE, nEQ, nAdd, nMul, nPow, nSub, zLT, zLE, zNat, RMsg1221, decide_eq_true c1, decide_eq_true (show (32 : Int) < (t.length : Int) by omega)]
                      refine hK _ _ ?_
                      clear hK K
                      refine awp_cond_k ?_
                      intro X Y hX hY
                      simp only [↓DN, UP, DF, qSh, qCv, qIA, qIx, qSl, qBu, qCe, qOn, reduceCtorEq, ↓reduceIte, nLT, nLE, nEQ, nAdd, nMul, nPow, nSub, zLT, zLE, zNat, RMsg1221, DB]
                      refine hX ?_
                      clear hX hY X Y
                      refine awp_reg_seq ?_
                      intro K hK
                      simp only [↓DN, UP, DF, qSh, qCv, qIA, qIx, qSl, qBu, qCe, qOn, reduceCtorEq, ↓reduceIte, nLT, nLE, nEQ, nAdd, nMul, nPow, nSub, zLT, zLE, zNat, RMsg1221]
                      refine hK _ _ ?_
                      clear hK K
                      refine awp_ret ?_
                      try simp only [thenQ, blockQ]
                      simp only [retQ, AEnds, aresL, ares, List.toList_toArray, ↓upd_same]; try simp only [↓DN, UP, DF, qSh, qCv, qIA, qIx, qSl, qBu, qCe, qOn, reduceCtorEq, ↓reduceIte, nLT, nLE, nEQ, nAdd, nMul, nPow, nSub, zLT, zLE, zNat, RMsg1221, DT]
                      exact ⟨_, _, AV.weak.refl _, AS.le.refl _, by rw [hbad fun q => c2 q.2.2], rfl⟩
                  · simp only [↓AXq_nil, ↓AXq_cons, pval, DX, Nat.reduceBEq, ↓DN, UP, DF, qSh, qCv, qIA, qIx, qSl, qBu, qCe, qOn, reduceCtorEq, ↓reduceIte, nLT, nLE, nEQ, nAdd, nMul, nPow, nSub, zLT, zLE, zNat, RMsg1221, decide_eq_false c1]
                    refine hK _ _ ?_
                    clear hK K
                    refine awp_cond_k ?_
                    intro X Y hX hY
                    simp only [↓DN, UP, DF, qSh, qCv, qIA, qIx, qSl, qBu, qCe, qOn, reduceCtorEq, ↓reduceIte, nLT, nLE, nEQ, nAdd, nMul, nPow, nSub, zLT, zLE, zNat, RMsg1221, DB]
                    refine hX ?_
                    clear hX hY X Y
                    refine awp_reg_seq ?_
                    intro K hK
                    simp only [↓DN, UP, DF, qSh, qCv, qIA, qIx, qSl, qBu, qCe, qOn, reduceCtorEq, ↓reduceIte, nLT, nLE, nEQ, nAdd, nMul, nPow, nSub, zLT, zLE, zNat, RMsg1221]
                    refine hK _ _ ?_
                    clear hK K
                    refine awp_ret ?_
                    try simp only [thenQ, blockQ]
                    simp only [retQ, AEnds, aresL, ares, List.toList_toArray, ↓upd_same]; try simp only [↓DN, UP, DF, qSh, qCv, qIA, qIx, qSl, qBu, qCe, qOn, reduceCtorEq, ↓reduceIte, nLT, nLE, nEQ, nAdd, nMul, nPow, nSub, zLT, zLE, zNat, RMsg1221, DT]
                    exact ⟨_, _, AV.weak.refl _, AS.le.refl _, by rw [hbad fun q => c1 q.2.1], rfl⟩
                · refine awp_reg_seq ?_
                  intro K hK
                  simp only [↓DN, UP, DF, qSh, qCv, qIA, qIx, qSl, qBu, qCe, qOn, reduceCtorEq, ↓reduceIte, nLT, nLE, nEQ, nAdd, nMul, nPow, nSub, zLT, zLE, zNat, RMsg1221, g4, g1, eye_lt_nat, decide_eq_false hi']
                  refine hK _ _ ?_
                  clear hK K
                  refine awp_cond_k ?_
                  intro X Y hX hY
                  simp only [↓DN, UP, DF, qSh, qCv, qIA, qIx, qSl, qBu, qCe, qOn, reduceCtorEq, ↓reduceIte, nLT, nLE, nEQ, nAdd, nMul, nPow, nSub, zLT, zLE, zNat, RMsg1221, DB]
                  refine hY ?_
                  clear hX hY X Y
                  refine awp_exit ?_
                  simp only [thenQ, blockQ, if_true]
                  refine hK _ _ ?_
                  clear hK K hK2 K2
                  refine awp_reg_seq ?_
                  intro K hK
                  simp only [↓DN, UP, DF, qSh, qCv, qIA, qIx, qSl, qBu, qCe, qOn, reduceCtorEq, ↓reduceIte, nLT, nLE, nEQ, nAdd, nMul, nPow, nSub, zLT, zLE, zNat, RMsg1221]
                  refine hK _ _ ?_
                  clear hK K
                  refine awp_ret ?_
                  simp only [retQ, AEnds, aresL, ares, List.toList_toArray, ↓upd_same]; try simp only [↓DN, UP, DF, qSh, qCv, qIA, qIx, qSl, qBu, qCe, qOn, reduceCtorEq, ↓reduceIte, nLT, nLE, nEQ, nAdd, nMul, nPow, nSub, zLT, zLE, zNat, RMsg1221, DT]
                  exact ⟨_, _, AV.weak.refl _, AS.le.refl _, by rw [decide_eq_true (take_full hi' hall)], rfl⟩
            refine awp_reg_seq ?_
            intro K hK
            simp only [↓DN, UP, DF, qSh, qCv, qIA, qIx, qSl, qBu, qCe, qOn, reduceCtorEq, ↓reduceIte, nLT, nLE, nEQ, nAdd, nMul, nPow, nSub, zLT, zLE, zNat, RMsg1221, g1]
            refine acallk (refRightP_calls pk _) ?_
            rintro r s2 ⟨rfl, rfl⟩
            rcases b2' with b2' | b2'
            all_goals
              simp only [↓AXq_nil, ↓AXq_cons, pval, DX, Nat.reduceBEq, ↓DN, UP, DF, qSh, qCv, qIA, qIx, qSl, qBu, qCe, qOn, reduceCtorEq, ↓reduceIte, nLT, nLE, nEQ, nAdd, nMul, nPow, nSub, zLT, zLE, zNat, RMsg1221, g1, decide_eq_true b1, b2', decide_eq_false (show ¬ (5 : Int) < (pst.length : Int) by omega)]
              refine hK _ _ ?_
              clear hK K
              refine awp_cond_k ?_
              intro X Y hX hY
              simp only [↓DN, UP, DF, qSh, qCv, qIA, qIx, qSl, qBu, qCe, qOn, reduceCtorEq, ↓reduceIte, nLT, nLE, nEQ, nAdd, nMul, nPow, nSub, zLT, zLE, zNat, RMsg1221, DB]
              refine hY ?_
              clear hX hY X Y
              refine awp_skip ?_
              exact hgo _ (by simp only [upd, g1, nEQ, ↓reduceIte])
          · have hx : decide ((Pub pk ∧ (pp.length = 0 ∨ pp.length = 32) ∧ pst.length ≤ 5) ∧ ∀ x ∈ pst, x.right) = false := decide_eq_false fun q => hB q.1
            rw [hx] at hK ⊢
            have hgo : decide (Pub pk) = false ∨ (decide (Pub pk) = true ∧ ((pp.length : Int) != 0) = true ∧ ((pp.length : Int) != 32) = true) ∨ (decide (Pub pk) = true ∧ ((pp.length : Int) != 0) = false ∧ decide ((5 : Int) < (pst.length : Int)) = true) ∨ (decide (Pub pk) = true ∧ ((pp.length : Int) != 0) = true ∧ ((pp.length : Int) != 32) = false ∧ decide ((5 : Int) < (pst.length : Int)) = true) := by
              by_cases q1 : Pub pk
              · by_cases q2 : pp.length = 0
                · exact Or.inr (Or.inr (Or.inl ⟨decide_eq_true q1, eq0N q2, decide_eq_true (by have : ¬ pst.length ≤ 5 := fun q => hB ⟨q1, Or.inl q2, q⟩; omega)⟩))
                · by_cases q3 : pp.length = 32
                  · exact Or.inr (Or.inr (Or.inr ⟨decide_eq_true q1, ne0N q2, n32 q3, decide_eq_true (by have : ¬ pst.length ≤ 5 := fun q => hB ⟨q1, Or.inr q3, q⟩; omega)⟩))
                  · exact Or.inr (Or.inl ⟨decide_eq_true q1, ne0N q2, n32T q3⟩)
              · exact Or.inl (decide_eq_false q1)
            refine awp_reg_seq ?_
            intro K hK
            simp only [↓DN, UP, DF, qSh, qCv, qIA, qIx, qSl, qBu, qCe, qOn, reduceCtorEq, ↓reduceIte, nLT, nLE, nEQ, nAdd, nMul, nPow, nSub, zLT, zLE, zNat, RMsg1221, g1]
            refine acallk (refRightP_calls pk _) ?_
            rintro r s2 ⟨rfl, rfl⟩
            rcases hgo with hd | hd | hd | hd
            all_goals
              simp only [↓AXq_nil, ↓AXq_cons, pval, DX, Nat.reduceBEq, ↓DN, UP, DF, qSh, qCv, qIA, qIx, qSl, qBu, qCe, qOn, reduceCtorEq, ↓reduceIte, nLT, nLE, nEQ, nAdd, nMul, nPow, nSub, zLT, zLE, zNat, RMsg1221, g1, hd]
              refine hK _ _ ?_
              clear hK K
              refine awp_cond_k ?_
              intro X Y hX hY
              simp only [↓DN, UP, DF, qSh, qCv, qIA, qIx, qSl, qBu, qCe, qOn, reduceCtorEq, ↓reduceIte, nLT, nLE, nEQ, nAdd, nMul, nPow, nSub, zLT, zLE, zNat, RMsg1221, DB]
              refine hX ?_
              clear hX hY X Y
              refine awp_reg_seq ?_
              intro K hK
              simp only [↓DN, UP, DF, qSh, qCv, qIA, qIx, qSl, qBu, qCe, qOn, reduceCtorEq, ↓reduceIte, nLT, nLE, nEQ, nAdd, nMul, nPow, nSub, zLT, zLE, zNat, RMsg1221]
              refine hK _ _ ?_
              clear hK K
              refine awp_ret ?_
              try simp only [thenQ, blockQ]
              simp only [retQ, AEnds, aresL, ares, List.toList_toArray, ↓upd_same]; try simp only [↓DN, UP, DF, qSh, qCv, qIA, qIx, qSl, qBu, qCe, qOn, reduceCtorEq, ↓reduceIte, nLT, nLE, nEQ, nAdd, nMul, nPow, nSub, zLT, zLE, zNat, RMsg1221, DT]
              exact ⟨_, _, AV.weak.refl _, AS.le.refl _, rfl, rfl⟩
  · have hx : decide (((1 ≤ g.length ∧ g.length ≤ 16) ∧ (0 ≤ e ∧ e ≤ 1048576) ∧ (0 ≤ sd ∧ sd < 32) ∧ ps.length ≤ 16 ∧ cf.length = 32 ∧ mb.length = 32) ∧ (∀ x ∈ ps, x.right) ∧ ((hp = true → PathV.right ⟨pk, pp, pst⟩) ∧ (hp = false → (⟨pk, pp, pst⟩ : PathV) = nopath))) = false := decide_eq_false fun q => hA q.1
    rw [hx] at hK ⊢
    clear hx
    rcases tt9 (decide ((g.length : Int) < 1)) (decide ((16 : Int) < (g.length : Int))) (decide (e < 0)) (decide ((1048576 : Int) < e)) (decide (sd < 0)) (decide ((31 : Int) < sd)) (decide ((16 : Int) < (ps.length : Int))) ((cf.length : Int) != 32) ((mb.length : Int) != 32) with hd | hd | hd | hd | hd | hd | hd | hd | hd | hd
    case inr.inr.inr.inr.inr.inr.inr.inr.inr =>
      simp only [decide_eq_false_iff_not, bne_eq_false_iff_eq] at hd
      exact absurd (by omega) hA
    all_goals
      refine awp_reg_seq ?_
      intro K hK
      simp only [↓DN, UP, DF, qSh, qCv, qIA, qIx, qSl, qBu, qCe, qOn, reduceCtorEq, ↓reduceIte, nLT, nLE, nEQ, nAdd, nMul, nPow, nSub, zLT, zLE, zNat, RMsg1221, hd]
      refine hK _ _ ?_
      clear hK K
      refine awp_cond_k ?_
      intro X Y hX hY
      simp only [↓DN, UP, DF, qSh, qCv, qIA, qIx, qSl, qBu, qCe, qOn, reduceCtorEq, ↓reduceIte, nLT, nLE, nEQ, nAdd, nMul, nPow, nSub, zLT, zLE, zNat, RMsg1221, DB]
      refine hX ?_
      clear hX hY X Y
      refine awp_reg_seq ?_
      intro K hK
      simp only [↓DN, UP, DF, qSh, qCv, qIA, qIx, qSl, qBu, qCe, qOn, reduceCtorEq, ↓reduceIte, nLT, nLE, nEQ, nAdd, nMul, nPow, nSub, zLT, zLE, zNat, RMsg1221]
      refine hK _ _ ?_
      clear hK K
      refine awp_ret ?_
      try simp only [thenQ, blockQ]
      simp only [retQ, AEnds, aresL, ares, List.toList_toArray, ↓upd_same]; try simp only [↓DN, UP, DF, qSh, qCv, qIA, qIx, qSl, qBu, qCe, qOn, reduceCtorEq, ↓reduceIte, nLT, nLE, nEQ, nAdd, nMul, nPow, nSub, zLT, zLE, zNat, RMsg1221, DT]
      exact ⟨_, _, AV.weak.refl _, AS.le.refl _, rfl, rfl⟩

end Go.Proofs.Ytcnilmidfhpckaa


set_option autoImplicit false
namespace Go.Proofs.Ytcnilmidfhpckaa
open Go Go.AM Go.Proofs



/-! ### What octets a commit is read from, and back -/
def sealR (st : EyeSt) : SealV × EyeSt := (⟨(hRead 48 st).1.1, (hRead 48 st).1.2⟩, (hRead 48 st).2)
/-- So many things, one after another. -/
def rowR {α : Type} (f : EyeSt → α × EyeSt) : Nat → EyeSt → List α × EyeSt
  | 0, st => ([], st)
  | n + 1, st => ((rowR f n st).1 ++ [(f (rowR f n st).2).1], (f (rowR f n st).2).2)
def stepR (st : EyeSt) : StepV × EyeSt :=
  let a := eyeNum 8 st
  let n := eyeNum 1 a.2
  let q := rowR sealR n.1 n.2
  (⟨a.1, q.1⟩, q.2)
def pathRaw (st : EyeSt) : PathV × EyeSt :=
  let a := eyeNum 8 st
  let b := eyeText 1 32 a.2
  let n := eyeNum 1 b.2
  let q := rowR stepR n.1 n.2
  (⟨a.1, b.1, q.1⟩, q.2)
def noPath : PathV := ⟨0, [], []⟩
def pathR (st : EyeSt) : PathV × EyeSt := (if (pathRaw st).2.2 = 0 then (pathRaw st).1 else noPath, (pathRaw st).2)
def eFail (c : Int) (st : EyeSt) : EyeSt := (st.1, if st.2 = 0 then c else st.2)
def propR (st : EyeSt) : PropV × EyeSt :=
  let a := eyeNum 1 st
  if a.1 = 1 then
    let b := eyeText 1 16 a.2
    let k := eyeNum 8 b.2
    let i := eyeNum 8 k.2
    (⟨1, 0, b.1, k.1, i.1⟩, i.2)
  else if a.1 = 2 then
    let l := eyeNum 1 a.2
    let k := eyeNum 8 l.2
    (⟨2, l.1, [], k.1, 0⟩, k.2)
  else if a.1 = 3 then
    let l := eyeNum 1 a.2
    (⟨3, l.1, [], 0, 0⟩, l.2)
  else (⟨a.1, 0, [], 0, 0⟩, eFail 12 a.2)
def propsR : Nat → EyeSt → List PropV × EyeSt
  | 0, st => ([], st)
  | n + 1, st => (if (propR (propsR n st).2).2.2 = 0 then (propsR n st).1 ++ [(propR (propsR n st).2).1] else (propsR n st).1, (propR (propsR n st).2).2)
def capR (most : Nat) (st : EyeSt) : Nat × EyeSt := ((eyeNum 1 st).1, if most < (eyeNum 1 st).1 then eFail 12 (eyeNum 1 st).2 else (eyeNum 1 st).2)
def pathIf (k : Nat) (st : EyeSt) : PathV × EyeSt := if k = 1 then pathR st else (noPath, st)
def headR (b : List UInt8) : EyeSt := if (eyeNum 1 (b, 0)).1 = 1 then (eyeNum 1 (b, 0)).2 else eFail 12 (eyeNum 1 (b, 0)).2
def mRaw (b : List UInt8) : CommitV × EyeSt :=
  let g := eyeText 1 16 (headR b)
  let e := eyeNum 8 g.2
  let sd := eyeNum 1 e.2
  let n := capR 16 sd.2
  let ps := propsR n.1 n.2
  let h := capR 1 ps.2
  let pa := pathIf h.1 h.2
  let cf := eyeText 1 32 pa.2
  let mb := eyeText 1 32 cf.2
  (⟨g.1, iconv .i64 (e.1 : Int), sd.1, ps.1, decide (h.1 = 1), pa.1, cf.1, mb.1⟩, mb.2)
def noCommit : CommitV := ⟨[], 0, 0, [], false, noPath, [], []⟩
def mRead (b : List UInt8) : CommitV × Int :=
  if eyeEnd (mRaw b).2 = 0 then (if (mRaw b).1.right then ((mRaw b).1, 0) else (noCommit, 12)) else (noCommit, eyeEnd (mRaw b).2)

/-! lengths, what fits -/
theorem hRead_left (most : Int) (st : EyeSt) : (hRead most st).2.1.length ≤ st.1.length := by
  unfold hRead hRaw
  simp only
  refine Nat.le_trans (eyeText_len _ _ _).2 ?_
  rw [hFail_len]
  exact eyeNum_len _ _
theorem sealR_left (st : EyeSt) : (sealR st).2.1.length ≤ st.1.length := hRead_left _ _
theorem rowR_left {α : Type} {f : EyeSt → α × EyeSt} (h : ∀ st, (f st).2.1.length ≤ st.1.length) : ∀ (n : Nat) (st : EyeSt), (rowR f n st).2.1.length ≤ st.1.length
  | 0, _ => Nat.le_refl _
  | n + 1, st => Nat.le_trans (h _) (rowR_left h n st)
theorem rowR_len {α : Type} {f : EyeSt → α × EyeSt} : ∀ (n : Nat) (st : EyeSt), (rowR f n st).1.length = n
  | 0, _ => rfl
  | n + 1, st => by simp [rowR, rowR_len n st]
theorem rowR_all {α : Type} {f : EyeSt → α × EyeSt} {Q : α → Prop} (h : ∀ st, Q (f st).1) : ∀ (n : Nat) (st : EyeSt), ∀ x ∈ (rowR f n st).1, Q x
  | 0, _ => by intro x hx; cases hx
  | n + 1, st => by
    intro x hx
    simp only [rowR, List.mem_append, List.mem_singleton] at hx
    rcases hx with hx | rfl
    · exact rowR_all h n st x hx
    · exact h _
theorem stepR_left (st : EyeSt) : (stepR st).2.1.length ≤ st.1.length :=
  Nat.le_trans (rowR_left sealR_left _ _) (Nat.le_trans (eyeNum_len _ _) (eyeNum_len _ _))
theorem pathRaw_left (st : EyeSt) : (pathRaw st).2.1.length ≤ st.1.length :=
  Nat.le_trans (rowR_left stepR_left _ _) (Nat.le_trans (eyeNum_len _ _) (Nat.le_trans (eyeText_len _ _ _).2 (eyeNum_len _ _)))
theorem pathR_left (st : EyeSt) : (pathR st).2.1.length ≤ st.1.length := pathRaw_left st
theorem propR_left (st : EyeSt) : (propR st).2.1.length ≤ st.1.length := by
  unfold propR
  simp only
  have h := eyeNum_len 1 st
  split
  · exact Nat.le_trans (eyeNum_len _ _) (Nat.le_trans (eyeNum_len _ _) (Nat.le_trans (eyeText_len _ _ _).2 h))
  · split
    · exact Nat.le_trans (eyeNum_len _ _) (Nat.le_trans (eyeNum_len _ _) h)
    · split
      · exact Nat.le_trans (eyeNum_len _ _) h
      · exact h
theorem propsR_left : ∀ (n : Nat) (st : EyeSt), (propsR n st).2.1.length ≤ st.1.length
  | 0, _ => Nat.le_refl _
  | n + 1, st => Nat.le_trans (propR_left _) (propsR_left n st)
theorem propsR_len : ∀ (n : Nat) (st : EyeSt), (propsR n st).1.length ≤ n
  | 0, _ => Nat.le_refl _
  | n + 1, st => by
    have := propsR_len n st
    simp only [propsR]
    split
    · simp; omega
    · omega
theorem eyeNum8_lt (st : EyeSt) : (eyeNum 8 st).1 < 2 ^ 64 := Nat.lt_of_lt_of_le (eyeNum_lt 8 st) (by decide)
theorem hRead_lt (most : Int) (st : EyeSt) : (hRead most st).1.1 < 2 ^ 64 := by
  unfold hRead hRaw
  simp only
  split
  · exact eyeNum8_lt st
  · decide
theorem sealR_wf (st : EyeSt) : (sealR st).1.wf := hRead_lt _ _
theorem eyeNum1_lt (st : EyeSt) : (eyeNum 1 st).1 < 256 := Nat.lt_of_lt_of_le (eyeNum_lt 1 st) (by decide)
theorem stepR_wf (st : EyeSt) : (stepR st).1.wf ∧ (stepR st).1.seals.length < 256 := by
  have h : (stepR st).1.seals.length < 256 := by simp only [stepR, rowR_len]; exact eyeNum1_lt _
  refine ⟨⟨eyeNum8_lt _, fun x hx => rowR_all sealR_wf _ _ x hx, ?_⟩, h⟩
  have : (256 : Nat) ≤ maxLen := by decide
  omega
theorem noPath_wf : noPath.wf := ⟨by decide, (by intro x hx; cases hx), by decide⟩
theorem pathRaw_wf (st : EyeSt) : (pathRaw st).1.wf ∧ (pathRaw st).1.steps.length < 256 := by
  have h : (pathRaw st).1.steps.length < 256 := by simp only [pathRaw, rowR_len]; exact eyeNum1_lt _
  refine ⟨⟨eyeNum8_lt _, fun x hx => rowR_all (fun st => (stepR_wf st).1) _ _ x hx, ?_⟩, h⟩
  have : (256 : Nat) ≤ maxLen := by decide
  omega
theorem pathR_wf (st : EyeSt) : (pathR st).1.wf := by
  simp only [pathR]
  split
  · exact (pathRaw_wf st).1
  · exact noPath_wf
theorem propR_wf (st : EyeSt) : (propR st).1.wf := by
  simp only [propR]
  split
  · exact ⟨eyeNum8_lt _, eyeNum8_lt _⟩
  · split
    · exact ⟨eyeNum8_lt _, Nat.two_pow_pos 64⟩
    · split
      · exact ⟨Nat.two_pow_pos 64, Nat.two_pow_pos 64⟩
      · exact ⟨Nat.two_pow_pos 64, Nat.two_pow_pos 64⟩
theorem propsR_wf : ∀ (n : Nat) (st : EyeSt), ∀ x ∈ (propsR n st).1, x.wf
  | 0, _ => by intro x hx; cases hx
  | n + 1, st => by
    intro x hx
    simp only [propsR] at hx
    split at hx
    · rw [List.mem_append, List.mem_singleton] at hx
      rcases hx with hx | rfl
      · exact propsR_wf n st x hx
      · exact propR_wf _
    · exact propsR_wf n st x hx
theorem pathIf_wf (k : Nat) (st : EyeSt) : (pathIf k st).1.wf := by
  unfold pathIf; split
  · exact pathR_wf st
  · exact noPath_wf
theorem mRaw_wf (b : List UInt8) : (mRaw b).1.wf := by
  refine ⟨fun x hx => propsR_wf _ _ x hx, pathIf_wf _ _, ?_⟩
  have h := propsR_len (capR 16 (eyeNum 1 (eyeNum 8 (eyeText 1 16 (headR b)).2).2).2).1 (capR 16 (eyeNum 1 (eyeNum 8 (eyeText 1 16 (headR b)).2).2).2).2
  have h2 := eyeNum1_lt (eyeNum 1 (eyeNum 8 (eyeText 1 16 (headR b)).2).2).2
  have h3 : (256 : Nat) ≤ maxLen := by decide
  exact Nat.le_trans h (Nat.le_trans (Nat.le_of_lt h2) h3)

/-! an error stays -/
theorem eFail_ne {c : Int} (hc : c ≠ 0) (st : EyeSt) : (eFail c st).2 ≠ 0 := by
  unfold eFail; simp only; split
  · exact hc
  · assumption
theorem eyeNum_bad {k : Nat} {st : EyeSt} (h : st.2 ≠ 0) : eyeNum k st = (0, st) := eyeNum_err h
theorem eFail_bad {c : Int} {st : EyeSt} (h : st.2 ≠ 0) : eFail c st = st := by unfold eFail; rw [if_neg h]
theorem propR_bad {st : EyeSt} (h : st.2 ≠ 0) : (propR st).2 = st := by
  unfold propR; simp only [eyeNum_bad h]
  rw [if_neg (by decide), if_neg (by decide), if_neg (by decide)]
  exact eFail_bad h
theorem propsR_bad {n i : Nat} {st : EyeSt} (hi : i ≤ n) (h : (propsR i st).2.2 ≠ 0) : (propsR n st).2 = (propsR i st).2 := by
  induction n with
  | zero => obtain rfl : i = 0 := by omega
            rfl
  | succ n ih =>
    by_cases e : i = n + 1
    · rw [e]
    · have := ih (by omega)
      simp only [propsR]
      rw [propR_bad (by rw [this]; exact h), this]

/-! with no error, what was read is what stood there -/
theorem hRead_zero {most : Int} {st : EyeSt} (h : (hRead most st).2.2 = 0) :
    st.2 = 0 ∧ st.1 = be 8 (hRead most st).1.1 ++ (be 2 (hRead most st).1.2.length ++ (hRead most st).1.2) ++ (hRead most st).2.1 := by
  unfold hRead at h ⊢
  simp only at h ⊢
  rw [if_pos h]
  unfold hRaw at h ⊢
  simp only at h ⊢
  obtain ⟨q1, e1⟩ := eyeText_zero h
  have hp : pubOk (eyeNum 8 st).1 := by
    by_cases hp : pubOk (eyeNum 8 st).1
    · exact hp
    · exfalso
      unfold hFail at q1
      rw [if_neg hp] at q1
      simp only at q1
      split at q1
      · exact absurd q1 (by decide)
      · exact absurd q1 (by assumption)
  have hf : hFail (eyeNum 8 st).1 (eyeNum 8 st).2 = (eyeNum 8 st).2 := if_pos hp
  rw [hf] at q1 e1 ⊢
  obtain ⟨q2, _, e2⟩ := eyeNum_zero q1
  refine ⟨q2, ?_⟩
  conv => lhs; rw [e2, e1]
  simp only [List.append_assoc]
theorem sealR_zero {st : EyeSt} (h : (sealR st).2.2 = 0) : st.2 = 0 ∧ st.1 = (sealR st).1.wtext ++ (sealR st).2.1 := hRead_zero h
theorem rowR_zero {α : Type} {f : EyeSt → α × EyeSt} {t : α → List UInt8} (hf : ∀ st, (f st).2.2 = 0 → st.2 = 0 ∧ st.1 = t (f st).1 ++ (f st).2.1) :
    ∀ (n : Nat) (st : EyeSt), (rowR f n st).2.2 = 0 → st.2 = 0 ∧ st.1 = flatT t (rowR f n st).1 ++ (rowR f n st).2.1
  | 0, st => fun h => ⟨h, by simp [rowR, flatT]⟩
  | n + 1, st => fun h => by
    obtain ⟨q1, e1⟩ := hf _ h
    obtain ⟨q2, e2⟩ := rowR_zero hf n st q1
    refine ⟨q2, ?_⟩
    conv => lhs; rw [e2, e1]
    simp [rowR, flatT]
theorem stepR_zero {st : EyeSt} (h : (stepR st).2.2 = 0) : st.2 = 0 ∧ st.1 = (stepR st).1.text ++ (stepR st).2.1 := by
  unfold stepR at h ⊢
  simp only at h ⊢
  obtain ⟨q1, e1⟩ := rowR_zero (fun _ h => sealR_zero h) _ _ h
  obtain ⟨q2, b2, e2⟩ := eyeNum_zero q1
  obtain ⟨q3, b3, e3⟩ := eyeNum_zero q2
  refine ⟨q3, ?_⟩
  unfold StepV.text
  simp only [rowR_len]
  conv => lhs; rw [e3, e2, e1]
  simp only [List.append_assoc]
theorem pathR_zero {st : EyeSt} (h : (pathR st).2.2 = 0) : st.2 = 0 ∧ st.1 = (pathR st).1.text ++ (pathR st).2.1 := by
  unfold pathR at h ⊢
  simp only at h ⊢
  rw [if_pos h]
  unfold pathRaw at h ⊢
  simp only at h ⊢
  obtain ⟨q1, e1⟩ := rowR_zero (fun _ h => stepR_zero h) _ _ h
  obtain ⟨q2, b2, e2⟩ := eyeNum_zero q1
  obtain ⟨q3, e3⟩ := eyeText_zero q2
  obtain ⟨q4, b4, e4⟩ := eyeNum_zero q3
  refine ⟨q4, ?_⟩
  unfold PathV.text txt
  simp only [rowR_len]
  conv => lhs; rw [e4, e3, e2, e1]
  simp only [List.append_assoc]
theorem propR_zero {st : EyeSt} (h : (propR st).2.2 = 0) : st.2 = 0 ∧ st.1 = (propR st).1.text ++ (propR st).2.1 := by
  unfold propR at h ⊢
  simp only at h ⊢
  split at h
  · rename_i hk
    rw [if_pos hk]
    simp only at h ⊢
    obtain ⟨q1, b1, e1⟩ := eyeNum_zero h
    obtain ⟨q2, b2, e2⟩ := eyeNum_zero q1
    obtain ⟨q3, e3⟩ := eyeText_zero q2
    obtain ⟨q4, b4, e4⟩ := eyeNum_zero q3
    refine ⟨q4, ?_⟩
    rw [hk] at e4
    simp only [PropV.text, PropV.body, if_true, txt]
    conv => lhs; rw [e4, e3, e2, e1]
    simp only [List.append_assoc]
    rfl
  · rename_i hk1
    rw [if_neg hk1]
    split at h
    · rename_i hk
      rw [if_pos hk]
      simp only at h ⊢
      obtain ⟨q1, b1, e1⟩ := eyeNum_zero h
      obtain ⟨q2, b2, e2⟩ := eyeNum_zero q1
      obtain ⟨q4, b4, e4⟩ := eyeNum_zero q2
      refine ⟨q4, ?_⟩
      rw [hk] at e4
      simp only [PropV.text, PropV.body, if_true, Int.toNat_natCast]
      rw [if_neg (by decide)]
      conv => lhs; rw [e4, e2, e1]
      simp only [List.append_assoc]
      rfl
    · rename_i hk2
      rw [if_neg hk2]
      split at h
      · rename_i hk
        rw [if_pos hk]
        simp only at h ⊢
        obtain ⟨q2, b2, e2⟩ := eyeNum_zero h
        obtain ⟨q4, b4, e4⟩ := eyeNum_zero q2
        refine ⟨q4, ?_⟩
        rw [hk] at e4
        simp only [PropV.text, PropV.body, Int.toNat_natCast]
        rw [if_neg (by decide), if_neg (by decide)]
        conv => lhs; rw [e4, e2]
        simp only [List.append_assoc]
        rfl
      · exact absurd h (eFail_ne (by decide) _)
theorem propsR_zero : ∀ (n : Nat) (st : EyeSt), (propsR n st).2.2 = 0 → st.2 = 0 ∧ (propsR n st).1.length = n ∧ st.1 = flatT PropV.text (propsR n st).1 ++ (propsR n st).2.1
  | 0, st => fun h => ⟨h, rfl, by simp [propsR, flatT]⟩
  | n + 1, st => fun h => by
    obtain ⟨q1, e1⟩ := propR_zero h
    obtain ⟨q2, l2, e2⟩ := propsR_zero n st q1
    simp only [propsR] at h ⊢
    rw [if_pos h]
    refine ⟨q2, by simp [l2], ?_⟩
    conv => lhs; rw [e2, e1]
    simp [flatT]
theorem capR_zero {most : Nat} {st : EyeSt} (h : (capR most st).2.2 = 0) : st.2 = 0 ∧ (capR most st).1 ≤ most ∧ st.1 = be 1 (capR most st).1 ++ (capR most st).2.1 := by
  unfold capR at h ⊢
  simp only at h ⊢
  split at h
  · exact absurd h (eFail_ne (by decide) _)
  · rename_i hm
    rw [if_neg hm]
    obtain ⟨q1, b1, e1⟩ := eyeNum_zero h
    exact ⟨q1, by omega, e1⟩
theorem headR_zero {b : List UInt8} (h : (headR b).2 = 0) : b = be 1 1 ++ (headR b).1 := by
  unfold headR at h ⊢
  split at h
  · rename_i hk
    rw [if_pos hk]
    obtain ⟨q1, b1, e1⟩ := eyeNum_zero h
    rw [hk] at e1
    exact e1
  · exact absurd h (eFail_ne (by decide) _)
theorem mRaw_back (b : List UInt8) (h : eyeEnd (mRaw b).2 = 0) (hr : (mRaw b).1.right) : (mRaw b).1.text = b := by
  obtain ⟨q1, q2⟩ := eyeEnd_zero h
  clear h
  obtain ⟨r1, r2, r3, r4, r5, r6, r7, r8⟩ := hr
  unfold mRaw at *
  simp only at *
  obtain ⟨q3, e9⟩ := eyeText_zero q1
  obtain ⟨q4, e8⟩ := eyeText_zero q3
  generalize eyeText 1 32 (eyeText 1 32 (pathIf (capR 1 _).1 (capR 1 _).2).2).2 = mb at *
  generalize eyeText 1 32 (pathIf (capR 1 _).1 (capR 1 _).2).2 = cf at *
  have hpi : ∀ (k : Nat) (st : EyeSt), k ≤ 1 → (pathIf k st).2.2 = 0 → st.2 = 0 ∧ st.1 = (if decide (k = 1) then (pathIf k st).1.text else []) ++ (pathIf k st).2.1 := by
    intro k st _ h
    unfold pathIf at h ⊢
    by_cases hk : k = 1
    · rw [if_pos hk] at h ⊢
      rw [if_pos (by simp [hk])]
      exact pathR_zero h
    · rw [if_neg hk] at h ⊢
      rw [if_neg (by simp [hk])]
      exact ⟨h, rfl⟩
  have hcap : ∀ (st : EyeSt), st.2 = 0 → True := fun _ _ => trivial
  clear hcap
  generalize hh : capR 1 _ = H at *
  have q5 : H.2.2 = 0 := by
    unfold pathIf at q4
    split at q4
    · exact (pathR_zero q4).1
    · exact q4
  rw [← hh] at q5
  obtain ⟨q6, c6, e6⟩ := capR_zero q5
  rw [hh] at c6 e6 q5
  obtain ⟨_, e7⟩ := hpi H.1 H.2 c6 q4
  generalize pathIf H.1 H.2 = pa at *
  obtain ⟨q7, l7, e5⟩ := propsR_zero _ _ q6
  rw [e6] at e5
  clear hh
  generalize propsR _ _ = ps at *
  obtain ⟨q8, c8, e4⟩ := capR_zero q7
  generalize hn : capR 16 _ = n at *
  obtain ⟨q9, b9, e3⟩ := eyeNum_zero q8
  obtain ⟨q10, b10, e2⟩ := eyeNum_zero q9
  obtain ⟨q11, e1⟩ := eyeText_zero q10
  have e0 := headR_zero q11
  unfold CommitV.text CommitV.content CommitV.tail txt
  simp only [Int.toNat_natCast]
  rw [i64_pos (by have := b10; omega) r3.1]
  conv => rhs; rw [e0, e1, e2, e3, e4, e5, e7, e8, e9, q2]
  have hbe : be 1 H.1 = if decide (H.1 = 1) then be 1 1 else be 1 0 := by
    by_cases hk : H.1 = 1
    · rw [hk]; rfl
    · obtain hk0 : H.1 = 0 := by omega
      rw [hk0]; rfl
  rw [hbe, l7]
  by_cases hk : H.1 = 1
  · simp [hk]
  · simp [hk]
theorem mRead_back (b : List UInt8) (h : (mRead b).2 = 0) : (mRead b).1.right ∧ (mRead b).1.text = b := by
  unfold mRead at h ⊢
  split at h
  · rename_i h1
    split at h
    · rename_i h2
      rw [if_pos h1, if_pos h2]
      exact ⟨h2, mRaw_back b h1 h2⟩
    · simp at h
  · rename_i h1
    exact absurd h h1

/-! what was written is read back -/
end Go.Proofs.Ytcnilmidfhpckaa


