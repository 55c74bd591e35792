/- Contracts of the program's functions, each walked once; the conditions stand in each theorem. -/
import Derived.Test.YtcnilmidfhpckaaAMp6
import Derived.Test.YtcnilmidfhpckaaW5
set_option linter.unusedSimpArgs false
set_option linter.unusedVariables false
open Nat renaming reduceLT → nLT, reduceLeDiff → nLE, reduceEqDiff → nEQ, reduceAdd → nAdd, reduceMul → nMul, reducePow → nPow, reduceSub → nSub
open Int renaming reduceLT → zLT, reduceLE → zLE, reduceToNat → zNat
open Go.AM renaming ashift → qSh, aconv → qCv, aindexAddr → qIA, aindex → qIx, aslice → qSl, abuiltin → qBu
open Go.AM.AV renaming cells → qCe, one → qOn
set_option autoImplicit false
namespace Go.Proofs.Ytcnilmidfhpckaa
open Go Go.AM Go.Proofs

theorem RMsg1221 : type_of% (And.intro (And.intro (And.intro (And.intro (And.intro (And.intro (And.intro @Try.underlying3 T.c3) (And.intro T.g3 (And.intro T.b3 T.z3))) (And.intro (And.intro @Try.underlying4 (And.intro T.c4 T.g4)) (And.intro T.b4 (And.intro T.z4 @Try.underlying5)))) (And.intro (And.intro (And.intro T.c5 (And.intro T.g5 T.b5)) (And.intro T.z5 (And.intro @Try.underlying28 T.c28))) (And.intro (And.intro T.g28 (And.intro T.b28 T.z28)) (And.intro T.s28 (And.intro @Try.underlying41 T.c41))))) (And.intro (And.intro (And.intro (And.intro T.g41 T.b41) (And.intro T.z41 (And.intro T.s41 @Try.underlying42))) (And.intro (And.intro T.c42 (And.intro T.g42 T.b42)) (And.intro T.z42 (And.intro @Try.underlying43 T.c43)))) (And.intro (And.intro (And.intro T.g43 (And.intro T.b43 T.z43)) (And.intro T.s43 (And.intro @Try.underlying45 T.c45))) (And.intro (And.intro T.g45 (And.intro T.b45 T.z45)) (And.intro T.h45 (And.intro @Try.underlying47 T.c47)))))) (And.intro (And.intro (And.intro (And.intro (And.intro T.g47 T.b47) (And.intro T.z47 (And.intro T.h47 @Try.underlying80))) (And.intro (And.intro T.c80 (And.intro T.g80 T.b80)) (And.intro T.z80 (And.intro T.h80 @Try.underlying81)))) (And.intro (And.intro (And.intro T.c81 (And.intro T.g81 T.b81)) (And.intro T.z81 (And.intro T.s81 @Try.underlying83))) (And.intro (And.intro T.c83 (And.intro T.g83 T.b83)) (And.intro T.z83 (And.intro T.h83 @Try.underlying85))))) (And.intro (And.intro (And.intro (And.intro T.c85 T.g85) (And.intro T.b85 (And.intro T.z85 T.h85))) (And.intro (And.intro T.f45_0 (And.intro T.f45_1 T.f45_2)) (And.intro T.f47_0 (And.intro T.f47_1 T.f47_2)))) (And.intro (And.intro (And.intro T.f47_3 (And.intro T.f47_4 T.f47_5)) (And.intro T.f47_6 (And.intro T.f47_7 T.f83_0))) (And.intro (And.intro T.f83_1 (And.intro T.f85_0 T.f85_1)) (And.intro T.k52 (And.intro T.k53 T.k54))))))) Try.ntmps21) :=
  (And.intro (And.intro (And.intro (And.intro (And.intro (And.intro (And.intro @Try.underlying3 T.c3) (And.intro T.g3 (And.intro T.b3 T.z3))) (And.intro (And.intro @Try.underlying4 (And.intro T.c4 T.g4)) (And.intro T.b4 (And.intro T.z4 @Try.underlying5)))) (And.intro (And.intro (And.intro T.c5 (And.intro T.g5 T.b5)) (And.intro T.z5 (And.intro @Try.underlying28 T.c28))) (And.intro (And.intro T.g28 (And.intro T.b28 T.z28)) (And.intro T.s28 (And.intro @Try.underlying41 T.c41))))) (And.intro (And.intro (And.intro (And.intro T.g41 T.b41) (And.intro T.z41 (And.intro T.s41 @Try.underlying42))) (And.intro (And.intro T.c42 (And.intro T.g42 T.b42)) (And.intro T.z42 (And.intro @Try.underlying43 T.c43)))) (And.intro (And.intro (And.intro T.g43 (And.intro T.b43 T.z43)) (And.intro T.s43 (And.intro @Try.underlying45 T.c45))) (And.intro (And.intro T.g45 (And.intro T.b45 T.z45)) (And.intro T.h45 (And.intro @Try.underlying47 T.c47)))))) (And.intro (And.intro (And.intro (And.intro (And.intro T.g47 T.b47) (And.intro T.z47 (And.intro T.h47 @Try.underlying80))) (And.intro (And.intro T.c80 (And.intro T.g80 T.b80)) (And.intro T.z80 (And.intro T.h80 @Try.underlying81)))) (And.intro (And.intro (And.intro T.c81 (And.intro T.g81 T.b81)) (And.intro T.z81 (And.intro T.s81 @Try.underlying83))) (And.intro (And.intro T.c83 (And.intro T.g83 T.b83)) (And.intro T.z83 (And.intro T.h83 @Try.underlying85))))) (And.intro (And.intro (And.intro (And.intro T.c85 T.g85) (And.intro T.b85 (And.intro T.z85 T.h85))) (And.intro (And.intro T.f45_0 (And.intro T.f45_1 T.f45_2)) (And.intro T.f47_0 (And.intro T.f47_1 T.f47_2)))) (And.intro (And.intro (And.intro T.f47_3 (And.intro T.f47_4 T.f47_5)) (And.intro T.f47_6 (And.intro T.f47_7 T.f83_0))) (And.intro (And.intro T.f83_1 (And.intro T.f85_0 T.f85_1)) (And.intro T.k52 (And.intro T.k53 T.k54))))))) Try.ntmps21)

variable {Γ : Nat → List AV}

theorem n32 {n : Nat} (h : n = 32) : ((n : Int) != 32) = false := by subst h; rfl
theorem n32T {n : Nat} (h : n ≠ 32) : ((n : Int) != 32) = true := by simp only [bne_iff_ne, ne_eq]; omega
def nopath : PathV := ⟨0, [], []⟩
theorem nopath_iff (p : PathV) : p.none ↔ p = nopath := by
  obtain ⟨a, b, c⟩ := p
  unfold PathV.none nopath
  simp only [PathV.mk.injEq, List.length_eq_zero_iff]

set_option maxHeartbeats 8000000 in
set_option maxRecDepth 100000 in
theorem refMRight_calls (c : CommitV) (hw : c.wf) (s : AS) : ACalls Try.prog Γ 21 [.agg c.cells] s (fun r s' => r = .v (.bool (decide c.right)) ∧ s' = s) := by
  refine acalls_body Try.func21 rfl Try.ntmps21 Try.results21 (by simp) ?_
  obtain ⟨w1, w2, w3⟩ := hw
  have hsm := fun s => same21_calls (Γ := Γ) c.path nopath w2 s
  obtain ⟨g, e, sd, ps, hp, pa, cf, mb⟩ := c
  simp only at w1 w2 w3 hsm
  have hcr : decide (CommitV.right ⟨g, e, sd, ps, hp, pa, cf, mb⟩) = decide (((1 ≤ g.length ∧ g.length ≤ 16) ∧ (0 ≤ e ∧ e ≤ 1048576) ∧ (0 ≤ sd ∧ sd < 32) ∧ ps.length ≤ 16 ∧ cf.length = 32 ∧ mb.length = 32) ∧ (∀ x ∈ ps, x.right) ∧ ((hp = true → pa.right) ∧ (hp = false → pa = nopath))) := by
    refine decide_eq_decide.2 ?_
    unfold CommitV.right CommitV.pathed
    simp only [nopath_iff]
    constructor
    · rintro ⟨a1, a2, a3, a4, a5, a6, a7, a8⟩; exact ⟨⟨a2, a3, a4, a5, a7, a8⟩, a1, a6⟩
    · rintro ⟨⟨a2, a3, a4, a5, a7, a8⟩, a1, a6⟩; exact ⟨a1, a2, a3, a4, a5, a6, a7, a8⟩
  rw [hcr]
  clear hcr
  obtain ⟨w4, w5, w6⟩ := w2
  unfold maxLen at w3 w6
  obtain ⟨pk, pp, pst⟩ := pa
  simp only at w4 w5 w6
  unfold CommitV.cells
  unfold PathV.cells nopath at hsm
  simp only at hsm ⊢
  have hrow := fun i (h : i < ps.length) => row_at (c := PropV.cells) (k := 5) (fun _ => rfl) h
  have hrowS := fun i (h : i < pst.length) => row_at (c := StepV.cells) (k := 2) (fun _ => rfl) h
  generalize rowC StepV.cells pst = X at *
  generalize rowC PropV.cells ps = Z at *
  refine awp_reg_frz 1 (by simp [dsts]) ?_
  intro K hK
  simp only [↓AXq_nil, ↓AXq_cons, pval, DX, Nat.reduceBEq, ↓DN, UP, DF, qSh, qCv, qIA, qIx, qSl, qBu, qCe, qOn, reduceCtorEq, ↓reduceIte, nLT, nLE, nEQ, nAdd, nMul, nPow, nSub, zLT, zLE, zNat, RMsg1221]
  intro o ho
  refine hK _ _ o _ (by simp only [upd, nEQ, ↓reduceIte]) ho ?_
  clear hK K ho
  refine awp_seq_k ?_
  intro K hK
  by_cases hA : (1 ≤ g.length ∧ g.length ≤ 16) ∧ (0 ≤ e ∧ e ≤ 1048576) ∧ (0 ≤ sd ∧ sd < 32) ∧ ps.length ≤ 16 ∧ cf.length = 32 ∧ mb.length = 32
  · have hd : ∀ (A B : Prop) [Decidable A] [Decidable B], A → decide (A ∧ B) = decide B := fun A B _ _ h => decide_eq_decide.2 ⟨fun q => q.2, fun q => ⟨h, q⟩⟩
    rw [hd _ _ hA] at hK ⊢
    clear hd
    obtain ⟨⟨a1, a2⟩, ⟨a3, a4⟩, ⟨a5, a6⟩, a7, a8, a9⟩ := hA
    refine awp_reg_seq ?_
    intro K hK
    simp only [↓DN, UP, DF, qSh, qCv, qIA, qIx, qSl, qBu, qCe, qOn, reduceCtorEq, ↓reduceIte, nLT, nLE, nEQ, nAdd, nMul, nPow, nSub, zLT, zLE, zNat, RMsg1221, decide_eq_false (show ¬ (g.length : Int) < 1 by omega), decide_eq_false (show ¬ (16 : Int) < (g.length : Int) by omega), decide_eq_false (show ¬ e < 0 by omega), decide_eq_false (show ¬ (1048576 : Int) < e by omega), decide_eq_false (show ¬ sd < 0 by omega), decide_eq_false (show ¬ (31 : Int) < sd by omega), decide_eq_false (show ¬ (16 : Int) < (ps.length : Int) by omega), n32 a8, n32 a9]
    refine hK _ _ ?_
    clear hK K
    refine awp_cond_k ?_
    intro X Y hX hY
    simp only [↓DN, UP, DF, qSh, qCv, qIA, qIx, qSl, qBu, qCe, qOn, reduceCtorEq, ↓reduceIte, nLT, nLE, nEQ, nAdd, nMul, nPow, nSub, zLT, zLE, zNat, RMsg1221, DB]
    refine hY ?_
    clear hX hY X Y
    refine awp_skip ?_
    refine hK _ _ ?_
    clear hK K
    refine awp_seq_k ?_
    intro K hK
    refine awp_reg_seq ?_
    intro K hK
    simp only [↓DN, UP, DF, qSh, qCv, qIA, qIx, qSl, qBu, qCe, qOn, reduceCtorEq, ↓reduceIte, nLT, nLE, nEQ, nAdd, nMul, nPow, nSub, zLT, zLE, zNat, RMsg1221]
    refine hK _ _ ?_
    clear hK K
    refine awp_block ?_
    refine awp_loop (fun E s1 => ∃ i : Nat, i ≤ ps.length ∧ E 3 = .v (.int .i64 i) ∧ E 1 = .rop [.sl 1 g.length (g.map byteV) .any, .v (.int .i64 e), .v (.int .i64 sd), .sl 5 ps.length Z .any, .v (.bool hp), .v (.int .u64 pk), .sl 1 pp.length (pp.map byteV) .any, .sl 2 pst.length X .any, .sl 1 cf.length (cf.map byteV) .any, .sl 1 mb.length (mb.map byteV) .any] ∧ (∀ p ∈ ps.take i, p.right) ∧ s1 = s)
      (fun E _ => match E 3 with | .v (.int _ i) => ps.length - i.toNat | _ => 0) ?_ ?_
    · exact ⟨0, Nat.zero_le _, by simp only [upd, ↓reduceIte]; rfl, by simp only [upd, nEQ, ↓reduceIte], by simp, rfl⟩
    · rintro E1 s1 ⟨i, hi, g8, g1, hall, rfl⟩ -
      refine awp_seq_k ?_
      intro K2 hK2
      by_cases hi' : i < ps.length
      · refine awp_reg_seq ?_
        intro K hK
        simp only [↓DN, UP, DF, qSh, qCv, qIA, qIx, qSl, qBu, qCe, qOn, reduceCtorEq, ↓reduceIte, nLT, nLE, nEQ, nAdd, nMul, nPow, nSub, zLT, zLE, zNat, RMsg1221, g8, g1, eye_lt_nat, decide_eq_true hi']
        refine hK _ _ ?_
        clear hK K
        refine awp_cond_k ?_
        intro X Y hX hY
        simp only [↓DN, UP, DF, qSh, qCv, qIA, qIx, qSl, qBu, qCe, qOn, reduceCtorEq, ↓reduceIte, nLT, nLE, nEQ, nAdd, nMul, nPow, nSub, zLT, zLE, zNat, RMsg1221, DB]
        refine hX ?_
        clear hX hY X Y
        refine awp_skip ?_
        refine hK2 _ _ ?_
        clear hK2 K2
        refine awp_seq_k ?_
        intro K3 hK3
        refine awp_block ?_
        have hat := hrow i hi'
        have hge : (0 : Int) ≤ (i : Int) := by omega
        obtain ⟨y, hy⟩ : ∃ y, y = ps[i] := ⟨_, rfl⟩
        rw [← hy] at hat
        have hym : y ∈ ps := by rw [hy]; exact List.getElem_mem hi'
        have htk : y.right → ∀ x ∈ ps.take (i + 1), x.right := fun h => take_all hi' hall (by rw [← hy]; exact h)
        have hst := fun s => refProper_calls (Γ := Γ) y s
        clear hy
        obtain ⟨pk1, pk2, pk3, pk4, pk5⟩ := y
        unfold PropV.cells at hat hst
        refine awp_reg_seq ?_
        intro K hK
        simp only [↓DN, UP, DF, qSh, qCv, qIA, qIx, qSl, qBu, qCe, qOn, reduceCtorEq, ↓reduceIte, nLT, nLE, nEQ, nAdd, nMul, nPow, nSub, zLT, zLE, zNat, RMsg1221, g8, g1, eye_lt_nat, hi', hge, hat]
        refine acallk (hst _) ?_
        rintro r s2 ⟨rfl, rfl⟩
        by_cases h1 : PropV.right ⟨pk1, pk2, pk3, pk4, pk5⟩
        · simp only [↓AXq_nil, ↓AXq_cons, pval, DX, Nat.reduceBEq, ↓DN, UP, DF, qSh, qCv, qIA, qIx, qSl, qBu, qCe, qOn, reduceCtorEq, ↓reduceIte, nLT, nLE, nEQ, nAdd, nMul, nPow, nSub, zLT, zLE, zNat, RMsg1221, decide_eq_true h1]
          refine hK _ _ ?_
          clear hK K
          refine awp_cond_k ?_
          intro X Y hX hY
          simp only [↓DN, UP, DF, qSh, qCv, qIA, qIx, qSl, qBu, qCe, qOn, reduceCtorEq, ↓reduceIte, nLT, nLE, nEQ, nAdd, nMul, nPow, nSub, zLT, zLE, zNat, RMsg1221, DB]
          refine hY ?_
          clear hX hY X Y
          refine awp_skip ?_
          simp only [blockQ, thenQ, if_true, if_false]
          refine hK3 _ _ ?_
          clear hK3 K3
          refine awp_reg_end ?_
          intro K hK
          simp only [↓DN, UP, DF, qSh, qCv, qIA, qIx, qSl, qBu, qCe, qOn, reduceCtorEq, ↓reduceIte, nLT, nLE, nEQ, nAdd, nMul, nPow, nSub, zLT, zLE, zNat, RMsg1221, g8, eye_succM i (by omega)]
          refine hK _ _ ?_
          clear hK K
          refine ⟨⟨i + 1, by omega, by simp only [upd, ↓reduceIte], by simp only [upd, g1, nEQ, ↓reduceIte], htk h1, rfl⟩, ?_⟩
          simp only [g8, upd, ↓reduceIte]
          omega
        · simp only [↓AXq_nil, ↓AXq_cons, pval, DX, Nat.reduceBEq, ↓DN, UP, DF, qSh, qCv, qIA, qIx, qSl, qBu, qCe, qOn, reduceCtorEq, ↓reduceIte, nLT, nLE, nEQ, nAdd, nMul, nPow, nSub, zLT, zLE, zNat, RMsg1221, decide_eq_false h1]
          refine hK _ _ ?_
          clear hK K
          refine awp_cond_k ?_
          intro X Y hX hY
          simp only [↓DN, UP, DF, qSh, qCv, qIA, qIx, qSl, qBu, qCe, qOn, reduceCtorEq, ↓reduceIte, nLT, nLE, nEQ, nAdd, nMul, nPow, nSub, zLT, zLE, zNat, RMsg1221, DB]
          refine hX ?_
          clear hX hY X Y
          refine awp_reg_seq ?_
          intro K hK
          simp only [↓DN, UP, DF, qSh, qCv, qIA, qIx, qSl, qBu, qCe, qOn, reduceCtorEq, ↓reduceIte, nLT, nLE, nEQ, nAdd, nMul, nPow, nSub, zLT, zLE, zNat, RMsg1221]
          refine hK _ _ ?_
          clear hK K
          refine awp_ret ?_
          try simp only [thenQ, blockQ]
          simp only [retQ, AEnds, aresL, ares, List.toList_toArray, ↓upd_same]; try simp only [↓DN, UP, DF, qSh, qCv, qIA, qIx, qSl, qBu, qCe, qOn, reduceCtorEq, ↓reduceIte, nLT, nLE, nEQ, nAdd, nMul, nPow, nSub, zLT, zLE, zNat, RMsg1221, DT]
          exact ⟨_, _, AV.weak.refl _, AS.le.refl _, by rw [decide_eq_false fun q => h1 (q.1 _ hym)], rfl⟩
      · have hfull := take_full hi' hall
        have hd : ∀ (A B : Prop) [Decidable A] [Decidable B], A → decide (A ∧ B) = decide B := fun A B _ _ h => decide_eq_decide.2 ⟨fun q => q.2, fun q => ⟨h, q⟩⟩
        rw [hd _ _ hfull] at hK ⊢
        clear hd
        refine awp_reg_seq ?_
        intro K hK
        simp only [↓DN, UP, DF, qSh, qCv, qIA, qIx, qSl, qBu, qCe, qOn, reduceCtorEq, ↓reduceIte, nLT, nLE, nEQ, nAdd, nMul, nPow, nSub, zLT, zLE, zNat, RMsg1221, g8, g1, eye_lt_nat, decide_eq_false hi']
        refine hK _ _ ?_
        clear hK K
        refine awp_cond_k ?_
        intro X Y hX hY
        simp only [↓DN, UP, DF, qSh, qCv, qIA, qIx, qSl, qBu, qCe, qOn, reduceCtorEq, ↓reduceIte, nLT, nLE, nEQ, nAdd, nMul, nPow, nSub, zLT, zLE, zNat, RMsg1221, DB]
        refine hY ?_
        clear hX hY X Y
        refine awp_exit ?_
        simp only [thenQ, blockQ, if_true]
        refine hK _ _ ?_
        clear hK K hK2 K2 g8
        refine awp_seq_k ?_
        intro K hK
        cases hp with
        | false =>
          refine awp_reg_seq ?_
          intro K hK
          simp only [↓DN, UP, DF, qSh, qCv, qIA, qIx, qSl, qBu, qCe, qOn, reduceCtorEq, ↓reduceIte, nLT, nLE, nEQ, nAdd, nMul, nPow, nSub, zLT, zLE, zNat, RMsg1221, g1]
          refine hK _ _ ?_
          clear hK K
          refine awp_cond_k ?_
          intro X Y hX hY
          simp only [↓DN, UP, DF, qSh, qCv, qIA, qIx, qSl, qBu, qCe, qOn, reduceCtorEq, ↓reduceIte, nLT, nLE, nEQ, nAdd, nMul, nPow, nSub, zLT, zLE, zNat, RMsg1221, DB]
          refine hX ?_
          clear hX hY X Y
          refine awp_reg_seq ?_
          intro K hK
          simp only [↓DN, UP, DF, qSh, qCv, qIA, qIx, qSl, qBu, qCe, qOn, reduceCtorEq, ↓reduceIte, nLT, nLE, nEQ, nAdd, nMul, nPow, nSub, zLT, zLE, zNat, RMsg1221, g1]
          refine acallk (ACalls.weaks (.cons (AV.weak.refl _) (.cons (AV.weak_agg (.cons (AV.weak.refl _) (.cons AV.weak_nil (.cons AV.weak_nil .nil)))) .nil)) (hsm _)) ?_
          rintro r s2 ⟨rfl, rfl⟩
          simp only [↓AXq_nil, ↓AXq_cons, pval, DX, Nat.reduceBEq, ↓DN, UP, DF, qSh, qCv, qIA, qIx, qSl, qBu, qCe, qOn, reduceCtorEq, ↓reduceIte, nLT, nLE, nEQ, nAdd, nMul, nPow, nSub, zLT, zLE, zNat, RMsg1221]
          refine hK _ _ ?_
          clear hK K
          refine awp_ret ?_
          try simp only [thenQ, blockQ]
          simp only [retQ, AEnds, aresL, ares, List.toList_toArray, ↓upd_same]; try simp only [↓DN, UP, DF, qSh, qCv, qIA, qIx, qSl, qBu, qCe, qOn, reduceCtorEq, ↓reduceIte, nLT, nLE, nEQ, nAdd, nMul, nPow, nSub, zLT, zLE, zNat, RMsg1221, DT]
          refine ⟨_, _, AV.weak.refl _, AS.le.refl _, ?_, rfl⟩
          congr 2
          exact decide_eq_decide.2 ⟨fun h _ => h, fun h => h trivial⟩
        | true =>
          have hpr : decide ((true = true → PathV.right ⟨pk, pp, pst⟩) ∧ (true = false → (⟨pk, pp, pst⟩ : PathV) = nopath)) = decide (((Pub pk ∧ (pp.length = 0 ∨ pp.length = 32) ∧ pst.length ≤ 5)) ∧ ∀ x ∈ pst, x.right) := by
            refine decide_eq_decide.2 ⟨fun h => ?_, fun h => ⟨fun _ => ?_, fun q => by cases q⟩⟩
            · obtain ⟨b1, b2, b3, b4⟩ := h.1 rfl
              exact ⟨⟨b2, b3, b4⟩, b1⟩
            · obtain ⟨⟨b2, b3, b4⟩, b1⟩ := h
              exact ⟨b1, b2, b3, b4⟩
          rw [hpr] at hK ⊢
          clear hpr
          refine awp_reg_seq ?_
          intro K hK
          simp only [↓DN, UP, DF, qSh, qCv, qIA, qIx, qSl, qBu, qCe, qOn, reduceCtorEq, ↓reduceIte, nLT, nLE, nEQ, nAdd, nMul, nPow, nSub, zLT, zLE, zNat, RMsg1221, g1]
          refine hK _ _ ?_
          clear hK K
          refine awp_cond_k ?_
          intro X Y hX hY
          simp only [↓DN, UP, DF, qSh, qCv, qIA, qIx, qSl, qBu, qCe, qOn, reduceCtorEq, ↓reduceIte, nLT, nLE, nEQ, nAdd, nMul, nPow, nSub, zLT, zLE, zNat, RMsg1221, DB]
          refine hY ?_
          clear hX hY X Y
          refine awp_skip ?_
          refine hK _ _ ?_
          clear hK K
          refine awp_seq_k ?_
          intro K hK
          by_cases hB : Pub pk ∧ (pp.length = 0 ∨ pp.length = 32) ∧ pst.length ≤ 5
          · have hd : ∀ (A B : Prop) [Decidable A] [Decidable B], A → decide (A ∧ B) = decide B := fun A B _ _ h => decide_eq_decide.2 ⟨fun q => q.2, fun q => ⟨h, q⟩⟩
            rw [hd _ _ hB] at hK ⊢
            clear hd
            obtain ⟨b1, b2, b3⟩ := hB
            have b2' : (((pp.length : Int) != 0) = false) ∨ (((pp.length : Int) != 0) = true ∧ ((pp.length : Int) != 32) = false) := by
              by_cases q : pp.length = 0
              · exact Or.inl (eq0N q)
              · exact Or.inr ⟨ne0N q, n32 (by omega)⟩
            have hgo : ∀ (E : Env), E 1 = .rop [.sl 1 g.length (g.map byteV) .any, .v (.int .i64 e), .v (.int .i64 sd), .sl 5 ps.length Z .any, .v (.bool true), .v (.int .u64 pk), .sl 1 pp.length (pp.map byteV) .any, .sl 2 pst.length X .any, .sl 1 cf.length (cf.map byteV) .any, .sl 1 mb.length (mb.map byteV) .any] → K E s1 := by
              clear g1 E1
              intro E g1
              refine hK _ _ ?_
              clear hK K
              refine awp_seq_k ?_
              intro K hK
              refine awp_reg_seq ?_
              intro K hK
              simp only [↓DN, UP, DF, qSh, qCv, qIA, qIx, qSl, qBu, qCe, qOn, reduceCtorEq, ↓reduceIte, nLT, nLE, nEQ, nAdd, nMul, nPow, nSub, zLT, zLE, zNat, RMsg1221]
              refine hK _ _ ?_
              clear hK K
              refine awp_block ?_
              refine awp_loop (fun E s9 => ∃ i : Nat, i ≤ pst.length ∧ E 4 = .v (.int .i64 i) ∧ E 1 = .rop [.sl 1 g.length (g.map byteV) .any, .v (.int .i64 e), .v (.int .i64 sd), .sl 5 ps.length Z .any, .v (.bool true), .v (.int .u64 pk), .sl 1 pp.length (pp.map byteV) .any, .sl 2 pst.length X .any, .sl 1 cf.length (cf.map byteV) .any, .sl 1 mb.length (mb.map byteV) .any] ∧ (∀ p ∈ pst.take i, p.right) ∧ s9 = s1)
                (fun E _ => match E 4 with | .v (.int _ i) => pst.length - i.toNat | _ => 0) ?_ ?_
              · exact ⟨0, Nat.zero_le _, by simp only [upd, ↓reduceIte]; rfl, by simp only [upd, g1, nEQ, ↓reduceIte], by simp, rfl⟩
              · clear g1
                rintro E1 s9 ⟨i, hi, g4, g1, hall, rfl⟩ -
                refine awp_seq_k ?_
                intro K2 hK2
                by_cases hi' : i < pst.length
                · refine awp_reg_seq ?_
                  intro K hK
                  simp only [↓DN, UP, DF, qSh, qCv, qIA, qIx, qSl, qBu, qCe, qOn, reduceCtorEq, ↓reduceIte, nLT, nLE, nEQ, nAdd, nMul, nPow, nSub, zLT, zLE, zNat, RMsg1221, g4, g1, eye_lt_nat, decide_eq_true hi']
                  refine hK _ _ ?_
                  clear hK K
                  refine awp_cond_k ?_
                  intro X Y hX hY
                  simp only [↓DN, UP, DF, qSh, qCv, qIA, qIx, qSl, qBu, qCe, qOn, reduceCtorEq, ↓reduceIte, nLT, nLE, nEQ, nAdd, nMul, nPow, nSub, zLT, zLE, zNat, RMsg1221, DB]
                  refine hX ?_
                  clear hX hY X Y
                  refine awp_skip ?_
                  refine hK2 _ _ ?_
                  clear hK2 K2
                  refine awp_seq_k ?_
                  intro K3 hK3
                  refine awp_block ?_
                  have hat := hrowS i hi'
                  have hge : (0 : Int) ≤ (i : Int) := by omega
                  obtain ⟨y, hy⟩ : ∃ y, y = pst[i] := ⟨_, rfl⟩
                  rw [← hy] at hat
                  have hym : y ∈ pst := by rw [hy]; exact List.getElem_mem hi'
                  have htk : y.right → ∀ x ∈ pst.take (i + 1), x.right := fun h => take_all hi' hall (by rw [← hy]; exact h)
                  have hyw := w5 y hym
                  clear hy
                  have hbad : ¬ y.right → decide (∀ x ∈ pst, x.right) = false := fun h => decide_eq_false fun hr => h (hr y hym)
                  obtain ⟨f, t⟩ := y
                  obtain ⟨_, _, hyl⟩ := hyw
                  simp only at hyl
                  unfold maxLen at hyl
                  unfold StepV.cells at hat
                  have hrw := fun i (h : i < t.length) => row_at (c := SealV.cells) (k := 2) (fun _ => rfl) h
                  generalize rowC SealV.cells t = T at *
                  refine awp_reg_frz 5 (by simp [dsts]) ?_
                  intro K2 hK2
                  simp only [↓AXq_nil, ↓AXq_cons, pval, DX, Nat.reduceBEq, ↓DN, UP, DF, qSh, qCv, qIA, qIx, qSl, qBu, qCe, qOn, reduceCtorEq, ↓reduceIte, nLT, nLE, nEQ, nAdd, nMul, nPow, nSub, zLT, zLE, zNat, RMsg1221, g4, g1, eye_lt_nat, hi', hge, hat]
                  intro o ho
                  refine hK2 _ _ o _ (by simp only [upd, nEQ, ↓reduceIte]) ho ?_
                  clear hK2 K2 ho
                  refine awp_seq_k ?_
                  intro K2 hK2
                  refine awp_reg_seq ?_
                  intro K hK
                  simp only [↓DN, UP, DF, qSh, qCv, qIA, qIx, qSl, qBu, qCe, qOn, reduceCtorEq, ↓reduceIte, nLT, nLE, nEQ, nAdd, nMul, nPow, nSub, zLT, zLE, zNat, RMsg1221]
                  refine acallk (refRightP_calls f _) ?_
                  rintro r s3 ⟨rfl, rfl⟩
                  by_cases c1 : Pub f
                  · by_cases c2 : t.length ≤ 32
                    · simp only [↓AXq_nil, ↓AXq_cons, pval, DX, Nat.reduceBEq, ↓DN, UP, DF, qSh, qCv, qIA, qIx, qSl, qBu, qCe, qOn, reduceCtorEq, ↓reduceIte, nLT, nLE, nEQ, nAdd, nMul, nPow, nSub, zLT, zLE, zNat, RMsg1221, decide_eq_true c1, decide_eq_false (show ¬ (32 : Int) < (t.length : Int) by omega)]
                      refine hK _ _ ?_
                      clear hK K
                      refine awp_cond_k ?_
                      intro X Y hX hY
                      simp only [↓DN, UP, DF, qSh, qCv, qIA, qIx, qSl, qBu, qCe, qOn, reduceCtorEq, ↓reduceIte, nLT, nLE, nEQ, nAdd, nMul, nPow, nSub, zLT, zLE, zNat, RMsg1221, DB]
                      refine hY ?_
                      clear hX hY X Y
                      refine awp_skip ?_
                      refine hK2 _ _ ?_
                      clear hK2 K2
                      refine awp_reg_seq ?_
                      intro K hK
                      simp only [↓DN, UP, DF, qSh, qCv, qIA, qIx, qSl, qBu, qCe, qOn, reduceCtorEq, ↓reduceIte, nLT, nLE, nEQ, nAdd, nMul, nPow, nSub, zLT, zLE, zNat, RMsg1221]
                      refine hK _ _ ?_
                      clear hK K
                      refine awp_block ?_
                      refine awp_loop (fun E s1 => ∃ k : Nat, k ≤ t.length ∧ E 6 = .v (.int .i64 k) ∧ E 5 = .rop [.v (.int .u64 f), .sl 2 t.length T .any] ∧ E 4 = .v (.int .i64 i) ∧ E 1 = .rop [.sl 1 g.length (g.map byteV) .any, .v (.int .i64 e), .v (.int .i64 sd), .sl 5 ps.length Z .any, .v (.bool true), .v (.int .u64 pk), .sl 1 pp.length (pp.map byteV) .any, .sl 2 pst.length X .any, .sl 1 cf.length (cf.map byteV) .any, .sl 1 mb.length (mb.map byteV) .any] ∧ (∀ p ∈ t.take k, p.right) ∧ s1 = s3)
                        (fun E _ => match E 6 with | .v (.int _ i) => t.length - i.toNat | _ => 0) ?_ ?_
                      · exact ⟨0, Nat.zero_le _, by simp only [upd, ↓reduceIte]; rfl, by simp only [upd, nEQ, ↓reduceIte], by simp only [upd, g4, nEQ, ↓reduceIte], by simp only [upd, g1, nEQ, ↓reduceIte], by simp, rfl⟩
                      · have G4 := g4
                        clear g4 g1 hall
                        rintro E2 s4 ⟨k, hk, g6, g5, g4, g1, hall, rfl⟩ -
                        refine awp_seq_k ?_
                        intro K2 hK2
                        by_cases hk' : k < t.length
                        · refine awp_reg_seq ?_
                          intro K hK
                          simp only [↓DN, UP, DF, qSh, qCv, qIA, qIx, qSl, qBu, qCe, qOn, reduceCtorEq, ↓reduceIte, nLT, nLE, nEQ, nAdd, nMul, nPow, nSub, zLT, zLE, zNat, RMsg1221, g6, g5, eye_lt_nat, decide_eq_true hk']
                          refine hK _ _ ?_
                          clear hK K
                          refine awp_cond_k ?_
                          intro X Y hX hY
                          simp only [↓DN, UP, DF, qSh, qCv, qIA, qIx, qSl, qBu, qCe, qOn, reduceCtorEq, ↓reduceIte, nLT, nLE, nEQ, nAdd, nMul, nPow, nSub, zLT, zLE, zNat, RMsg1221, DB]
                          refine hX ?_
                          clear hX hY X Y
                          refine awp_skip ?_
                          refine hK2 _ _ ?_
                          clear hK2 K2
                          refine awp_seq_k ?_
                          intro K4 hK4
                          refine awp_block ?_
                          have hat := hrw k hk'
                          have hge : (0 : Int) ≤ (k : Int) := by omega
                          obtain ⟨z, hz⟩ : ∃ z, z = t[k] := ⟨_, rfl⟩
                          rw [← hz] at hat
                          have hzm : z ∈ t := by rw [hz]; exact List.getElem_mem hk'
                          have htk2 : z.right → ∀ x ∈ t.take (k + 1), x.right := fun h => take_all hk' hall (by rw [← hz]; exact h)
                          clear hz
                          obtain ⟨u, v⟩ := z
                          unfold SealV.cells at hat
                          refine awp_reg_seq ?_
                          intro K hK
                          simp only [↓DN, UP, DF, qSh, qCv, qIA, qIx, qSl, qBu, qCe, qOn, reduceCtorEq, ↓reduceIte, nLT, nLE, nEQ, nAdd, nMul, nPow, nSub, zLT, zLE, zNat, RMsg1221, g6, g5, eye_lt_nat, hk', hge, hat]
                          refine acallk (refRightP_calls u _) ?_
                          rintro r s5 ⟨rfl, rfl⟩
                          by_cases d1 : Pub u
                          · by_cases d2 : v.length = 48
                            · simp only [↓AXq_nil, ↓AXq_cons, pval, DX, Nat.reduceBEq, ↓DN, UP, DF, qSh, qCv, qIA, qIx, qSl, qBu, qCe, qOn, reduceCtorEq, ↓reduceIte, nLT, nLE, nEQ, nAdd, nMul, nPow, nSub, zLT, zLE, zNat, RMsg1221, g6, g5, eye_lt_nat, hk', hge, hat, decide_eq_true d1, n48 d2]
                              refine hK _ _ ?_
                              clear hK K
                              refine awp_cond_k ?_
                              intro X Y hX hY
                              simp only [↓DN, UP, DF, qSh, qCv, qIA, qIx, qSl, qBu, qCe, qOn, reduceCtorEq, ↓reduceIte, nLT, nLE, nEQ, nAdd, nMul, nPow, nSub, zLT, zLE, zNat, RMsg1221, DB]
                              refine hY ?_
                              clear hX hY X Y
                              refine awp_skip ?_
                              simp only [blockQ, thenQ, if_true, if_false]
                              refine hK4 _ _ ?_
                              clear hK4 K4
                              refine awp_reg_end ?_
                              intro K hK
                              simp only [↓DN, UP, DF, qSh, qCv, qIA, qIx, qSl, qBu, qCe, qOn, reduceCtorEq, ↓reduceIte, nLT, nLE, nEQ, nAdd, nMul, nPow, nSub, zLT, zLE, zNat, RMsg1221, g6, eye_succM k (by omega)]
                              refine hK _ _ ?_
                              clear hK K
                              refine ⟨⟨k + 1, by omega, by simp only [upd, ↓reduceIte], by simp only [upd, g5, nEQ, ↓reduceIte], by simp only [upd, g4, nEQ, ↓reduceIte], by simp only [upd, g1, nEQ, ↓reduceIte], htk2 ⟨d1, d2⟩, rfl⟩, ?_⟩
                              simp only [g6, upd, ↓reduceIte]
                              omega
                            · simp only [↓AXq_nil, ↓AXq_cons, pval, DX, Nat.reduceBEq, ↓DN, UP, DF, qSh, qCv, qIA, qIx, qSl, qBu, qCe, qOn, reduceCtorEq, ↓reduceIte, nLT, nLE, nEQ, nAdd, nMul, nPow, nSub, zLT, zLE, zNat, RMsg1221, g6, g5, eye_lt_nat, hk', hge, hat, decide_eq_true d1, n48T d2]
                              refine hK _ _ ?_
                              clear hK K
                              refine awp_cond_k ?_
                              intro X Y hX hY
                              simp only [↓DN, UP, DF, qSh, qCv, qIA, qIx, qSl, qBu, qCe, qOn, reduceCtorEq, ↓reduceIte, nLT, nLE, nEQ, nAdd, nMul, nPow, nSub, zLT, zLE, zNat, RMsg1221, DB]
                              refine hX ?_
                              clear hX hY X Y
                              refine awp_reg_seq ?_
                              intro K hK
                              simp only [↓DN, UP, DF, qSh, qCv, qIA, qIx, qSl, qBu, qCe, qOn, reduceCtorEq, ↓reduceIte, nLT, nLE, nEQ, nAdd, nMul, nPow, nSub, zLT, zLE, zNat, RMsg1221]
                              refine hK _ _ ?_
                              clear hK K
                              refine awp_ret ?_
                              try simp only [thenQ, blockQ]
                              simp only [retQ, AEnds, aresL, ares, List.toList_toArray, ↓upd_same]; try simp only [↓DN, UP, DF, qSh, qCv, qIA, qIx, qSl, qBu, qCe, qOn, reduceCtorEq, ↓reduceIte, nLT, nLE, nEQ, nAdd, nMul, nPow, nSub, zLT, zLE, zNat, RMsg1221, DT]
                              exact ⟨_, _, AV.weak.refl _, AS.le.refl _, by rw [hbad fun q => d2 (q.1 _ hzm).2], rfl⟩
                          · simp only [↓AXq_nil, ↓AXq_cons, pval, DX, Nat.reduceBEq, ↓DN, UP, DF, qSh, qCv, qIA, qIx, qSl, qBu, qCe, qOn, reduceCtorEq, ↓reduceIte, nLT, nLE, nEQ, nAdd, nMul, nPow, nSub, zLT, zLE, zNat, RMsg1221, g6, g5, eye_lt_nat, hk', hge, hat, decide_eq_false d1]
                            refine hK _ _ ?_
                            clear hK K
                            refine awp_cond_k ?_
                            intro X Y hX hY
                            simp only [↓DN, UP, DF, qSh, qCv, qIA, qIx, qSl, qBu, qCe, qOn, reduceCtorEq, ↓reduceIte, nLT, nLE, nEQ, nAdd, nMul, nPow, nSub, zLT, zLE, zNat, RMsg1221, DB]
                            refine hX ?_
                            clear hX hY X Y
                            refine awp_reg_seq ?_
                            intro K hK
                            simp only [↓DN, UP, DF, qSh, qCv, qIA, qIx, qSl, qBu, qCe, qOn, reduceCtorEq, ↓reduceIte, nLT, nLE, nEQ, nAdd, nMul, nPow, nSub, zLT, zLE, zNat, RMsg1221]
                            refine hK _ _ ?_
                            clear hK K
                            refine awp_ret ?_
                            try simp only [thenQ, blockQ]
                            simp only [retQ, AEnds, aresL, ares, List.toList_toArray, ↓upd_same]; try simp only [↓DN, UP, DF, qSh, qCv, qIA, qIx, qSl, qBu, qCe, qOn, reduceCtorEq, ↓reduceIte, nLT, nLE, nEQ, nAdd, nMul, nPow, nSub, zLT, zLE, zNat, RMsg1221, DT]
                            exact ⟨_, _, AV.weak.refl _, AS.le.refl _, by rw [hbad fun q => d1 (q.1 _ hzm).1], rfl⟩
                        · refine awp_reg_seq ?_
                          intro K hK
                          simp only [↓DN, UP, DF, qSh, qCv, qIA, qIx, qSl, qBu, qCe, qOn, reduceCtorEq, ↓reduceIte, nLT, nLE, nEQ, nAdd, nMul, nPow, nSub, zLT, zLE, zNat, RMsg1221, g6, g5, eye_lt_nat, decide_eq_false hk']
                          refine hK _ _ ?_
                          clear hK K
                          refine awp_cond_k ?_
                          intro X Y hX hY
                          simp only [↓DN, UP, DF, qSh, qCv, qIA, qIx, qSl, qBu, qCe, qOn, reduceCtorEq, ↓reduceIte, nLT, nLE, nEQ, nAdd, nMul, nPow, nSub, zLT, zLE, zNat, RMsg1221, DB]
                          refine hY ?_
                          clear hX hY X Y
                          refine awp_exit ?_
                          simp only [thenQ, blockQ, if_true, if_false]
                          refine hK3 _ _ ?_
                          clear hK3 hK2 K2 K3
                          refine awp_reg_end ?_
                          intro K hK
                          simp only [↓DN, UP, DF, qSh, qCv, qIA, qIx, qSl, qBu, qCe, qOn, reduceCtorEq, ↓reduceIte, nLT, nLE, nEQ, nAdd, nMul, nPow, nSub, zLT, zLE, zNat, RMsg1221, g4, eye_succM i (by omega)]
                          refine hK _ _ ?_
                          clear hK K
                          refine ⟨⟨i + 1, by omega, by simp only [upd, ↓reduceIte], by simp only [upd, g1, nEQ, ↓reduceIte], htk ⟨take_full hk' hall, c1, c2⟩, rfl⟩, ?_⟩
                          simp only [G4, upd, ↓reduceIte]
                          omega
                    · simp only [↓AXq_nil, ↓AXq_cons, pval, DX, Nat.reduceBEq, ↓DN, UP, DF, qSh, qCv, qIA, qIx, qSl, qBu, qCe, qOn, reduceCtorEq, ↓reduceIte, nLT, nLE, nEQ, nAdd, nMul, nPow, nSub, zLT, zLE, zNat, RMsg1221, decide_eq_true c1, decide_eq_true (show (32 : Int) < (t.length : Int) by omega)]
                      refine hK _ _ ?_
                      clear hK K
                      refine awp_cond_k ?_
                      intro X Y hX hY
                      simp only [↓DN, UP, DF, qSh, qCv, qIA, qIx, qSl, qBu, qCe, qOn, reduceCtorEq, ↓reduceIte, nLT, nLE, nEQ, nAdd, nMul, nPow, nSub, zLT, zLE, zNat, RMsg1221, DB]
                      refine hX ?_
                      clear hX hY X Y
                      refine awp_reg_seq ?_
                      intro K hK
                      simp only [↓DN, UP, DF, qSh, qCv, qIA, qIx, qSl, qBu, qCe, qOn, reduceCtorEq, ↓reduceIte, nLT, nLE, nEQ, nAdd, nMul, nPow, nSub, zLT, zLE, zNat, RMsg1221]
                      refine hK _ _ ?_
                      clear hK K
                      refine awp_ret ?_
                      try simp only [thenQ, blockQ]
                      simp only [retQ, AEnds, aresL, ares, List.toList_toArray, ↓upd_same]; try simp only [↓DN, UP, DF, qSh, qCv, qIA, qIx, qSl, qBu, qCe, qOn, reduceCtorEq, ↓reduceIte, nLT, nLE, nEQ, nAdd, nMul, nPow, nSub, zLT, zLE, zNat, RMsg1221, DT]
                      exact ⟨_, _, AV.weak.refl _, AS.le.refl _, by rw [hbad fun q => c2 q.2.2], rfl⟩
                  · simp only [↓AXq_nil, ↓AXq_cons, pval, DX, Nat.reduceBEq, ↓DN, UP, DF, qSh, qCv, qIA, qIx, qSl, qBu, qCe, qOn, reduceCtorEq, ↓reduceIte, nLT, nLE, nEQ, nAdd, nMul, nPow, nSub, zLT, zLE, zNat, RMsg1221, decide_eq_false c1]
                    refine hK _ _ ?_
                    clear hK K
                    refine awp_cond_k ?_
                    intro X Y hX hY
                    simp only [↓DN, UP, DF, qSh, qCv, qIA, qIx, qSl, qBu, qCe, qOn, reduceCtorEq, ↓reduceIte, nLT, nLE, nEQ, nAdd, nMul, nPow, nSub, zLT, zLE, zNat, RMsg1221, DB]
                    refine hX ?_
                    clear hX hY X Y
                    refine awp_reg_seq ?_
                    intro K hK
                    simp only [↓DN, UP, DF, qSh, qCv, qIA, qIx, qSl, qBu, qCe, qOn, reduceCtorEq, ↓reduceIte, nLT, nLE, nEQ, nAdd, nMul, nPow, nSub, zLT, zLE, zNat, RMsg1221]
                    refine hK _ _ ?_
                    clear hK K
                    refine awp_ret ?_
                    try simp only [thenQ, blockQ]
                    simp only [retQ, AEnds, aresL, ares, List.toList_toArray, ↓upd_same]; try simp only [↓DN, UP, DF, qSh, qCv, qIA, qIx, qSl, qBu, qCe, qOn, reduceCtorEq, ↓reduceIte, nLT, nLE, nEQ, nAdd, nMul, nPow, nSub, zLT, zLE, zNat, RMsg1221, DT]
                    exact ⟨_, _, AV.weak.refl _, AS.le.refl _, by rw [hbad fun q => c1 q.2.1], rfl⟩
                · refine awp_reg_seq ?_
                  intro K hK
                  simp only [↓DN, UP, DF, qSh, qCv, qIA, qIx, qSl, qBu, qCe, qOn, reduceCtorEq, ↓reduceIte, nLT, nLE, nEQ, nAdd, nMul, nPow, nSub, zLT, zLE, zNat, RMsg1221, g4, g1, eye_lt_nat, decide_eq_false hi']
                  refine hK _ _ ?_
                  clear hK K
                  refine awp_cond_k ?_
                  intro X Y hX hY
                  simp only [↓DN, UP, DF, qSh, qCv, qIA, qIx, qSl, qBu, qCe, qOn, reduceCtorEq, ↓reduceIte, nLT, nLE, nEQ, nAdd, nMul, nPow, nSub, zLT, zLE, zNat, RMsg1221, DB]
                  refine hY ?_
                  clear hX hY X Y
                  refine awp_exit ?_
                  simp only [thenQ, blockQ, if_true]
                  refine hK _ _ ?_
                  clear hK K hK2 K2
                  refine awp_reg_seq ?_
                  intro K hK
                  simp only [↓DN, UP, DF, qSh, qCv, qIA, qIx, qSl, qBu, qCe, qOn, reduceCtorEq, ↓reduceIte, nLT, nLE, nEQ, nAdd, nMul, nPow, nSub, zLT, zLE, zNat, RMsg1221]
                  refine hK _ _ ?_
                  clear hK K
                  refine awp_ret ?_
                  simp only [retQ, AEnds, aresL, ares, List.toList_toArray, ↓upd_same]; try simp only [↓DN, UP, DF, qSh, qCv, qIA, qIx, qSl, qBu, qCe, qOn, reduceCtorEq, ↓reduceIte, nLT, nLE, nEQ, nAdd, nMul, nPow, nSub, zLT, zLE, zNat, RMsg1221, DT]
                  exact ⟨_, _, AV.weak.refl _, AS.le.refl _, by rw [decide_eq_true (take_full hi' hall)], rfl⟩
            refine awp_reg_seq ?_
            intro K hK
            simp only [↓DN, UP, DF, qSh, qCv, qIA, qIx, qSl, qBu, qCe, qOn, reduceCtorEq, ↓reduceIte, nLT, nLE, nEQ, nAdd, nMul, nPow, nSub, zLT, zLE, zNat, RMsg1221, g1]
            refine acallk (refRightP_calls pk _) ?_
            rintro r s2 ⟨rfl, rfl⟩
            rcases b2' with b2' | b2'
            all_goals
              simp only [↓AXq_nil, ↓AXq_cons, pval, DX, Nat.reduceBEq, ↓DN, UP, DF, qSh, qCv, qIA, qIx, qSl, qBu, qCe, qOn, reduceCtorEq, ↓reduceIte, nLT, nLE, nEQ, nAdd, nMul, nPow, nSub, zLT, zLE, zNat, RMsg1221, g1, decide_eq_true b1, b2', decide_eq_false (show ¬ (5 : Int) < (pst.length : Int) by omega)]
              refine hK _ _ ?_
              clear hK K
              refine awp_cond_k ?_
              intro X Y hX hY
              simp only [↓DN, UP, DF, qSh, qCv, qIA, qIx, qSl, qBu, qCe, qOn, reduceCtorEq, ↓reduceIte, nLT, nLE, nEQ, nAdd, nMul, nPow, nSub, zLT, zLE, zNat, RMsg1221, DB]
              refine hY ?_
              clear hX hY X Y
              refine awp_skip ?_
              exact hgo _ (by simp only [upd, g1, nEQ, ↓reduceIte])
          · have hx : decide ((Pub pk ∧ (pp.length = 0 ∨ pp.length = 32) ∧ pst.length ≤ 5) ∧ ∀ x ∈ pst, x.right) = false := decide_eq_false fun q => hB q.1
            rw [hx] at hK ⊢
            have hgo : decide (Pub pk) = false ∨ (decide (Pub pk) = true ∧ ((pp.length : Int) != 0) = true ∧ ((pp.length : Int) != 32) = true) ∨ (decide (Pub pk) = true ∧ ((pp.length : Int) != 0) = false ∧ decide ((5 : Int) < (pst.length : Int)) = true) ∨ (decide (Pub pk) = true ∧ ((pp.length : Int) != 0) = true ∧ ((pp.length : Int) != 32) = false ∧ decide ((5 : Int) < (pst.length : Int)) = true) := by
              by_cases q1 : Pub pk
              · by_cases q2 : pp.length = 0
                · exact Or.inr (Or.inr (Or.inl ⟨decide_eq_true q1, eq0N q2, decide_eq_true (by have : ¬ pst.length ≤ 5 := fun q => hB ⟨q1, Or.inl q2, q⟩; omega)⟩))
                · by_cases q3 : pp.length = 32
                  · exact Or.inr (Or.inr (Or.inr ⟨decide_eq_true q1, ne0N q2, n32 q3, decide_eq_true (by have : ¬ pst.length ≤ 5 := fun q => hB ⟨q1, Or.inr q3, q⟩; omega)⟩))
                  · exact Or.inr (Or.inl ⟨decide_eq_true q1, ne0N q2, n32T q3⟩)
              · exact Or.inl (decide_eq_false q1)
            refine awp_reg_seq ?_
            intro K hK
            simp only [↓DN, UP, DF, qSh, qCv, qIA, qIx, qSl, qBu, qCe, qOn, reduceCtorEq, ↓reduceIte, nLT, nLE, nEQ, nAdd, nMul, nPow, nSub, zLT, zLE, zNat, RMsg1221, g1]
            refine acallk (refRightP_calls pk _) ?_
            rintro r s2 ⟨rfl, rfl⟩
            rcases hgo with hd | hd | hd | hd
            all_goals
              simp only [↓AXq_nil, ↓AXq_cons, pval, DX, Nat.reduceBEq, ↓DN, UP, DF, qSh, qCv, qIA, qIx, qSl, qBu, qCe, qOn, reduceCtorEq, ↓reduceIte, nLT, nLE, nEQ, nAdd, nMul, nPow, nSub, zLT, zLE, zNat, RMsg1221, g1, hd]
              refine hK _ _ ?_
              clear hK K
              refine awp_cond_k ?_
              intro X Y hX hY
              simp only [↓DN, UP, DF, qSh, qCv, qIA, qIx, qSl, qBu, qCe, qOn, reduceCtorEq, ↓reduceIte, nLT, nLE, nEQ, nAdd, nMul, nPow, nSub, zLT, zLE, zNat, RMsg1221, DB]
              refine hX ?_
              clear hX hY X Y
              refine awp_reg_seq ?_
              intro K hK
              simp only [↓DN, UP, DF, qSh, qCv, qIA, qIx, qSl, qBu, qCe, qOn, reduceCtorEq, ↓reduceIte, nLT, nLE, nEQ, nAdd, nMul, nPow, nSub, zLT, zLE, zNat, RMsg1221]
              refine hK _ _ ?_
              clear hK K
              refine awp_ret ?_
              try simp only [thenQ, blockQ]
              simp only [retQ, AEnds, aresL, ares, List.toList_toArray, ↓upd_same]; try simp only [↓DN, UP, DF, qSh, qCv, qIA, qIx, qSl, qBu, qCe, qOn, reduceCtorEq, ↓reduceIte, nLT, nLE, nEQ, nAdd, nMul, nPow, nSub, zLT, zLE, zNat, RMsg1221, DT]
              exact ⟨_, _, AV.weak.refl _, AS.le.refl _, rfl, rfl⟩
  · have hx : decide (((1 ≤ g.length ∧ g.length ≤ 16) ∧ (0 ≤ e ∧ e ≤ 1048576) ∧ (0 ≤ sd ∧ sd < 32) ∧ ps.length ≤ 16 ∧ cf.length = 32 ∧ mb.length = 32) ∧ (∀ x ∈ ps, x.right) ∧ ((hp = true → PathV.right ⟨pk, pp, pst⟩) ∧ (hp = false → (⟨pk, pp, pst⟩ : PathV) = nopath))) = false := decide_eq_false fun q => hA q.1
    rw [hx] at hK ⊢
    clear hx
    rcases tt9 (decide ((g.length : Int) < 1)) (decide ((16 : Int) < (g.length : Int))) (decide (e < 0)) (decide ((1048576 : Int) < e)) (decide (sd < 0)) (decide ((31 : Int) < sd)) (decide ((16 : Int) < (ps.length : Int))) ((cf.length : Int) != 32) ((mb.length : Int) != 32) with hd | hd | hd | hd | hd | hd | hd | hd | hd | hd
    case inr.inr.inr.inr.inr.inr.inr.inr.inr =>
      simp only [decide_eq_false_iff_not, bne_eq_false_iff_eq] at hd
      exact absurd (by omega) hA
    all_goals
      refine awp_reg_seq ?_
      intro K hK
      simp only [↓DN, UP, DF, qSh, qCv, qIA, qIx, qSl, qBu, qCe, qOn, reduceCtorEq, ↓reduceIte, nLT, nLE, nEQ, nAdd, nMul, nPow, nSub, zLT, zLE, zNat, RMsg1221, hd]
      refine hK _ _ ?_
      clear hK K
      refine awp_cond_k ?_
      intro X Y hX hY
      simp only [↓DN, UP, DF, qSh, qCv, qIA, qIx, qSl, qBu, qCe, qOn, reduceCtorEq, ↓reduceIte, nLT, nLE, nEQ, nAdd, nMul, nPow, nSub, zLT, zLE, zNat, RMsg1221, DB]
      refine hX ?_
      clear hX hY X Y
      refine awp_reg_seq ?_
      intro K hK
      simp only [↓DN, UP, DF, qSh, qCv, qIA, qIx, qSl, qBu, qCe, qOn, reduceCtorEq, ↓reduceIte, nLT, nLE, nEQ, nAdd, nMul, nPow, nSub, zLT, zLE, zNat, RMsg1221]
      refine hK _ _ ?_
      clear hK K
      refine awp_ret ?_
      try simp only [thenQ, blockQ]
      simp only [retQ, AEnds, aresL, ares, List.toList_toArray, ↓upd_same]; try simp only [↓DN, UP, DF, qSh, qCv, qIA, qIx, qSl, qBu, qCe, qOn, reduceCtorEq, ↓reduceIte, nLT, nLE, nEQ, nAdd, nMul, nPow, nSub, zLT, zLE, zNat, RMsg1221, DT]
      exact ⟨_, _, AV.weak.refl _, AS.le.refl _, rfl, rfl⟩

end Go.Proofs.Ytcnilmidfhpckaa


set_option autoImplicit false
namespace Go.Proofs.Ytcnilmidfhpckaa
open Go Go.AM Go.Proofs

theorem RMsg1366 : type_of% (And.intro (And.intro (And.intro (And.intro @Try.underlying3 T.c3) (And.intro T.g3 (And.intro T.b3 T.z3))) (And.intro (And.intro @Try.underlying42 (And.intro T.c42 T.g42)) (And.intro T.b42 (And.intro T.z42 T.k67)))) Try.ntmps66) :=
  (And.intro (And.intro (And.intro (And.intro @Try.underlying3 T.c3) (And.intro T.g3 (And.intro T.b3 T.z3))) (And.intro (And.intro @Try.underlying42 (And.intro T.c42 T.g42)) (And.intro T.b42 (And.intro T.z42 T.k67)))) Try.ntmps66)
theorem RMsg1368 : type_of% (And.intro (And.intro (And.intro (And.intro (And.intro (And.intro (And.intro @Try.underlying3 T.c3) (And.intro T.g3 T.b3)) (And.intro (And.intro T.z3 @Try.underlying5) (And.intro T.c5 (And.intro T.g5 T.b5)))) (And.intro (And.intro (And.intro T.z5 @Try.underlying9) (And.intro T.c9 T.g9)) (And.intro (And.intro T.b9 T.z9) (And.intro @Try.underlying28 (And.intro T.c28 T.g28))))) (And.intro (And.intro (And.intro (And.intro T.b28 T.z28) (And.intro T.s28 @Try.underlying42)) (And.intro (And.intro T.c42 T.g42) (And.intro T.b42 (And.intro T.z42 @Try.underlying43)))) (And.intro (And.intro (And.intro T.c43 T.g43) (And.intro T.b43 (And.intro T.z43 T.s43))) (And.intro (And.intro @Try.underlying45 T.c45) (And.intro T.g45 (And.intro T.b45 T.z45)))))) (And.intro (And.intro (And.intro (And.intro (And.intro T.h45 @Try.underlying81) (And.intro T.c81 T.g81)) (And.intro (And.intro T.b81 T.z81) (And.intro T.s81 (And.intro @Try.underlying83 T.c83)))) (And.intro (And.intro (And.intro T.g83 T.b83) (And.intro T.z83 T.h83)) (And.intro (And.intro @Try.underlying85 T.c85) (And.intro T.g85 (And.intro T.b85 T.z85))))) (And.intro (And.intro (And.intro (And.intro T.h85 @Try.underlying150) (And.intro T.c150 T.g150)) (And.intro (And.intro T.b150 T.z150) (And.intro T.h150 (And.intro T.f45_0 T.f45_1)))) (And.intro (And.intro (And.intro T.f45_2 T.f83_0) (And.intro T.f83_1 (And.intro T.f85_0 T.f85_1))) (And.intro (And.intro T.f150_0 T.f150_1) (And.intro T.k67 (And.intro T.k104 T.k65))))))) Try.ntmps68) :=
  (And.intro (And.intro (And.intro (And.intro (And.intro (And.intro (And.intro @Try.underlying3 T.c3) (And.intro T.g3 T.b3)) (And.intro (And.intro T.z3 @Try.underlying5) (And.intro T.c5 (And.intro T.g5 T.b5)))) (And.intro (And.intro (And.intro T.z5 @Try.underlying9) (And.intro T.c9 T.g9)) (And.intro (And.intro T.b9 T.z9) (And.intro @Try.underlying28 (And.intro T.c28 T.g28))))) (And.intro (And.intro (And.intro (And.intro T.b28 T.z28) (And.intro T.s28 @Try.underlying42)) (And.intro (And.intro T.c42 T.g42) (And.intro T.b42 (And.intro T.z42 @Try.underlying43)))) (And.intro (And.intro (And.intro T.c43 T.g43) (And.intro T.b43 (And.intro T.z43 T.s43))) (And.intro (And.intro @Try.underlying45 T.c45) (And.intro T.g45 (And.intro T.b45 T.z45)))))) (And.intro (And.intro (And.intro (And.intro (And.intro T.h45 @Try.underlying81) (And.intro T.c81 T.g81)) (And.intro (And.intro T.b81 T.z81) (And.intro T.s81 (And.intro @Try.underlying83 T.c83)))) (And.intro (And.intro (And.intro T.g83 T.b83) (And.intro T.z83 T.h83)) (And.intro (And.intro @Try.underlying85 T.c85) (And.intro T.g85 (And.intro T.b85 T.z85))))) (And.intro (And.intro (And.intro (And.intro T.h85 @Try.underlying150) (And.intro T.c150 T.g150)) (And.intro (And.intro T.b150 T.z150) (And.intro T.h150 (And.intro T.f45_0 T.f45_1)))) (And.intro (And.intro (And.intro T.f45_2 T.f83_0) (And.intro T.f83_1 (And.intro T.f85_0 T.f85_1))) (And.intro (And.intro T.f150_0 T.f150_1) (And.intro T.k67 (And.intro T.k104 T.k65))))))) Try.ntmps68)

variable {Γ : Nat → List AV}

theorem room2 {a b : List UInt8} (h : a.length + b.length < 2 ^ 62) : (IntKind.i64.max < ((a.length + b.length : Nat) : Int)) = False := i64_room h
theorem room3 {a b c : List UInt8} (h : a.length + b.length + c.length < 2 ^ 62) : (IntKind.i64.max < ((a.length + b.length + c.length : Nat) : Int)) = False ∧ (IntKind.i64.max < (((a ++ b).length + c.length : Nat) : Int)) = False := ⟨i64_room h, i64_room (by simpa using h)⟩

theorem num_calls (n : Int) (m k : Nat) (hm : iconv .u64 n = (m : Int)) (hk : k ≤ 8) (hl : m < 2 ^ 64) (s : AS) : ACalls Try.prog Γ 66 [.v (.int .i64 n), .v (.int .i64 k)] s (fun r s' => r = .v (.string ⟨(be k m).toArray⟩) ∧ s' = s) := by
  refine acalls_body Try.func66 rfl Try.ntmps66 Try.results66 (by simp) ?_
  refine awp_reg_seq ?_
  intro K hK
  simp only [↓DN, UP, DF, qSh, qCv, qIA, qIx, qSl, qBu, qCe, qOn, reduceCtorEq, ↓reduceIte, nLT, nLE, nEQ, nAdd, nMul, nPow, nSub, zLT, zLE, zNat, RMsg1366]
  refine hK _ _ ?_
  clear hK K
  refine awp_reg_seq ?_
  intro K hK
  simp only [↓DN, UP, DF, qSh, qCv, qIA, qIx, qSl, qBu, qCe, qOn, reduceCtorEq, ↓reduceIte, nLT, nLE, nEQ, nAdd, nMul, nPow, nSub, zLT, zLE, zNat, RMsg1366, hm]
  refine acallk (refNumber_calls m k hl hk _) ?_
  rintro r s1 ⟨rfl, rfl⟩
  simp only [↓AXq_nil, ↓AXq_cons, pval, DX, Nat.reduceBEq, ↓DN, UP, DF, qSh, qCv, qIA, qIx, qSl, qBu, qCe, qOn, reduceCtorEq, ↓reduceIte, nLT, nLE, nEQ, nAdd, nMul, nPow, nSub, zLT, zLE, zNat, RMsg1366]
  refine hK _ _ ?_
  clear hK K
  refine awp_ret ?_
  simp only [retQ, AEnds, aresL, ares, List.toList_toArray, ↓upd_same]; try simp only [↓DN, UP, DF, qSh, qCv, qIA, qIx, qSl, qBu, qCe, qOn, reduceCtorEq, ↓reduceIte, nLT, nLE, nEQ, nAdd, nMul, nPow, nSub, zLT, zLE, zNat, RMsg1366, DT]
  exact ⟨_, _, AV.weak.refl _, AS.le.refl _, rfl, rfl⟩

set_option maxHeartbeats 8000000 in
set_option maxRecDepth 100000 in
theorem refPathWrite_calls (x : PathV) (hw : x.wf) (hx : x.right) (s : AS) : ACalls Try.prog Γ 68 [.agg x.cells] s (fun r s' => r = .v (.string ⟨x.text.toArray⟩) ∧ s' = s) := by
  refine acalls_body Try.func68 rfl Try.ntmps68 Try.results68 (by simp) ?_
  obtain ⟨key, pa, ps⟩ := x
  obtain ⟨w1, w2, w3⟩ := hw
  obtain ⟨x1, x2, x3, x4⟩ := hx
  simp only at w1 w2 w3 x1 x2 x3 x4
  unfold PathV.cells
  have htx : PathV.text ⟨key, pa, ps⟩ = be 8 key ++ (txt 1 pa ++ (be 1 ps.length ++ flatT StepV.text ps)) := rfl
  rw [htx]
  clear htx
  have hfl : ∀ i, (flatT StepV.text (ps.take i)).length ≤ 9400 := by
    intro i
    have h1 := flatT_len (f := StepV.text) (n := 1865) (l := ps.take i) fun y hy => StepV.text_len (x1 y (List.mem_of_mem_take hy))
    have h2 : (ps.take i).length ≤ 5 := by rw [List.length_take]; omega
    have h3 : (ps.take i).length * 1865 ≤ 5 * 1865 := Nat.mul_le_mul_right _ h2
    omega
  have hrow := fun i (h : i < ps.length) => row_at (c := StepV.cells) (k := 2) (fun _ => rfl) h
  generalize hXX : rowC StepV.cells ps = XX at *
  refine awp_reg_frz 1 (by simp [dsts]) ?_
  intro K hK
  simp only [↓AXq_nil, ↓AXq_cons, pval, DX, Nat.reduceBEq, ↓DN, UP, DF, qSh, qCv, qIA, qIx, qSl, qBu, qCe, qOn, reduceCtorEq, ↓reduceIte, nLT, nLE, nEQ, nAdd, nMul, nPow, nSub, zLT, zLE, zNat, RMsg1368]
  intro o ho
  refine hK _ _ o _ (by simp only [upd, nEQ, ↓reduceIte]) ho ?_
  clear hK K ho
  have hu : iconv .u64 (ps.length : Int) = (ps.length : Int) := u64_conv (by omega)
  have hT1 := fun s => refText_calls (Γ := Γ) pa 1 (by omega) (by decide) s
  change ∀ s, ACalls _ _ _ _ s (fun r s' => r = .v (.string ⟨(txt 1 pa).toArray⟩) ∧ s' = s) at hT1
  have htl := txt_len 1 pa
  have hb8 := length_be 8 key
  have hb1 := length_be 1 ps.length
  have hN8 := fun s => refNumber_calls (Γ := Γ) key 8 w1 (by decide) s
  have hN1 := fun s => refNumber_calls (Γ := Γ) ps.length 1 (by omega) (by decide) s
  generalize txt 1 pa = A2 at *
  generalize be 8 key = A1 at *
  generalize be 1 ps.length = A3 at *
  refine awp_drw_seq T.mixed [2, 6, 12] (by kernel_rfl) ?_
  intro K hK
  simp only [↓AXq_nil, ↓AXq_cons, pval, DX, Nat.reduceBEq, ↓DN, UP, DF, qSh, qCv, qIA, qIx, qSl, qBu, qCe, qOn, reduceCtorEq, ↓reduceIte, nLT, nLE, nEQ, nAdd, nMul, nPow, nSub, zLT, zLE, zNat, RMsg1368, hu]
  refine acallk (hN8 _) ?_
  rintro r s1 ⟨rfl, rfl⟩
  simp only [↓AXq_nil, ↓AXq_cons, pval, DX, Nat.reduceBEq, ↓DN, UP, DF, qSh, qCv, qIA, qIx, qSl, qBu, qCe, qOn, reduceCtorEq, ↓reduceIte, nLT, nLE, nEQ, nAdd, nMul, nPow, nSub, zLT, zLE, zNat, RMsg1368]
  refine acallk (hT1 _) ?_
  rintro r s2 ⟨rfl, rfl⟩
  simp only [↓AXq_nil, ↓AXq_cons, pval, DX, Nat.reduceBEq, ↓DN, UP, DF, qSh, qCv, qIA, qIx, qSl, qBu, qCe, qOn, reduceCtorEq, ↓reduceIte, nLT, nLE, nEQ, nAdd, nMul, nPow, nSub, zLT, zLE, zNat, RMsg1368, hu, room2 (show A1.length + A2.length < 2 ^ 62 by omega)]
  refine acallk (hN1 _) ?_
  rintro r s3 ⟨rfl, rfl⟩
  simp only [↓AXq_nil, ↓AXq_cons, pval, DX, Nat.reduceBEq, ↓DN, UP, DF, qSh, qCv, qIA, qIx, qSl, qBu, qCe, qOn, reduceCtorEq, ↓reduceIte, nLT, nLE, nEQ, nAdd, nMul, nPow, nSub, zLT, zLE, zNat, RMsg1368, room3 (show A1.length + A2.length + A3.length < 2 ^ 62 by omega)]
  refine hK _ _ ?_
  clear hK K
  refine awp_seq_k ?_
  intro K hK
  refine awp_reg_seq ?_
  intro K hK
  simp only [↓DN, UP, DF, qSh, qCv, qIA, qIx, qSl, qBu, qCe, qOn, reduceCtorEq, ↓reduceIte, nLT, nLE, nEQ, nAdd, nMul, nPow, nSub, zLT, zLE, zNat, RMsg1368]
  refine hK _ _ ?_
  clear hK K
  refine awp_block ?_
  have hPl : (A1 ++ (A2 ++ A3)).length ≤ 1000 := by rw [List.length_append, List.length_append]; omega
  have hPe : A1 ++ (A2 ++ (A3 ++ flatT StepV.text ps)) = (A1 ++ (A2 ++ A3)) ++ flatT StepV.text ps := by simp only [List.append_assoc]
  rw [hPe] at hK ⊢
  clear hPe
  generalize A1 ++ (A2 ++ A3) = PP0 at *
  refine awp_loop (fun E s9 => ∃ i : Nat, i ≤ ps.length ∧ E 4 = .v (.int .i64 i) ∧ E 3 = .v (.string ⟨(PP0 ++ flatT StepV.text (ps.take i)).toArray⟩) ∧ E 1 = .rop [.v (.int .u64 key), .sl 1 pa.length (pa.map byteV) .any, .sl 2 ps.length XX .any] ∧ s9 = s3)
    (fun E _ => match E 4 with | .v (.int _ i) => ps.length - i.toNat | _ => 0) ?_ ?_
  · exact ⟨0, Nat.zero_le _, by simp only [upd, ↓reduceIte]; rfl, by simp only [upd, nEQ, ↓reduceIte]; simp [flatT], by simp only [upd, nEQ, ↓reduceIte], rfl⟩
  · clear hN8 hN1 hT1 htl hb8 hb1 hu
    rintro E1 s9 ⟨i, hi, g4, g3, g1, rfl⟩ -
    refine awp_seq_k ?_
    intro K2 hK2
    by_cases hi' : i < ps.length
    · refine awp_reg_seq ?_
      intro K hK
      simp only [↓DN, UP, DF, qSh, qCv, qIA, qIx, qSl, qBu, qCe, qOn, reduceCtorEq, ↓reduceIte, nLT, nLE, nEQ, nAdd, nMul, nPow, nSub, zLT, zLE, zNat, RMsg1368, g4, g1, eye_lt_nat, decide_eq_true hi']
      refine hK _ _ ?_
      clear hK K
      refine awp_cond_k ?_
      intro X Y hX hY
      simp only [↓DN, UP, DF, qSh, qCv, qIA, qIx, qSl, qBu, qCe, qOn, reduceCtorEq, ↓reduceIte, nLT, nLE, nEQ, nAdd, nMul, nPow, nSub, zLT, zLE, zNat, RMsg1368, DB]
      refine hX ?_
      clear hX hY X Y
      refine awp_skip ?_
      refine hK2 _ _ ?_
      clear hK2 K2
      refine awp_seq_k ?_
      intro K3 hK3
      refine awp_block ?_
      have hat := hrow i hi'
      have hge : (0 : Int) ≤ (i : Int) := by omega
      have hft := flatT_take StepV.text hi'
      have hfl1 := hfl i
      have hSl : (PP0 ++ flatT StepV.text (ps.take i)).length ≤ 20000 := by rw [List.length_append]; omega
      have hnx : PP0 ++ flatT StepV.text (ps.take (i + 1)) = (PP0 ++ flatT StepV.text (ps.take i)) ++ StepV.text ps[i] := by rw [hft, List.append_assoc]
      generalize PP0 ++ flatT StepV.text (ps.take i) = S at *
      obtain ⟨y, hy⟩ : ∃ y, y = ps[i] := ⟨_, rfl⟩
      rw [← hy] at hat hnx
      have hym : y ∈ ps := by rw [hy]; exact List.getElem_mem hi'
      have hyw := w2 y hym
      have hyr := x1 y hym
      clear hy hft
      obtain ⟨f, t⟩ := y
      obtain ⟨yw1, yw2, yw3⟩ := hyw
      obtain ⟨yr1, yr2, yr3⟩ := hyr
      simp only at yw1 yw2 yw3 yr1 yr2 yr3
      rw [show StepV.text ⟨f, t⟩ = be 8 f ++ (be 1 t.length ++ flatT SealV.wtext t) from rfl] at hnx
      unfold StepV.cells at hat
      have hfl2 : ∀ i, (flatT SealV.wtext (t.take i)).length ≤ 1856 := by
        intro i
        have h1 := flatT_len (f := SealV.wtext) (n := 58) (l := t.take i) fun y hy => SealV.wtext_len (yr1 y (List.mem_of_mem_take hy))
        have h2 : (t.take i).length ≤ 32 := by rw [List.length_take]; omega
        have h3 : (t.take i).length * 58 ≤ 32 * 58 := Nat.mul_le_mul_right _ h2
        omega
      have hrow2 := fun i (h : i < t.length) => row_at (c := SealV.cells) (k := 2) (fun _ => rfl) h
      generalize rowC SealV.cells t = TT at *
      refine awp_reg_frz 5 (by simp [dsts]) ?_
      intro K2 hK2
      simp only [↓AXq_nil, ↓AXq_cons, pval, DX, Nat.reduceBEq, ↓DN, UP, DF, qSh, qCv, qIA, qIx, qSl, qBu, qCe, qOn, reduceCtorEq, ↓reduceIte, nLT, nLE, nEQ, nAdd, nMul, nPow, nSub, zLT, zLE, zNat, RMsg1368, g4, g1, eye_lt_nat, hi', hge, hat]
      intro o ho
      refine hK2 _ _ o _ (by simp only [upd, nEQ, ↓reduceIte]) ho ?_
      clear hK2 K2 ho
      have hu : iconv .u64 (t.length : Int) = (t.length : Int) := u64_conv (by omega)
      have hb8 := length_be 8 f
      have hb1 := length_be 1 t.length
      have hN8 := fun s => refNumber_calls (Γ := Γ) f 8 yw1 (by decide) s
      have hN1 := fun s => refNumber_calls (Γ := Γ) t.length 1 (by omega) (by decide) s
      generalize be 8 f = B1 at *
      generalize be 1 t.length = B2 at *
      refine awp_drw_seq T.mixed [3, 9] (by kernel_rfl) ?_
      intro K hK
      simp only [↓AXq_nil, ↓AXq_cons, pval, DX, Nat.reduceBEq, ↓DN, UP, DF, qSh, qCv, qIA, qIx, qSl, qBu, qCe, qOn, reduceCtorEq, ↓reduceIte, nLT, nLE, nEQ, nAdd, nMul, nPow, nSub, zLT, zLE, zNat, RMsg1368, g3]
      refine acallk (hN8 _) ?_
      rintro r s4 ⟨rfl, rfl⟩
      simp only [↓AXq_nil, ↓AXq_cons, pval, DX, Nat.reduceBEq, ↓DN, UP, DF, qSh, qCv, qIA, qIx, qSl, qBu, qCe, qOn, reduceCtorEq, ↓reduceIte, nLT, nLE, nEQ, nAdd, nMul, nPow, nSub, zLT, zLE, zNat, RMsg1368, hu, room2 (show S.length + B1.length < 2 ^ 62 by omega)]
      refine acallk (hN1 _) ?_
      rintro r s5 ⟨rfl, rfl⟩
      simp only [↓AXq_nil, ↓AXq_cons, pval, DX, Nat.reduceBEq, ↓DN, UP, DF, qSh, qCv, qIA, qIx, qSl, qBu, qCe, qOn, reduceCtorEq, ↓reduceIte, nLT, nLE, nEQ, nAdd, nMul, nPow, nSub, zLT, zLE, zNat, RMsg1368, room3 (show S.length + B1.length + B2.length < 2 ^ 62 by omega)]
      refine hK _ _ ?_
      clear hK K
      refine awp_reg_seq ?_
      intro K hK
      simp only [↓DN, UP, DF, qSh, qCv, qIA, qIx, qSl, qBu, qCe, qOn, reduceCtorEq, ↓reduceIte, nLT, nLE, nEQ, nAdd, nMul, nPow, nSub, zLT, zLE, zNat, RMsg1368]
      refine hK _ _ ?_
      clear hK K
      refine awp_block ?_
      have hSl2 : (S ++ (B1 ++ B2)).length ≤ 21000 := by rw [List.length_append, List.length_append]; omega
      have hnx2 : PP0 ++ flatT StepV.text (ps.take (i + 1)) = (S ++ (B1 ++ B2)) ++ flatT SealV.wtext t := by rw [hnx]; simp only [List.append_assoc]
      generalize S ++ (B1 ++ B2) = S2 at *
      clear hnx hN8 hN1 hat
      refine awp_loop (fun E s9 => ∃ k : Nat, k ≤ t.length ∧ E 6 = .v (.int .i64 k) ∧ E 3 = .v (.string ⟨(S2 ++ flatT SealV.wtext (t.take k)).toArray⟩) ∧ E 5 = .rop [.v (.int .u64 f), .sl 2 t.length TT .any] ∧ E 4 = .v (.int .i64 i) ∧ E 1 = .rop [.v (.int .u64 key), .sl 1 pa.length (pa.map byteV) .any, .sl 2 ps.length XX .any] ∧ s9 = s5)
        (fun E _ => match E 6 with | .v (.int _ i) => t.length - i.toNat | _ => 0) ?_ ?_
      · exact ⟨0, Nat.zero_le _, by simp only [upd, ↓reduceIte]; rfl, by simp only [upd, nEQ, ↓reduceIte]; simp [flatT], by simp only [upd, nEQ, ↓reduceIte], by simp only [upd, g4, nEQ, ↓reduceIte], by simp only [upd, g1, nEQ, ↓reduceIte], rfl⟩
      · have G4 := g4
        clear g4 g1 g3
        rintro E2 s10 ⟨k, hk, g6, g3, g5, g4, g1, rfl⟩ -
        refine awp_seq_k ?_
        intro K2 hK2
        by_cases hk' : k < t.length
        · refine awp_reg_seq ?_
          intro K hK
          simp only [↓DN, UP, DF, qSh, qCv, qIA, qIx, qSl, qBu, qCe, qOn, reduceCtorEq, ↓reduceIte, nLT, nLE, nEQ, nAdd, nMul, nPow, nSub, zLT, zLE, zNat, RMsg1368, g6, g5, eye_lt_nat, decide_eq_true hk']
          refine hK _ _ ?_
          clear hK K
          refine awp_cond_k ?_
          intro X Y hX hY
          simp only [↓DN, UP, DF, qSh, qCv, qIA, qIx, qSl, qBu, qCe, qOn, reduceCtorEq, ↓reduceIte, nLT, nLE, nEQ, nAdd, nMul, nPow, nSub, zLT, zLE, zNat, RMsg1368, DB]
          refine hX ?_
          clear hX hY X Y
          refine awp_skip ?_
          refine hK2 _ _ ?_
          clear hK2 K2
          refine awp_seq_k ?_
          intro K4 hK4
          refine awp_block ?_
          have hat := hrow2 k hk'
          have hge : (0 : Int) ≤ (k : Int) := by omega
          have hft2 := flatT_take SealV.wtext hk'
          have hfl3 := hfl2 k
          have hSl3 : (S2 ++ flatT SealV.wtext (t.take k)).length ≤ 24000 := by rw [List.length_append]; omega
          have hnx3 : S2 ++ flatT SealV.wtext (t.take (k + 1)) = (S2 ++ flatT SealV.wtext (t.take k)) ++ SealV.wtext t[k] := by rw [hft2, List.append_assoc]
          generalize S2 ++ flatT SealV.wtext (t.take k) = S3 at *
          obtain ⟨z, hz⟩ : ∃ z, z = t[k] := ⟨_, rfl⟩
          rw [← hz] at hat hnx3
          have hzm : z ∈ t := by rw [hz]; exact List.getElem_mem hk'
          have hzw := yw2 z hzm
          have hzr := yr1 z hzm
          clear hz hft2
          have hzl := SealV.wtext_len hzr
          obtain ⟨fz, tz⟩ := z
          obtain ⟨zr1, zr2⟩ := hzr
          simp only at zr1 zr2
          have hzw : fz < 2 ^ 64 := hzw
          have hWr := fun s => refHWrite_calls (Γ := Γ) fz tz hzw (by omega) s
          rw [show hText fz tz = SealV.wtext ⟨fz, tz⟩ from rfl] at hWr
          generalize SealV.wtext ⟨fz, tz⟩ = W0 at *
          unfold SealV.cells at hat
          refine awp_drw_end T.mixed [15] (by kernel_rfl) ?_
          intro K hK
          simp only [↓AXq_nil, ↓AXq_cons, pval, DX, Nat.reduceBEq, ↓DN, UP, DF, qSh, qCv, qIA, qIx, qSl, qBu, qCe, qOn, reduceCtorEq, ↓reduceIte, nLT, nLE, nEQ, nAdd, nMul, nPow, nSub, zLT, zLE, zNat, RMsg1368, g6, g5, g3, eye_lt_nat, hk', hge, hat]
          refine acallk (hWr _) ?_
          rintro r s11 ⟨rfl, rfl⟩
          simp only [↓AXq_nil, ↓AXq_cons, pval, DX, Nat.reduceBEq, ↓DN, UP, DF, qSh, qCv, qIA, qIx, qSl, qBu, qCe, qOn, reduceCtorEq, ↓reduceIte, nLT, nLE, nEQ, nAdd, nMul, nPow, nSub, zLT, zLE, zNat, RMsg1368, room2 (show S3.length + W0.length < 2 ^ 62 by omega)]
          refine hK _ _ ?_
          clear hK K
          simp only [blockQ, thenQ, if_true, if_false]
          refine hK4 _ _ ?_
          clear hK4 K4
          refine awp_reg_end ?_
          intro K hK
          simp only [↓DN, UP, DF, qSh, qCv, qIA, qIx, qSl, qBu, qCe, qOn, reduceCtorEq, ↓reduceIte, nLT, nLE, nEQ, nAdd, nMul, nPow, nSub, zLT, zLE, zNat, RMsg1368, g6, eye_succM k (by omega)]
          refine hK _ _ ?_
          clear hK K
          refine ⟨⟨k + 1, by omega, by simp only [upd, ↓reduceIte], by simp only [upd, nEQ, ↓reduceIte]; rw [hnx3], by simp only [upd, g5, nEQ, ↓reduceIte], by simp only [upd, g4, nEQ, ↓reduceIte], by simp only [upd, g1, nEQ, ↓reduceIte], rfl⟩, ?_⟩
          simp only [g6, upd, ↓reduceIte]
          omega
        · refine awp_reg_seq ?_
          intro K hK
          simp only [↓DN, UP, DF, qSh, qCv, qIA, qIx, qSl, qBu, qCe, qOn, reduceCtorEq, ↓reduceIte, nLT, nLE, nEQ, nAdd, nMul, nPow, nSub, zLT, zLE, zNat, RMsg1368, g6, g5, eye_lt_nat, decide_eq_false hk']
          refine hK _ _ ?_
          clear hK K
          refine awp_cond_k ?_
          intro X Y hX hY
          simp only [↓DN, UP, DF, qSh, qCv, qIA, qIx, qSl, qBu, qCe, qOn, reduceCtorEq, ↓reduceIte, nLT, nLE, nEQ, nAdd, nMul, nPow, nSub, zLT, zLE, zNat, RMsg1368, DB]
          refine hY ?_
          clear hX hY X Y
          refine awp_exit ?_
          simp only [thenQ, blockQ, if_true, if_false]
          rw [List.take_of_length_le (by omega), ← hnx2] at g3
          refine hK3 _ _ ?_
          clear hK3 hK2 K2 K3
          refine awp_reg_end ?_
          intro K hK
          simp only [↓DN, UP, DF, qSh, qCv, qIA, qIx, qSl, qBu, qCe, qOn, reduceCtorEq, ↓reduceIte, nLT, nLE, nEQ, nAdd, nMul, nPow, nSub, zLT, zLE, zNat, RMsg1368, g4, eye_succM i (by omega)]
          refine hK _ _ ?_
          clear hK K
          refine ⟨⟨i + 1, by omega, by simp only [upd, ↓reduceIte], by simp only [upd, g3, nEQ, ↓reduceIte], by simp only [upd, g1, nEQ, ↓reduceIte], rfl⟩, ?_⟩
          simp only [G4, upd, ↓reduceIte]
          omega
    · refine awp_reg_seq ?_
      intro K hK
      simp only [↓DN, UP, DF, qSh, qCv, qIA, qIx, qSl, qBu, qCe, qOn, reduceCtorEq, ↓reduceIte, nLT, nLE, nEQ, nAdd, nMul, nPow, nSub, zLT, zLE, zNat, RMsg1368, g4, g1, eye_lt_nat, decide_eq_false hi']
      refine hK _ _ ?_
      clear hK K
      refine awp_cond_k ?_
      intro X Y hX hY
      simp only [↓DN, UP, DF, qSh, qCv, qIA, qIx, qSl, qBu, qCe, qOn, reduceCtorEq, ↓reduceIte, nLT, nLE, nEQ, nAdd, nMul, nPow, nSub, zLT, zLE, zNat, RMsg1368, DB]
      refine hY ?_
      clear hX hY X Y
      refine awp_exit ?_
      simp only [thenQ, blockQ, if_true]
      rw [List.take_of_length_le (by omega)] at g3
      refine hK _ _ ?_
      clear hK K hK2 K2
      refine awp_reg_seq ?_
      intro K hK
      simp only [↓DN, UP, DF, qSh, qCv, qIA, qIx, qSl, qBu, qCe, qOn, reduceCtorEq, ↓reduceIte, nLT, nLE, nEQ, nAdd, nMul, nPow, nSub, zLT, zLE, zNat, RMsg1368, g3]
      refine hK _ _ ?_
      clear hK K
      refine awp_ret ?_
      simp only [retQ, AEnds, aresL, ares, List.toList_toArray, ↓upd_same]; try simp only [↓DN, UP, DF, qSh, qCv, qIA, qIx, qSl, qBu, qCe, qOn, reduceCtorEq, ↓reduceIte, nLT, nLE, nEQ, nAdd, nMul, nPow, nSub, zLT, zLE, zNat, RMsg1368, DT]
      exact ⟨_, _, AV.weak.refl _, AS.le.refl _, rfl, rfl⟩

end Go.Proofs.Ytcnilmidfhpckaa


