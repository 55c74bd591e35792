/- Contracts of the program's functions, each walked once; the conditions stand in each theorem. -/
import Derived.Test.YtcnilmidfhpckaaAMp6
import Derived.Test.YtcnilmidfhpckaaW8
set_option linter.unusedSimpArgs false
set_option linter.unusedVariables false
open Nat renaming reduceLT → nLT, reduceLeDiff → nLE, reduceEqDiff → nEQ, reduceAdd → nAdd, reduceMul → nMul, reducePow → nPow, reduceSub → nSub
open Int renaming reduceLT → zLT, reduceLE → zLE, reduceToNat → zNat
open Go.AM renaming ashift → qSh, aconv → qCv, aindexAddr → qIA, aindex → qIx, aslice → qSl, abuiltin → qBu
open Go.AM.AV renaming cells → qCe, one → qOn
set_option autoImplicit false
namespace Go.Proofs.Ytcnilmidfhpckaa
open Go Go.AM Go.Proofs

theorem RMsg1926 : type_of% (And.intro (And.intro (And.intro (And.intro (And.intro (And.intro (And.intro @Try.underlying3 (And.intro T.c3 T.g3)) (And.intro T.b3 (And.intro T.z3 @Try.underlying4))) (And.intro (And.intro T.c4 (And.intro T.g4 T.b4)) (And.intro T.z4 (And.intro @Try.underlying5 T.c5)))) (And.intro (And.intro (And.intro T.g5 (And.intro T.b5 T.z5)) (And.intro @Try.underlying9 (And.intro T.c9 T.g9))) (And.intro (And.intro T.b9 (And.intro T.z9 @Try.underlying28)) (And.intro (And.intro T.c28 T.g28) (And.intro T.b28 T.z28))))) (And.intro (And.intro (And.intro (And.intro T.s28 (And.intro @Try.underlying41 T.c41)) (And.intro T.g41 (And.intro T.b41 T.z41))) (And.intro (And.intro T.s41 (And.intro @Try.underlying42 T.c42)) (And.intro T.g42 (And.intro T.b42 T.z42)))) (And.intro (And.intro (And.intro @Try.underlying43 (And.intro T.c43 T.g43)) (And.intro T.b43 (And.intro T.z43 T.s43))) (And.intro (And.intro @Try.underlying45 (And.intro T.c45 T.g45)) (And.intro (And.intro T.b45 T.z45) (And.intro T.h45 @Try.underlying47)))))) (And.intro (And.intro (And.intro (And.intro (And.intro T.c47 (And.intro T.g47 T.b47)) (And.intro T.z47 (And.intro T.h47 @Try.underlying80))) (And.intro (And.intro T.c80 (And.intro T.g80 T.b80)) (And.intro T.z80 (And.intro T.h80 @Try.underlying83)))) (And.intro (And.intro (And.intro T.c83 (And.intro T.g83 T.b83)) (And.intro T.z83 (And.intro T.h83 @Try.underlying111))) (And.intro (And.intro T.c111 (And.intro T.g111 T.b111)) (And.intro (And.intro T.z111 T.p111) (And.intro @Try.underlying113 T.c113))))) (And.intro (And.intro (And.intro (And.intro T.g113 (And.intro T.b113 T.z113)) (And.intro T.h113 (And.intro T.f47_0 T.f47_1))) (And.intro (And.intro T.f47_2 (And.intro T.f47_3 T.f47_4)) (And.intro T.f47_5 (And.intro T.f47_6 T.f47_7)))) (And.intro (And.intro (And.intro T.f80_0 (And.intro T.f80_1 T.f80_2)) (And.intro T.f80_3 (And.intro T.f80_4 T.f113_0))) (And.intro (And.intro T.f113_1 (And.intro T.k72 T.k71)) (And.intro (And.intro T.k21 T.k70) (And.intro T.k73 T.k69))))))) Try.ntmps26) :=
  (And.intro (And.intro (And.intro (And.intro (And.intro (And.intro (And.intro @Try.underlying3 (And.intro T.c3 T.g3)) (And.intro T.b3 (And.intro T.z3 @Try.underlying4))) (And.intro (And.intro T.c4 (And.intro T.g4 T.b4)) (And.intro T.z4 (And.intro @Try.underlying5 T.c5)))) (And.intro (And.intro (And.intro T.g5 (And.intro T.b5 T.z5)) (And.intro @Try.underlying9 (And.intro T.c9 T.g9))) (And.intro (And.intro T.b9 (And.intro T.z9 @Try.underlying28)) (And.intro (And.intro T.c28 T.g28) (And.intro T.b28 T.z28))))) (And.intro (And.intro (And.intro (And.intro T.s28 (And.intro @Try.underlying41 T.c41)) (And.intro T.g41 (And.intro T.b41 T.z41))) (And.intro (And.intro T.s41 (And.intro @Try.underlying42 T.c42)) (And.intro T.g42 (And.intro T.b42 T.z42)))) (And.intro (And.intro (And.intro @Try.underlying43 (And.intro T.c43 T.g43)) (And.intro T.b43 (And.intro T.z43 T.s43))) (And.intro (And.intro @Try.underlying45 (And.intro T.c45 T.g45)) (And.intro (And.intro T.b45 T.z45) (And.intro T.h45 @Try.underlying47)))))) (And.intro (And.intro (And.intro (And.intro (And.intro T.c47 (And.intro T.g47 T.b47)) (And.intro T.z47 (And.intro T.h47 @Try.underlying80))) (And.intro (And.intro T.c80 (And.intro T.g80 T.b80)) (And.intro T.z80 (And.intro T.h80 @Try.underlying83)))) (And.intro (And.intro (And.intro T.c83 (And.intro T.g83 T.b83)) (And.intro T.z83 (And.intro T.h83 @Try.underlying111))) (And.intro (And.intro T.c111 (And.intro T.g111 T.b111)) (And.intro (And.intro T.z111 T.p111) (And.intro @Try.underlying113 T.c113))))) (And.intro (And.intro (And.intro (And.intro T.g113 (And.intro T.b113 T.z113)) (And.intro T.h113 (And.intro T.f47_0 T.f47_1))) (And.intro (And.intro T.f47_2 (And.intro T.f47_3 T.f47_4)) (And.intro T.f47_5 (And.intro T.f47_6 T.f47_7)))) (And.intro (And.intro (And.intro T.f80_0 (And.intro T.f80_1 T.f80_2)) (And.intro T.f80_3 (And.intro T.f80_4 T.f113_0))) (And.intro (And.intro T.f113_1 (And.intro T.k72 T.k71)) (And.intro (And.intro T.k21 T.k70) (And.intro T.k73 T.k69))))))) Try.ntmps26)

variable {Γ : Nat → List AV}

theorem gt_one {a : Nat} : ((1 : Int) < (a : Int)) = (1 < a) := by rw [eq_iff_iff]; omega
theorem gt_sixteen {a : Nat} : ((16 : Int) < (a : Int)) = (16 < a) := by rw [eq_iff_iff]; omega
theorem mRaw_err {b : List UInt8} {qp : List PropV × EyeSt} {qh : Nat × EyeSt} {qa : PathV × EyeSt} {qc qm : List UInt8 × EyeSt} (eh : qh = capR 1 qp.2) (ea : qa = pathIf qh.1 qh.2) (ec : qc = eyeText 1 32 qa.2) (em : qm = eyeText 1 32 qc.2) (h : eyeEnd qm.2 = 0) : qp.2.2 = 0 := by
  have h1 := (eyeEnd_zero h).1
  rw [em] at h1
  have h2 := (eyeText_zero h1).1
  rw [ec] at h2
  have h3 := (eyeText_zero h2).1
  have h4 : qh.2.2 = 0 := by
    rw [ea] at h3
    unfold pathIf at h3
    split at h3
    · exact (pathR_zero h3).1
    · exact h3
  rw [eh] at h4
  exact (capR_zero h4).1

set_option maxRecDepth 100000 in
set_option maxHeartbeats 16000000 in
theorem refMRead_calls (b : List UInt8) (hb : b.length ≤ 2 ^ 44) (s : AS) : ACalls Try.prog Γ 26 [.v (.string ⟨b.toArray⟩)] s (fun r s' => r = .tup [.agg (mRead b).1.cells, .v (.int .i64 (mRead b).2)] ∧ s' = s) := by
  refine acalls_body Try.func26 rfl Try.ntmps26 Try.results26 (by simp) ?_
  obtain ⟨q0, e0⟩ : ∃ q, q = headR b := ⟨_, rfl⟩
  obtain ⟨qg, eg⟩ : ∃ q, q = eyeText 1 16 q0 := ⟨_, rfl⟩
  obtain ⟨qe, ee⟩ : ∃ q, q = eyeNum 8 qg.2 := ⟨_, rfl⟩
  obtain ⟨qs, es⟩ : ∃ q, q = eyeNum 1 qe.2 := ⟨_, rfl⟩
  obtain ⟨qn, en⟩ : ∃ q, q = capR 16 qs.2 := ⟨_, rfl⟩
  obtain ⟨qp, ep⟩ : ∃ q, q = propsR qn.1 qn.2 := ⟨_, rfl⟩
  obtain ⟨qh, eh⟩ : ∃ q, q = capR 1 qp.2 := ⟨_, rfl⟩
  obtain ⟨qa, ea⟩ : ∃ q, q = pathIf qh.1 qh.2 := ⟨_, rfl⟩
  obtain ⟨qc, ec⟩ : ∃ q, q = eyeText 1 32 qa.2 := ⟨_, rfl⟩
  obtain ⟨qm, em⟩ : ∃ q, q = eyeText 1 32 qc.2 := ⟨_, rfl⟩
  have hcap : ∀ k st, (capR k st).2.1.length ≤ st.1.length := by
    intro k st
    unfold capR
    simp only
    split
    · exact eyeNum_len _ _
    · exact eyeNum_len _ _
  have hhead : (headR b).1.length ≤ b.length := by
    unfold headR
    split
    · exact eyeNum_len 1 (b, 0)
    · exact eyeNum_len 1 (b, 0)
  have l0 : q0.1.length ≤ 2 ^ 44 := by rw [e0]; exact Nat.le_trans hhead hb
  have lg : qg.2.1.length ≤ 2 ^ 44 := by rw [eg]; exact Nat.le_trans (eyeText_len _ _ _).2 l0
  have le : qe.2.1.length ≤ 2 ^ 44 := by rw [ee]; exact Nat.le_trans (eyeNum_len _ _) lg
  have ls : qs.2.1.length ≤ 2 ^ 44 := by rw [es]; exact Nat.le_trans (eyeNum_len _ _) le
  have ln : qn.2.1.length ≤ 2 ^ 44 := by rw [en]; exact Nat.le_trans (hcap _ _) ls
  have lp : qp.2.1.length ≤ 2 ^ 44 := by rw [ep]; exact Nat.le_trans (propsR_left _ _) ln
  have lh : qh.2.1.length ≤ 2 ^ 44 := by rw [eh]; exact Nat.le_trans (hcap _ _) lp
  have la : qa.2.1.length ≤ 2 ^ 44 := by
    rw [ea]; unfold pathIf; split
    · exact Nat.le_trans (pathR_left _) lh
    · exact lh
  have lc : qc.2.1.length ≤ 2 ^ 44 := by rw [ec]; exact Nat.le_trans (eyeText_len _ _ _).2 la
  have kn : qn.1 < 256 := by rw [en]; exact eyeNum1_lt _
  have ks : qs.1 < 256 := by rw [es]; exact eyeNum1_lt _
  have ke : qe.1 < 2 ^ 64 := by rw [ee]; exact eyeNum8_lt _
  have hrr : mRaw b = (⟨qg.1, iconv .i64 (qe.1 : Int), qs.1, qp.1, decide (qh.1 = 1), qa.1, qc.1, qm.1⟩, qm.2) := by subst em ec ea eh ep en es ee eg e0; rfl
  have hwf := mRaw_wf b
  rw [hrr] at hwf
  simp only at hwf
  refine awp_reg_seq ?_
  intro K hK
  simp only [↓DN, UP, DF, qSh, qCv, qIA, qIx, qSl, qBu, qCe, qOn, reduceCtorEq, ↓reduceIte, nLT, nLE, nEQ, nAdd, nMul, nPow, nSub, zLT, zLE, zNat, RMsg1926]
  intro o2 ho2
  refine hK _ _ ?_
  clear hK K
  refine awp_reg_seq ?_
  intro K hK
  simp only [↓DN, UP, DF, qSh, qCv, qIA, qIx, qSl, qBu, qCe, qOn, reduceCtorEq, ↓reduceIte, nLT, nLE, nEQ, nAdd, nMul, nPow, nSub, zLT, zLE, zNat, RMsg1926]
  intro p hp
  refine hK _ _ ?_
  clear hK K
  obtain ⟨hp2, hp0⟩ := AS.fresh_set hp
  obtain ⟨z, hz⟩ : ∃ z : List AV, z = [.v (.slice none 0 0), .v (.int .i64 0), .v (.int .i64 0), .v (.slice none 0 0), .v (.bool false), .v (.int .u64 0), .v (.slice none 0 0), .v (.slice none 0 0), .v (.slice none 0 0), .v (.slice none 0 0)] := ⟨_, rfl⟩
  rw [← hz]
  refine awp_seq_k ?_
  intro K1 hK1
  have h1 : ∀ (E : Env), E 4 = .ptr p 0 → E 2 = .ptr o2 0 → K1 E ((s.set o2 z).set p (reyeC q0)) := by
    intro E g4 g2
    refine hK1 _ _ ?_
    clear hK1 K1
    refine awp_reg_seq ?_
    intro K hK
    simp only [↓DN, UP, DF, qSh, qCv, qIA, qIx, qSl, qBu, qCe, qOn, reduceCtorEq, ↓reduceIte, nLT, nLE, nEQ, nAdd, nMul, nPow, nSub, zLT, zLE, zNat, RMsg1926]
    intro o5 ho5
    have h5p : o5 ≠ p := by
      rintro rfl
      simp at ho5
    have h52 : o5 ≠ o2 := by
      rintro rfl
      simp [hp2.symm] at ho5
    have h50 : s.objs o5 = none := by simpa [h5p, h52] using ho5
    refine hK _ _ ?_
    clear hK K
    have J : RdS (s.set p (reyeC (b, 0))) (((s.set o2 z).set p (reyeC q0)).set o5 z) p o2 o5 (reyeC q0) z z := by
      refine ⟨?_, ?_, ?_, AS.set_objs_same _ _ _, ?_, ?_, hp2, h5p.symm, h52.symm⟩
      · rw [AS.drop_set hp0]
        exact AS.le_set (AS.le_set (AS.le_set (AS.le.refl s) ho2 _) hp0 _) h50 _
      · rw [AS.set_objs_ne _ h5p.symm, AS.set_objs_same]
      · rw [AS.set_objs_ne _ h52.symm, AS.set_objs_ne _ hp2.symm, AS.set_objs_same]
      · rw [AS.set_objs_ne _ hp2.symm]; exact ho2
      · rw [AS.set_objs_ne _ h5p]; exact h50
    refine (fun (k : ∀ (E : Env) (s1 : AS), E 4 = .ptr p 0 → E 2 = .ptr o2 0 → E 5 = .ptr o5 0 → RdS (s.set p (reyeC (b, 0))) s1 p o2 o5 (reyeC q0) z z → _) => k _ _ (by simp only [upd, g4, nEQ, ↓reduceIte]) (by simp only [upd, g2, nEQ, ↓reduceIte]) (by simp only [upd, nEQ, ↓reduceIte]) (by rw [hz] at J ⊢; exact J)) ?_
    clear J g4 g2 E
    intro E s1 g4 g2 g5 J
    have jp := J.p3
    have jp2 := J.p3.symm
    have jv := J.var
    rw [hz] at jv
    refine awp_reg_seq ?_
    intro K hK
    simp only [↓DN, UP, DF, qSh, qCv, qIA, qIx, qSl, qBu, qCe, qOn, reduceCtorEq, ↓reduceIte, nLT, nLE, nEQ, nAdd, nMul, nPow, nSub, zLT, zLE, zNat, RMsg1926, g4]
    refine acallk (reyeText_set _ p _ 1 16 (by omega) (by omega) J.eye) ?_
    rintro r s2 ⟨rfl, rfl⟩
    rw [← eg]
    simp only [↓AXq_nil, ↓AXq_cons, pval, DX, Nat.reduceBEq, ↓DN, UP, DF, qSh, qCv, qIA, qIx, qSl, qBu, qCe, qOn, reduceCtorEq, ↓reduceIte, nLT, nLE, nEQ, nAdd, nMul, nPow, nSub, zLT, zLE, zNat, RMsg1926, g5, jv, jp, jp2]
    refine hK _ _ ?_
    clear hK K
    replace J := (J.setEye (reyeC qg.2)).setVar [.sl 1 qg.1.length (qg.1.map byteV) .no, .v (.int .i64 0), .v (.int .i64 0), .v (.slice none 0 0), .v (.bool false), .v (.int .u64 0), .v (.slice none 0 0), .v (.slice none 0 0), .v (.slice none 0 0), .v (.slice none 0 0)]
    generalize (s1.set p (reyeC qg.2)).set o5 [.sl 1 qg.1.length (qg.1.map byteV) .no, .v (.int .i64 0), .v (.int .i64 0), .v (.slice none 0 0), .v (.bool false), .v (.int .u64 0), .v (.slice none 0 0), .v (.slice none 0 0), .v (.slice none 0 0), .v (.slice none 0 0)] = s1 at *
    refine awp_tells (AS.tells_obj (cs' := [.sl 1 qg.1.length (qg.1.map byteV) .any, .v (.int .i64 0), .v (.int .i64 0), .v (.slice none 0 0), .v (.bool false), .v (.int .u64 0), .v (.slice none 0 0), .v (.slice none 0 0), .v (.slice none 0 0), .v (.slice none 0 0)]) J.var (.cons AV.weak_any (AVs.weak.refl _))) ?_
    replace J := J.setVar [.sl 1 qg.1.length (qg.1.map byteV) .any, .v (.int .i64 0), .v (.int .i64 0), .v (.slice none 0 0), .v (.bool false), .v (.int .u64 0), .v (.slice none 0 0), .v (.slice none 0 0), .v (.slice none 0 0), .v (.slice none 0 0)]
    generalize s1.set o5 [.sl 1 qg.1.length (qg.1.map byteV) .any, .v (.int .i64 0), .v (.int .i64 0), .v (.slice none 0 0), .v (.bool false), .v (.int .u64 0), .v (.slice none 0 0), .v (.slice none 0 0), .v (.slice none 0 0), .v (.slice none 0 0)] = s1 at *
    clear jv
    have jv := J.var
    refine awp_reg_seq ?_
    intro K hK
    simp only [↓DN, UP, DF, qSh, qCv, qIA, qIx, qSl, qBu, qCe, qOn, reduceCtorEq, ↓reduceIte, nLT, nLE, nEQ, nAdd, nMul, nPow, nSub, zLT, zLE, zNat, RMsg1926, g4]
    refine acallk (reyeNumber_set _ p _ 8 (by omega) (by omega) J.eye) ?_
    rintro r s2 ⟨rfl, rfl⟩
    rw [← ee]
    simp only [↓AXq_nil, ↓AXq_cons, pval, DX, Nat.reduceBEq, ↓DN, UP, DF, qSh, qCv, qIA, qIx, qSl, qBu, qCe, qOn, reduceCtorEq, ↓reduceIte, nLT, nLE, nEQ, nAdd, nMul, nPow, nSub, zLT, zLE, zNat, RMsg1926, g5, jv, jp, jp2]
    refine hK _ _ ?_
    clear hK K
    replace J := (J.setEye (reyeC qe.2)).setVar [.sl 1 qg.1.length (qg.1.map byteV) .any, .v (.int .i64 (iconv .i64 (qe.1 : Int))), .v (.int .i64 0), .v (.slice none 0 0), .v (.bool false), .v (.int .u64 0), .v (.slice none 0 0), .v (.slice none 0 0), .v (.slice none 0 0), .v (.slice none 0 0)]
    generalize (s1.set p (reyeC qe.2)).set o5 [.sl 1 qg.1.length (qg.1.map byteV) .any, .v (.int .i64 (iconv .i64 (qe.1 : Int))), .v (.int .i64 0), .v (.slice none 0 0), .v (.bool false), .v (.int .u64 0), .v (.slice none 0 0), .v (.slice none 0 0), .v (.slice none 0 0), .v (.slice none 0 0)] = s1 at *
    clear jv
    have jv := J.var
    refine awp_reg_seq ?_
    intro K hK
    simp only [↓DN, UP, DF, qSh, qCv, qIA, qIx, qSl, qBu, qCe, qOn, reduceCtorEq, ↓reduceIte, nLT, nLE, nEQ, nAdd, nMul, nPow, nSub, zLT, zLE, zNat, RMsg1926, g4]
    refine acallk (reyeNumber_set _ p _ 1 (by omega) (by omega) J.eye) ?_
    rintro r s2 ⟨rfl, rfl⟩
    rw [← es]
    simp only [↓AXq_nil, ↓AXq_cons, pval, DX, Nat.reduceBEq, ↓DN, UP, DF, qSh, qCv, qIA, qIx, qSl, qBu, qCe, qOn, reduceCtorEq, ↓reduceIte, nLT, nLE, nEQ, nAdd, nMul, nPow, nSub, zLT, zLE, zNat, RMsg1926, g5, jv, jp, jp2, i64_conv (show qs.1 < 2 ^ 62 by omega)]
    refine hK _ _ ?_
    clear hK K
    replace J := (J.setEye (reyeC qs.2)).setVar [.sl 1 qg.1.length (qg.1.map byteV) .any, .v (.int .i64 (iconv .i64 (qe.1 : Int))), .v (.int .i64 qs.1), .v (.slice none 0 0), .v (.bool false), .v (.int .u64 0), .v (.slice none 0 0), .v (.slice none 0 0), .v (.slice none 0 0), .v (.slice none 0 0)]
    generalize (s1.set p (reyeC qs.2)).set o5 [.sl 1 qg.1.length (qg.1.map byteV) .any, .v (.int .i64 (iconv .i64 (qe.1 : Int))), .v (.int .i64 qs.1), .v (.slice none 0 0), .v (.bool false), .v (.int .u64 0), .v (.slice none 0 0), .v (.slice none 0 0), .v (.slice none 0 0), .v (.slice none 0 0)] = s1 at *
    clear jv
    refine awp_reg_seq ?_
    intro K hK
    simp only [↓DN, UP, DF, qSh, qCv, qIA, qIx, qSl, qBu, qCe, qOn, reduceCtorEq, ↓reduceIte, nLT, nLE, nEQ, nAdd, nMul, nPow, nSub, zLT, zLE, zNat, RMsg1926, g4]
    refine acallk (reyeNumber_set _ p _ 1 (by omega) (by omega) J.eye) ?_
    rintro r s2 ⟨rfl, rfl⟩
    have hn1 : (eyeNum 1 qs.2).1 = qn.1 := by rw [en]; rfl
    rw [hn1]
    simp only [↓AXq_nil, ↓AXq_cons, pval, DX, Nat.reduceBEq, ↓DN, UP, DF, qSh, qCv, qIA, qIx, qSl, qBu, qCe, qOn, reduceCtorEq, ↓reduceIte, nLT, nLE, nEQ, nAdd, nMul, nPow, nSub, zLT, zLE, zNat, RMsg1926, i64_conv (show qn.1 < 2 ^ 62 by omega)]
    refine hK _ _ ?_
    clear hK K
    replace J := J.setEye (reyeC (eyeNum 1 qs.2).2)
    generalize s1.set p (reyeC (eyeNum 1 qs.2).2) = s1 at *
    refine awp_seq_k ?_
    intro K9 hK9
    have h9 : ∀ (E : Env) (s1 : AS), E 4 = .ptr p 0 → E 2 = .ptr o2 0 → E 5 = .ptr o5 0 → E 6 = .v (.int .i64 qn.1) → RdS (s.set p (reyeC (b, 0))) s1 p o2 o5 (reyeC qn.2) z [.sl 1 qg.1.length (qg.1.map byteV) .any, .v (.int .i64 (iconv .i64 (qe.1 : Int))), .v (.int .i64 qs.1), .v (.slice none 0 0), .v (.bool false), .v (.int .u64 0), .v (.slice none 0 0), .v (.slice none 0 0), .v (.slice none 0 0), .v (.slice none 0 0)] → K9 E s1 := by
      clear J g4 g2 g5 E s1
      intro E s1 g4 g2 g5 g6 J
      refine hK9 _ _ ?_
      clear hK9 K9
      refine awp_seq_k ?_
      intro K2 hK2
      have h2 : ∀ (E : Env) (s1 : AS) (x : AV) (L : List PropV), (qp.2.2 = 0 → L = qp.1) → E 4 = .ptr p 0 → E 2 = .ptr o2 0 → E 5 = .ptr o5 0 → RBuf 5 (s.set p (reyeC (b, 0))) s1 x L.length (rowC PropV.cells L) → RdS (s.set p (reyeC (b, 0))) s1 p o2 o5 (reyeC qp.2) z [.sl 1 qg.1.length (qg.1.map byteV) .any, .v (.int .i64 (iconv .i64 (qe.1 : Int))), .v (.int .i64 qs.1), x, .v (.bool false), .v (.int .u64 0), .v (.slice none 0 0), .v (.slice none 0 0), .v (.slice none 0 0), .v (.slice none 0 0)] → K2 E s1 := by
        clear J g4 g2 g5 g6 E s1
        intro E s1 x L hL g4 g2 g5 hx J
        refine hK2 _ _ ?_
        clear hK2 K2
        refine awp_tells (AS.tells_obj (cs' := [.sl 1 qg.1.length (qg.1.map byteV) .any, .v (.int .i64 (iconv .i64 (qe.1 : Int))), .v (.int .i64 qs.1), .sl 5 L.length (rowC PropV.cells L) .any, .v (.bool false), .v (.int .u64 0), .v (.slice none 0 0), .v (.slice none 0 0), .v (.slice none 0 0), .v (.slice none 0 0)]) J.var (.cons (AV.weak.refl _) (.cons (AV.weak.refl _) (.cons (AV.weak.refl _) (.cons hx.weak (AVs.weak.refl _)))))) ?_
        replace J := J.setVar [.sl 1 qg.1.length (qg.1.map byteV) .any, .v (.int .i64 (iconv .i64 (qe.1 : Int))), .v (.int .i64 qs.1), .sl 5 L.length (rowC PropV.cells L) .any, .v (.bool false), .v (.int .u64 0), .v (.slice none 0 0), .v (.slice none 0 0), .v (.slice none 0 0), .v (.slice none 0 0)]
        generalize s1.set o5 [.sl 1 qg.1.length (qg.1.map byteV) .any, .v (.int .i64 (iconv .i64 (qe.1 : Int))), .v (.int .i64 qs.1), .sl 5 L.length (rowC PropV.cells L) .any, .v (.bool false), .v (.int .u64 0), .v (.slice none 0 0), .v (.slice none 0 0), .v (.slice none 0 0), .v (.slice none 0 0)] = s1 at *
        clear hx x
        have hh1 : (eyeNum 1 qp.2).1 = qh.1 := by rw [eh]; rfl
        refine awp_reg_seq ?_
        intro K hK
        simp only [↓DN, UP, DF, qSh, qCv, qIA, qIx, qSl, qBu, qCe, qOn, reduceCtorEq, ↓reduceIte, nLT, nLE, nEQ, nAdd, nMul, nPow, nSub, zLT, zLE, zNat, RMsg1926, g4]
        refine acallk (reyeNumber_set _ p _ 1 (by omega) (by omega) J.eye) ?_
        rintro r s2 ⟨rfl, rfl⟩
        rw [hh1]
        simp only [↓AXq_nil, ↓AXq_cons, pval, DX, Nat.reduceBEq, ↓DN, UP, DF, qSh, qCv, qIA, qIx, qSl, qBu, qCe, qOn, reduceCtorEq, ↓reduceIte, nLT, nLE, nEQ, nAdd, nMul, nPow, nSub, zLT, zLE, zNat, RMsg1926]
        refine hK _ _ ?_
        clear hK K
        replace J := J.setEye (reyeC (eyeNum 1 qp.2).2)
        generalize s1.set p (reyeC (eyeNum 1 qp.2).2) = s1 at *
        refine awp_seq_k ?_
        intro K5 hK5
        have h5 : ∀ (E : Env) (s1 : AS), E 4 = .ptr p 0 → E 2 = .ptr o2 0 → E 5 = .ptr o5 0 → E 9 = .v (.int .u64 qh.1) → RdS (s.set p (reyeC (b, 0))) s1 p o2 o5 (reyeC qh.2) z [.sl 1 qg.1.length (qg.1.map byteV) .any, .v (.int .i64 (iconv .i64 (qe.1 : Int))), .v (.int .i64 qs.1), .sl 5 L.length (rowC PropV.cells L) .any, .v (.bool false), .v (.int .u64 0), .v (.slice none 0 0), .v (.slice none 0 0), .v (.slice none 0 0), .v (.slice none 0 0)] → K5 E s1 := by
          clear J g4 g2 g5 E s1
          intro E s1 g4 g2 g5 g9 J
          refine hK5 _ _ ?_
          clear hK5 K5
          refine awp_seq_k ?_
          intro K3 hK3
          have h3 : ∀ (E : Env) (s1 : AS) (c1 c2 c3 : AV), AVs.weak [c1, c2, c3] qa.1.cells → E 4 = .ptr p 0 → E 2 = .ptr o2 0 → E 5 = .ptr o5 0 → RdS (s.set p (reyeC (b, 0))) s1 p o2 o5 (reyeC qa.2) z [.sl 1 qg.1.length (qg.1.map byteV) .any, .v (.int .i64 (iconv .i64 (qe.1 : Int))), .v (.int .i64 qs.1), .sl 5 L.length (rowC PropV.cells L) .any, .v (.bool (decide (qh.1 = 1))), c1, c2, c3, .v (.slice none 0 0), .v (.slice none 0 0)] → K3 E s1 := by
            clear J g4 g2 g5 g9 E s1
            intro E s1 c1 c2 c3 hw g4 g2 g5 J
            refine hK3 _ _ ?_
            clear hK3 K3
            refine awp_tells (AS.tells_obj (cs' := [.sl 1 qg.1.length (qg.1.map byteV) .any, .v (.int .i64 (iconv .i64 (qe.1 : Int))), .v (.int .i64 qs.1), .sl 5 L.length (rowC PropV.cells L) .any, .v (.bool (decide (qh.1 = 1))), .v (.int .u64 qa.1.key), .sl 1 qa.1.parent.length (qa.1.parent.map byteV) .any, .sl 2 qa.1.steps.length (rowC StepV.cells qa.1.steps) .any, .v (.slice none 0 0), .v (.slice none 0 0)]) J.var (.cons (AV.weak.refl _) (.cons (AV.weak.refl _) (.cons (AV.weak.refl _) (.cons (AV.weak.refl _) (.cons (AV.weak.refl _) (AVs.weak.append (a := [c1, c2, c3]) (c := qa.1.cells) hw (AVs.weak.refl [.v (.slice none 0 0), .v (.slice none 0 0)])))))))) ?_
            replace J := J.setVar [.sl 1 qg.1.length (qg.1.map byteV) .any, .v (.int .i64 (iconv .i64 (qe.1 : Int))), .v (.int .i64 qs.1), .sl 5 L.length (rowC PropV.cells L) .any, .v (.bool (decide (qh.1 = 1))), .v (.int .u64 qa.1.key), .sl 1 qa.1.parent.length (qa.1.parent.map byteV) .any, .sl 2 qa.1.steps.length (rowC StepV.cells qa.1.steps) .any, .v (.slice none 0 0), .v (.slice none 0 0)]
            generalize s1.set o5 [.sl 1 qg.1.length (qg.1.map byteV) .any, .v (.int .i64 (iconv .i64 (qe.1 : Int))), .v (.int .i64 qs.1), .sl 5 L.length (rowC PropV.cells L) .any, .v (.bool (decide (qh.1 = 1))), .v (.int .u64 qa.1.key), .sl 1 qa.1.parent.length (qa.1.parent.map byteV) .any, .sl 2 qa.1.steps.length (rowC StepV.cells qa.1.steps) .any, .v (.slice none 0 0), .v (.slice none 0 0)] = s1 at *
            clear hw c1 c2 c3
            have jv := J.var
            have jp := J.p3
            have jp2 := J.p3.symm
            refine awp_reg_seq ?_
            intro K hK
            simp only [↓DN, UP, DF, qSh, qCv, qIA, qIx, qSl, qBu, qCe, qOn, reduceCtorEq, ↓reduceIte, nLT, nLE, nEQ, nAdd, nMul, nPow, nSub, zLT, zLE, zNat, RMsg1926, g4]
            refine acallk (reyeText_set _ p _ 1 32 (by omega) (by omega) J.eye) ?_
            rintro r s2 ⟨rfl, rfl⟩
            rw [← ec]
            simp only [↓AXq_nil, ↓AXq_cons, pval, DX, Nat.reduceBEq, ↓DN, UP, DF, qSh, qCv, qIA, qIx, qSl, qBu, qCe, qOn, reduceCtorEq, ↓reduceIte, nLT, nLE, nEQ, nAdd, nMul, nPow, nSub, zLT, zLE, zNat, RMsg1926, g5, jv, jp, jp2]
            refine hK _ _ ?_
            clear hK K
            replace J := (J.setEye (reyeC qc.2)).setVar [.sl 1 qg.1.length (qg.1.map byteV) .any, .v (.int .i64 (iconv .i64 (qe.1 : Int))), .v (.int .i64 qs.1), .sl 5 L.length (rowC PropV.cells L) .any, .v (.bool (decide (qh.1 = 1))), .v (.int .u64 qa.1.key), .sl 1 qa.1.parent.length (qa.1.parent.map byteV) .any, .sl 2 qa.1.steps.length (rowC StepV.cells qa.1.steps) .any, .sl 1 qc.1.length (qc.1.map byteV) .no, .v (.slice none 0 0)]
            generalize (s1.set p (reyeC qc.2)).set o5 [.sl 1 qg.1.length (qg.1.map byteV) .any, .v (.int .i64 (iconv .i64 (qe.1 : Int))), .v (.int .i64 qs.1), .sl 5 L.length (rowC PropV.cells L) .any, .v (.bool (decide (qh.1 = 1))), .v (.int .u64 qa.1.key), .sl 1 qa.1.parent.length (qa.1.parent.map byteV) .any, .sl 2 qa.1.steps.length (rowC StepV.cells qa.1.steps) .any, .sl 1 qc.1.length (qc.1.map byteV) .no, .v (.slice none 0 0)] = s1 at *
            clear jv
            have jv := J.var
            refine awp_reg_seq ?_
            intro K hK
            simp only [↓DN, UP, DF, qSh, qCv, qIA, qIx, qSl, qBu, qCe, qOn, reduceCtorEq, ↓reduceIte, nLT, nLE, nEQ, nAdd, nMul, nPow, nSub, zLT, zLE, zNat, RMsg1926, g4]
            refine acallk (reyeText_set _ p _ 1 32 (by omega) (by omega) J.eye) ?_
            rintro r s2 ⟨rfl, rfl⟩
            rw [← em]
            simp only [↓AXq_nil, ↓AXq_cons, pval, DX, Nat.reduceBEq, ↓DN, UP, DF, qSh, qCv, qIA, qIx, qSl, qBu, qCe, qOn, reduceCtorEq, ↓reduceIte, nLT, nLE, nEQ, nAdd, nMul, nPow, nSub, zLT, zLE, zNat, RMsg1926, g5, jv, jp, jp2]
            refine hK _ _ ?_
            clear hK K
            replace J := (J.setEye (reyeC qm.2)).setVar [.sl 1 qg.1.length (qg.1.map byteV) .any, .v (.int .i64 (iconv .i64 (qe.1 : Int))), .v (.int .i64 qs.1), .sl 5 L.length (rowC PropV.cells L) .any, .v (.bool (decide (qh.1 = 1))), .v (.int .u64 qa.1.key), .sl 1 qa.1.parent.length (qa.1.parent.map byteV) .any, .sl 2 qa.1.steps.length (rowC StepV.cells qa.1.steps) .any, .sl 1 qc.1.length (qc.1.map byteV) .no, .sl 1 qm.1.length (qm.1.map byteV) .no]
            generalize (s1.set p (reyeC qm.2)).set o5 [.sl 1 qg.1.length (qg.1.map byteV) .any, .v (.int .i64 (iconv .i64 (qe.1 : Int))), .v (.int .i64 qs.1), .sl 5 L.length (rowC PropV.cells L) .any, .v (.bool (decide (qh.1 = 1))), .v (.int .u64 qa.1.key), .sl 1 qa.1.parent.length (qa.1.parent.map byteV) .any, .sl 2 qa.1.steps.length (rowC StepV.cells qa.1.steps) .any, .sl 1 qc.1.length (qc.1.map byteV) .no, .sl 1 qm.1.length (qm.1.map byteV) .no] = s1 at *
            clear jv
            refine awp_tells (AS.tells_obj (cs' := [.sl 1 qg.1.length (qg.1.map byteV) .any, .v (.int .i64 (iconv .i64 (qe.1 : Int))), .v (.int .i64 qs.1), .sl 5 L.length (rowC PropV.cells L) .any, .v (.bool (decide (qh.1 = 1))), .v (.int .u64 qa.1.key), .sl 1 qa.1.parent.length (qa.1.parent.map byteV) .any, .sl 2 qa.1.steps.length (rowC StepV.cells qa.1.steps) .any, .sl 1 qc.1.length (qc.1.map byteV) .any, .sl 1 qm.1.length (qm.1.map byteV) .any]) J.var (.cons (AV.weak.refl _) (.cons (AV.weak.refl _) (.cons (AV.weak.refl _) (.cons (AV.weak.refl _) (.cons (AV.weak.refl _) (.cons (AV.weak.refl _) (.cons (AV.weak.refl _) (.cons (AV.weak.refl _) (.cons AV.weak_any (.cons AV.weak_any .nil))))))))))) ?_
            have J2 := J.setVar [.sl 1 qg.1.length (qg.1.map byteV) .any, .v (.int .i64 (iconv .i64 (qe.1 : Int))), .v (.int .i64 qs.1), .sl 5 L.length (rowC PropV.cells L) .any, .v (.bool (decide (qh.1 = 1))), .v (.int .u64 qa.1.key), .sl 1 qa.1.parent.length (qa.1.parent.map byteV) .any, .sl 2 qa.1.steps.length (rowC StepV.cells qa.1.steps) .any, .sl 1 qc.1.length (qc.1.map byteV) .any, .sl 1 qm.1.length (qm.1.map byteV) .any]
            generalize s1.set o5 [.sl 1 qg.1.length (qg.1.map byteV) .any, .v (.int .i64 (iconv .i64 (qe.1 : Int))), .v (.int .i64 qs.1), .sl 5 L.length (rowC PropV.cells L) .any, .v (.bool (decide (qh.1 = 1))), .v (.int .u64 qa.1.key), .sl 1 qa.1.parent.length (qa.1.parent.map byteV) .any, .sl 2 qa.1.steps.length (rowC StepV.cells qa.1.steps) .any, .sl 1 qc.1.length (qc.1.map byteV) .any, .sl 1 qm.1.length (qm.1.map byteV) .any] = s2 at *
            clear J
            have jv := J2.var
            have jr := J2.res
            have jd := J2.d
            have jd2 := J2.d.symm
            rw [hz] at jr
            have hout : ∀ (c : List AV), s.le (s2.set o2 c) := by
              intro c
              have := (J2.setRes c).le
              rwa [AS.drop_set hp0] at this
            refine awp_seq_k ?_
            intro K4 hK4
            refine awp_reg_seq ?_
            intro K hK
            simp only [↓DN, UP, DF, qSh, qCv, qIA, qIx, qSl, qBu, qCe, qOn, reduceCtorEq, ↓reduceIte, nLT, nLE, nEQ, nAdd, nMul, nPow, nSub, zLT, zLE, zNat, RMsg1926, g4]
            refine acallk (reyeEnd_at _ p _ J2.eye) ?_
            rintro r s3 ⟨rfl, rfl⟩
            by_cases he : eyeEnd qm.2 = 0
            · obtain rfl : L = qp.1 := hL (mRaw_err (b := b) eh ea ec em he)
              simp only [↓AXq_nil, ↓AXq_cons, pval, DX, Nat.reduceBEq, ↓DN, UP, DF, qSh, qCv, qIA, qIx, qSl, qBu, qCe, qOn, reduceCtorEq, ↓reduceIte, nLT, nLE, nEQ, nAdd, nMul, nPow, nSub, zLT, zLE, zNat, RMsg1926, he, i64_ne_false 0 rfl]
              refine hK _ _ ?_
              clear hK K
              refine awp_cond_k ?_
              intro X Y hX hY
              simp only [↓DN, UP, DF, qSh, qCv, qIA, qIx, qSl, qBu, qCe, qOn, reduceCtorEq, ↓reduceIte, nLT, nLE, nEQ, nAdd, nMul, nPow, nSub, zLT, zLE, zNat, RMsg1926, DB]
              refine hY ?_
              clear hX hY X Y
              refine awp_skip ?_
              refine hK4 _ _ ?_
              clear hK4 K4
              refine awp_seq_k ?_
              intro K6 hK6
              refine awp_reg_seq ?_
              intro K hK
              simp only [↓DN, UP, DF, qSh, qCv, qIA, qIx, qSl, qBu, qCe, qOn, reduceCtorEq, ↓reduceIte, nLT, nLE, nEQ, nAdd, nMul, nPow, nSub, zLT, zLE, zNat, RMsg1926, g5, jv]
              refine acallk (refMRight_calls ⟨qg.1, iconv .i64 (qe.1 : Int), qs.1, qp.1, decide (qh.1 = 1), qa.1, qc.1, qm.1⟩ hwf _) ?_
              rintro r s4 ⟨rfl, rfl⟩
              by_cases hr : CommitV.right ⟨qg.1, iconv .i64 (qe.1 : Int), qs.1, qp.1, decide (qh.1 = 1), qa.1, qc.1, qm.1⟩
              · rw [decide_eq_true hr]
                simp only [↓AXq_nil, ↓AXq_cons, pval, DX, Nat.reduceBEq, ↓DN, UP, DF, qSh, qCv, qIA, qIx, qSl, qBu, qCe, qOn, reduceCtorEq, ↓reduceIte, nLT, nLE, nEQ, nAdd, nMul, nPow, nSub, zLT, zLE, zNat, RMsg1926]
                refine hK _ _ ?_
                clear hK K
                refine awp_cond_k ?_
                intro X Y hX hY
                simp only [↓DN, UP, DF, qSh, qCv, qIA, qIx, qSl, qBu, qCe, qOn, reduceCtorEq, ↓reduceIte, nLT, nLE, nEQ, nAdd, nMul, nPow, nSub, zLT, zLE, zNat, RMsg1926, DB]
                refine hY ?_
                clear hX hY X Y
                refine awp_skip ?_
                refine hK6 _ _ ?_
                clear hK6 K6
                refine awp_reg_seq ?_
                intro K hK
                simp only [↓DN, UP, DF, qSh, qCv, qIA, qIx, qSl, qBu, qCe, qOn, reduceCtorEq, ↓reduceIte, nLT, nLE, nEQ, nAdd, nMul, nPow, nSub, zLT, zLE, zNat, RMsg1926, g5, g2, jv, jr, jd, jd2]
                refine hK _ _ ?_
                clear hK K
                refine awp_ret ?_
                refine aends_cell_tmp (o := o2) (off := 0) (by simp only [upd, g2, nEQ, ↓reduceIte]) (AS.set_objs_same _ _ _) (by rw [T.c47]; decide) (by simp only [↓DN, UP, DF, qSh, qCv, qIA, qIx, qSl, qBu, qCe, qOn, reduceCtorEq, ↓reduceIte, nLT, nLE, nEQ, nAdd, nMul, nPow, nSub, zLT, zLE, zNat, RMsg1926]; rfl) ?_
                rw [show mRead b = (⟨qg.1, iconv .i64 (qe.1 : Int), qs.1, qp.1, decide (qh.1 = 1), qa.1, qc.1, qm.1⟩, 0) from by unfold mRead; rw [hrr]; exact (if_pos he).trans (if_pos hr)]
                exact ⟨_, s, AV.weak.refl _, hout _, rfl, rfl⟩
              · rw [decide_eq_false hr]
                simp only [↓AXq_nil, ↓AXq_cons, pval, DX, Nat.reduceBEq, ↓DN, UP, DF, qSh, qCv, qIA, qIx, qSl, qBu, qCe, qOn, reduceCtorEq, ↓reduceIte, nLT, nLE, nEQ, nAdd, nMul, nPow, nSub, zLT, zLE, zNat, RMsg1926]
                refine hK _ _ ?_
                clear hK K
                refine awp_cond_k ?_
                intro X Y hX hY
                simp only [↓DN, UP, DF, qSh, qCv, qIA, qIx, qSl, qBu, qCe, qOn, reduceCtorEq, ↓reduceIte, nLT, nLE, nEQ, nAdd, nMul, nPow, nSub, zLT, zLE, zNat, RMsg1926, DB]
                refine hX ?_
                clear hX hY X Y
                refine awp_reg_seq ?_
                intro K hK
                simp only [↓DN, UP, DF, qSh, qCv, qIA, qIx, qSl, qBu, qCe, qOn, reduceCtorEq, ↓reduceIte, nLT, nLE, nEQ, nAdd, nMul, nPow, nSub, zLT, zLE, zNat, RMsg1926, g2, jr]
                refine hK _ _ ?_
                clear hK K
                refine awp_ret ?_
                try simp only [thenQ, blockQ]
                refine aends_cell_tmp (o := o2) (off := 0) (by simp only [upd, g2, nEQ, ↓reduceIte]) (AS.set_objs_same _ _ _) (by rw [T.c47]; decide) (by simp only [↓DN, UP, DF, qSh, qCv, qIA, qIx, qSl, qBu, qCe, qOn, reduceCtorEq, ↓reduceIte, nLT, nLE, nEQ, nAdd, nMul, nPow, nSub, zLT, zLE, zNat, RMsg1926]; rfl) ?_
                rw [show mRead b = (noCommit, 12) from by unfold mRead; rw [hrr]; exact (if_pos he).trans (if_neg hr)]
                exact ⟨_, s, AV.weak_tup2 noCommit_weak (AV.weak.refl _), hout _, rfl, rfl⟩
            · simp only [↓AXq_nil, ↓AXq_cons, pval, DX, Nat.reduceBEq, ↓DN, UP, DF, qSh, qCv, qIA, qIx, qSl, qBu, qCe, qOn, reduceCtorEq, ↓reduceIte, nLT, nLE, nEQ, nAdd, nMul, nPow, nSub, zLT, zLE, zNat, RMsg1926, i64_ne_true _ he]
              refine hK _ _ ?_
              clear hK K
              refine awp_cond_k ?_
              intro X Y hX hY
              simp only [↓DN, UP, DF, qSh, qCv, qIA, qIx, qSl, qBu, qCe, qOn, reduceCtorEq, ↓reduceIte, nLT, nLE, nEQ, nAdd, nMul, nPow, nSub, zLT, zLE, zNat, RMsg1926, DB]
              refine hX ?_
              clear hX hY X Y
              refine awp_reg_seq ?_
              intro K hK
              simp only [↓DN, UP, DF, qSh, qCv, qIA, qIx, qSl, qBu, qCe, qOn, reduceCtorEq, ↓reduceIte, nLT, nLE, nEQ, nAdd, nMul, nPow, nSub, zLT, zLE, zNat, RMsg1926, g4]
              refine acallk (reyeEnd_at _ p _ J2.eye) ?_
              rintro r s4 ⟨rfl, rfl⟩
              simp only [↓AXq_nil, ↓AXq_cons, pval, DX, Nat.reduceBEq, ↓DN, UP, DF, qSh, qCv, qIA, qIx, qSl, qBu, qCe, qOn, reduceCtorEq, ↓reduceIte, nLT, nLE, nEQ, nAdd, nMul, nPow, nSub, zLT, zLE, zNat, RMsg1926, g2, jr]
              refine hK _ _ ?_
              clear hK K
              refine awp_ret ?_
              try simp only [thenQ, blockQ]
              refine aends_cell_tmp (o := o2) (off := 0) (by simp only [upd, g2, nEQ, ↓reduceIte]) (AS.set_objs_same _ _ _) (by rw [T.c47]; decide) (by simp only [↓DN, UP, DF, qSh, qCv, qIA, qIx, qSl, qBu, qCe, qOn, reduceCtorEq, ↓reduceIte, nLT, nLE, nEQ, nAdd, nMul, nPow, nSub, zLT, zLE, zNat, RMsg1926]; rfl) ?_
              rw [show mRead b = (noCommit, eyeEnd qm.2) from by unfold mRead; rw [hrr]; exact if_neg he]
              exact ⟨_, s, AV.weak_tup2 noCommit_weak (AV.weak.refl _), hout _, rfl, rfl⟩
          clear hK3
          have jv := J.var
          have jp := J.p3
          have jp2 := J.p3.symm
          by_cases hk : qh.1 = 1
          · have hqa : qa = pathR qh.2 := by rw [ea]; exact if_pos hk
            refine awp_reg_seq ?_
            intro K hK
            simp only [↓DN, UP, DF, qSh, qCv, qIA, qIx, qSl, qBu, qCe, qOn, reduceCtorEq, ↓reduceIte, nLT, nLE, nEQ, nAdd, nMul, nPow, nSub, zLT, zLE, zNat, RMsg1926, g9, yesI (show ((qh.1 : Nat) : Int) = 1 by omega)]
            refine hK _ _ ?_
            clear hK K
            refine awp_cond_k ?_
            intro X Y hX hY
            simp only [↓DN, UP, DF, qSh, qCv, qIA, qIx, qSl, qBu, qCe, qOn, reduceCtorEq, ↓reduceIte, nLT, nLE, nEQ, nAdd, nMul, nPow, nSub, zLT, zLE, zNat, RMsg1926, DB]
            refine hX ?_
            clear hX hY X Y
            refine awp_reg_seq ?_
            intro K hK
            simp only [↓DN, UP, DF, qSh, qCv, qIA, qIx, qSl, qBu, qCe, qOn, reduceCtorEq, ↓reduceIte, nLT, nLE, nEQ, nAdd, nMul, nPow, nSub, zLT, zLE, zNat, RMsg1926, g5, jv]
            refine hK _ _ ?_
            clear hK K
            replace J := J.setVar [.sl 1 qg.1.length (qg.1.map byteV) .any, .v (.int .i64 (iconv .i64 (qe.1 : Int))), .v (.int .i64 qs.1), .sl 5 L.length (rowC PropV.cells L) .any, .v (.bool true), .v (.int .u64 0), .v (.slice none 0 0), .v (.slice none 0 0), .v (.slice none 0 0), .v (.slice none 0 0)]
            generalize s1.set o5 [.sl 1 qg.1.length (qg.1.map byteV) .any, .v (.int .i64 (iconv .i64 (qe.1 : Int))), .v (.int .i64 qs.1), .sl 5 L.length (rowC PropV.cells L) .any, .v (.bool true), .v (.int .u64 0), .v (.slice none 0 0), .v (.slice none 0 0), .v (.slice none 0 0), .v (.slice none 0 0)] = s1 at *
            clear jv
            have jv := J.var
            refine awp_reg_end ?_
            intro K hK
            simp only [↓DN, UP, DF, qSh, qCv, qIA, qIx, qSl, qBu, qCe, qOn, reduceCtorEq, ↓reduceIte, nLT, nLE, nEQ, nAdd, nMul, nPow, nSub, zLT, zLE, zNat, RMsg1926, g4]
            refine acallk (refPathRead_calls _ p _ lh J.eye) ?_
            rintro r s3 ⟨rfl, rfl⟩
            rw [← hqa]
            simp only [↓AXq_nil, ↓AXq_cons, pval, DX, Nat.reduceBEq, ↓DN, UP, DF, qSh, qCv, qIA, qIx, qSl, qBu, qCe, qOn, reduceCtorEq, ↓reduceIte, nLT, nLE, nEQ, nAdd, nMul, nPow, nSub, zLT, zLE, zNat, RMsg1926, g5, jv, jp, jp2, PathV.cells]
            refine hK _ _ ?_
            refine h3 _ _ _ _ _ (AVs.weak.refl qa.1.cells) (by simp only [upd, g4, nEQ, ↓reduceIte]) (by simp only [upd, g2, nEQ, ↓reduceIte]) (by simp only [upd, g5, nEQ, ↓reduceIte]) ?_
            rw [decide_eq_true hk]
            exact (J.setEye (reyeC qa.2)).setVar _
          · have hqa : qa = (noPath, qh.2) := by rw [ea]; exact if_neg hk
            refine awp_reg_seq ?_
            intro K hK
            simp only [↓DN, UP, DF, qSh, qCv, qIA, qIx, qSl, qBu, qCe, qOn, reduceCtorEq, ↓reduceIte, nLT, nLE, nEQ, nAdd, nMul, nPow, nSub, zLT, zLE, zNat, RMsg1926, g9, notI (show ¬ ((qh.1 : Nat) : Int) = 1 by omega)]
            refine hK _ _ ?_
            clear hK K
            refine awp_cond_k ?_
            intro X Y hX hY
            simp only [↓DN, UP, DF, qSh, qCv, qIA, qIx, qSl, qBu, qCe, qOn, reduceCtorEq, ↓reduceIte, nLT, nLE, nEQ, nAdd, nMul, nPow, nSub, zLT, zLE, zNat, RMsg1926, DB]
            refine hY ?_
            clear hX hY X Y
            refine awp_skip ?_
            refine h3 _ _ _ _ _ ?_ (by simp only [upd, g4, nEQ, ↓reduceIte]) (by simp only [upd, g2, nEQ, ↓reduceIte]) (by simp only [upd, g5, nEQ, ↓reduceIte]) (?_ : RdS _ _ _ _ _ _ _ [.sl 1 qg.1.length (qg.1.map byteV) .any, .v (.int .i64 (iconv .i64 (qe.1 : Int))), .v (.int .i64 qs.1), .sl 5 L.length (rowC PropV.cells L) .any, .v (.bool (decide (qh.1 = 1))), .v (.int .u64 0), .v (.slice none 0 0), .v (.slice none 0 0), .v (.slice none 0 0), .v (.slice none 0 0)])
            · rw [hqa]
              exact .cons (AV.weak.refl _) (.cons AV.weak_nil (.cons AV.weak_nil .nil))
            · rw [hqa, decide_eq_false hk]
              exact J
        clear hK5
        by_cases hm : 1 < qh.1
        · have hq : qh.2 = eFail 12 (eyeNum 1 qp.2).2 := by rw [eh] at hm ⊢; unfold capR; exact if_pos hm
          refine awp_reg_seq ?_
          intro K hK
          simp only [↓DN, UP, DF, qSh, qCv, qIA, qIx, qSl, qBu, qCe, qOn, reduceCtorEq, ↓reduceIte, nLT, nLE, nEQ, nAdd, nMul, nPow, nSub, zLT, zLE, zNat, RMsg1926, gt_one, decide_eq_true hm]
          refine hK _ _ ?_
          clear hK K
          refine awp_cond_k ?_
          intro X Y hX hY
          simp only [↓DN, UP, DF, qSh, qCv, qIA, qIx, qSl, qBu, qCe, qOn, reduceCtorEq, ↓reduceIte, nLT, nLE, nEQ, nAdd, nMul, nPow, nSub, zLT, zLE, zNat, RMsg1926, DB]
          refine hX ?_
          clear hX hY X Y
          refine awp_reg_end ?_
          intro K hK
          simp only [↓DN, UP, DF, qSh, qCv, qIA, qIx, qSl, qBu, qCe, qOn, reduceCtorEq, ↓reduceIte, nLT, nLE, nEQ, nAdd, nMul, nPow, nSub, zLT, zLE, zNat, RMsg1926, g4]
          refine acallk (refFail23_calls _ p _ J.eye) ?_
          rintro r s2 ⟨rfl, rfl⟩
          simp only [↓AXq_nil, ↓AXq_cons, pval, DX, Nat.reduceBEq, ↓DN, UP, DF, qSh, qCv, qIA, qIx, qSl, qBu, qCe, qOn, reduceCtorEq, ↓reduceIte, nLT, nLE, nEQ, nAdd, nMul, nPow, nSub, zLT, zLE, zNat, RMsg1926]
          refine hK _ _ (h5 _ _ (by simp only [upd, g4, nEQ, ↓reduceIte]) (by simp only [upd, g2, nEQ, ↓reduceIte]) (by simp only [upd, g5, nEQ, ↓reduceIte]) (by simp only [upd, nEQ, ↓reduceIte]) ?_)
          rw [hq]
          exact J.setEye _
        · have hq : qh.2 = (eyeNum 1 qp.2).2 := by rw [eh] at hm ⊢; unfold capR; exact if_neg hm
          refine awp_reg_seq ?_
          intro K hK
          simp only [↓DN, UP, DF, qSh, qCv, qIA, qIx, qSl, qBu, qCe, qOn, reduceCtorEq, ↓reduceIte, nLT, nLE, nEQ, nAdd, nMul, nPow, nSub, zLT, zLE, zNat, RMsg1926, gt_one, decide_eq_false hm]
          refine hK _ _ ?_
          clear hK K
          refine awp_cond_k ?_
          intro X Y hX hY
          simp only [↓DN, UP, DF, qSh, qCv, qIA, qIx, qSl, qBu, qCe, qOn, reduceCtorEq, ↓reduceIte, nLT, nLE, nEQ, nAdd, nMul, nPow, nSub, zLT, zLE, zNat, RMsg1926, DB]
          refine hY ?_
          clear hX hY X Y
          refine awp_skip ?_
          refine h5 _ _ (by simp only [upd, g4, nEQ, ↓reduceIte]) (by simp only [upd, g2, nEQ, ↓reduceIte]) (by simp only [upd, g5, nEQ, ↓reduceIte]) (by simp only [upd, nEQ, ↓reduceIte]) ?_
          rw [hq]
          exact J
      clear hK2
      refine awp_reg_seq ?_
      intro K hK
      simp only [↓DN, UP, DF, qSh, qCv, qIA, qIx, qSl, qBu, qCe, qOn, reduceCtorEq, ↓reduceIte, nLT, nLE, nEQ, nAdd, nMul, nPow, nSub, zLT, zLE, zNat, RMsg1926]
      refine hK _ _ ?_
      clear hK K
      refine awp_block ?_
      refine awp_loop (fun E s2 => ∃ (i : Nat) (x : AV) (L : List PropV), i ≤ qn.1 ∧ L.length ≤ i ∧ ((propsR i qn.2).2.2 = 0 → L = (propsR i qn.2).1) ∧ E 7 = .v (.int .i64 i) ∧ E 6 = .v (.int .i64 qn.1) ∧ E 4 = .ptr p 0 ∧ E 2 = .ptr o2 0 ∧ E 5 = .ptr o5 0 ∧ RBuf 5 (s.set p (reyeC (b, 0))) s2 x L.length (rowC PropV.cells L) ∧
          RdS (s.set p (reyeC (b, 0))) s2 p o2 o5 (reyeC (propsR i qn.2).2) z [.sl 1 qg.1.length (qg.1.map byteV) .any, .v (.int .i64 (iconv .i64 (qe.1 : Int))), .v (.int .i64 qs.1), x, .v (.bool false), .v (.int .u64 0), .v (.slice none 0 0), .v (.slice none 0 0), .v (.slice none 0 0), .v (.slice none 0 0)])
        (fun E _ => match E 7 with | .v (.int _ i) => qn.1 - i.toNat | _ => 0) ?_ ?_
      · exact ⟨0, _, [], Nat.zero_le _, Nat.le_refl _, fun _ => rfl, by simp only [upd, ↓reduceIte]; rfl, by simp only [upd, g6, nEQ, ↓reduceIte], by simp only [upd, g4, nEQ, ↓reduceIte], by simp only [upd, g2, nEQ, ↓reduceIte], by simp only [upd, g5, nEQ, ↓reduceIte], RBuf.nil _ _ _, J⟩
      · clear J g4 g2 g5 g6 s1
        rintro E1 s4 ⟨i, x, L, hi, hLi, hLe, g7, g6, g4, g2, g5, hx, J⟩ -
        refine awp_seq_k ?_
        intro K7 hK7
        have je : s4.objs p = some [.v (.string ⟨(propsR i qn.2).2.1.toArray⟩), .v (.int .i64 (propsR i qn.2).2.2)] := J.eye
        by_cases hi' : i < qn.1
        · by_cases he : (propsR i qn.2).2.2 = 0
          · rw [he] at je
            refine awp_reg_seq ?_
            intro K hK
            simp only [↓DN, UP, DF, qSh, qCv, qIA, qIx, qSl, qBu, qCe, qOn, reduceCtorEq, ↓reduceIte, nLT, nLE, nEQ, nAdd, nMul, nPow, nSub, zLT, zLE, zNat, RMsg1926, g7, g6, eye_lt_nat, decide_eq_true hi', g4, je, i64_eq_true 0 rfl]
            refine hK _ _ ?_
            clear hK K
            refine awp_cond_k ?_
            intro X Y hX hY
            simp only [↓DN, UP, DF, qSh, qCv, qIA, qIx, qSl, qBu, qCe, qOn, reduceCtorEq, ↓reduceIte, nLT, nLE, nEQ, nAdd, nMul, nPow, nSub, zLT, zLE, zNat, RMsg1926, DB]
            refine hX ?_
            clear hX hY X Y
            refine awp_skip ?_
            refine hK7 _ _ ?_
            clear hK7 K7
            refine awp_seq_k ?_
            intro K7 hK7
            refine awp_block ?_
            have hnext : ∀ (E2 : Env) (s5 : AS) (x2 : AV) (L2 : List PropV), L2.length ≤ i + 1 → ((propsR (i + 1) qn.2).2.2 = 0 → L2 = (propsR (i + 1) qn.2).1) → E2 7 = .v (.int .i64 i) → E2 6 = .v (.int .i64 qn.1) → E2 4 = .ptr p 0 → E2 2 = .ptr o2 0 → E2 5 = .ptr o5 0 → RBuf 5 (s.set p (reyeC (b, 0))) s5 x2 L2.length (rowC PropV.cells L2) →
                RdS (s.set p (reyeC (b, 0))) s5 p o2 o5 (reyeC (propsR (i + 1) qn.2).2) z [.sl 1 qg.1.length (qg.1.map byteV) .any, .v (.int .i64 (iconv .i64 (qe.1 : Int))), .v (.int .i64 qs.1), x2, .v (.bool false), .v (.int .u64 0), .v (.slice none 0 0), .v (.slice none 0 0), .v (.slice none 0 0), .v (.slice none 0 0)] → K7 E2 s5 := by
              intro E2 s5 x2 L2 fl fe f7 f6 f4 f2 f5 fx fJ
              refine hK7 _ _ ?_
              clear hK7 K7
              refine awp_reg_end ?_
              intro K hK
              simp only [↓DN, UP, DF, qSh, qCv, qIA, qIx, qSl, qBu, qCe, qOn, reduceCtorEq, ↓reduceIte, nLT, nLE, nEQ, nAdd, nMul, nPow, nSub, zLT, zLE, zNat, RMsg1926, f7, eye_succ i (by omega)]
              refine hK _ _ ?_
              clear hK K
              refine ⟨⟨i + 1, x2, L2, by omega, fl, fe, by simp only [upd, ↓reduceIte], by simp only [upd, f6, nEQ, ↓reduceIte], by simp only [upd, f4, nEQ, ↓reduceIte], by simp only [upd, f2, nEQ, ↓reduceIte], by simp only [upd, f5, nEQ, ↓reduceIte], fx, fJ⟩, ?_⟩
              simp only [g7, upd, ↓reduceIte]
              omega
            clear hK7 je
            have li : (propsR i qn.2).2.1.length ≤ 2 ^ 44 := Nat.le_trans (propsR_left _ _) ln
            have hrow1 : (propsR (i + 1) qn.2) = (if (propR (propsR i qn.2).2).2.2 = 0 then (propsR i qn.2).1 ++ [(propR (propsR i qn.2).2).1] else (propsR i qn.2).1, (propR (propsR i qn.2).2).2) := rfl
            rw [hrow1] at hnext
            have hL' := hLe he
            rw [← hL'] at hnext
            clear hL' hrow1 he
            generalize (propsR i qn.2).2 = sti at *
            simp only at hnext
            obtain ⟨q1, e1⟩ : ∃ q, q = eyeNum 1 sti := ⟨_, rfl⟩
            have l1 : q1.2.1.length ≤ 2 ^ 44 := by rw [e1]; exact Nat.le_trans (eyeNum_len _ _) li
            have k1' : q1.1 < 256 := by rw [e1]; exact eyeNum1_lt _
            refine awp_reg_seq ?_
            intro K hK
            simp only [↓DN, UP, DF, qSh, qCv, qIA, qIx, qSl, qBu, qCe, qOn, reduceCtorEq, ↓reduceIte, nLT, nLE, nEQ, nAdd, nMul, nPow, nSub, zLT, zLE, zNat, RMsg1926, g4]
            refine acallk (reyeNumber_set _ p sti 1 (by omega) (by omega) J.eye) ?_
            rintro r s5 ⟨rfl, rfl⟩
            rw [← e1]
            simp only [↓AXq_nil, ↓AXq_cons, pval, DX, Nat.reduceBEq, ↓DN, UP, DF, qSh, qCv, qIA, qIx, qSl, qBu, qCe, qOn, reduceCtorEq, ↓reduceIte, nLT, nLE, nEQ, nAdd, nMul, nPow, nSub, zLT, zLE, zNat, RMsg1926, i64_conv (show q1.1 < 2 ^ 62 by omega)]
            intro o8 ho8
            have J6 := (J.setEye (reyeC q1.2)).setNew ho8 [.v (.int .i64 q1.1), .v (.int .i64 0), .v (.slice none 0 0), .v (.int .u64 0), .v (.int .u64 0)]
            have hx6 : RBuf 5 (s.set p (reyeC (b, 0))) ((s4.set p (reyeC q1.2)).set o8 [.v (.int .i64 q1.1), .v (.int .i64 0), .v (.slice none 0 0), .v (.int .u64 0), .v (.int .u64 0)]) x L.length (rowC PropV.cells L) := hx
            clear J hx
            refine hK _ _ ?_
            clear hK K
            generalize (s4.set p (reyeC q1.2)).set o8 [.v (.int .i64 q1.1), .v (.int .i64 0), .v (.slice none 0 0), .v (.int .u64 0), .v (.int .u64 0)] = s6 at *
            refine awp_seq_k ?_
            intro K8 hK8
            have h8 : ∀ (E : Env) (s7 : AS) (y' : AV) (k l : Int) (n : List UInt8) (y i0 : Nat) (st' : EyeSt), propR sti = (⟨k, l, n, y, i0⟩, st') → y'.weak (bytesV n .any) → y'.one = true → E 7 = .v (.int .i64 i) → E 6 = .v (.int .i64 qn.1) → E 4 = .ptr p 0 → E 2 = .ptr o2 0 → E 5 = .ptr o5 0 → E 8 = .ptr o8 0 →
                RBuf 5 (s.set p (reyeC (b, 0))) s7 x L.length (rowC PropV.cells L) → Rd4 (s.set p (reyeC (b, 0))) s7 p o2 o5 o8 (reyeC st') z [.sl 1 qg.1.length (qg.1.map byteV) .any, .v (.int .i64 (iconv .i64 (qe.1 : Int))), .v (.int .i64 qs.1), x, .v (.bool false), .v (.int .u64 0), .v (.slice none 0 0), .v (.slice none 0 0), .v (.slice none 0 0), .v (.slice none 0 0)] [.v (.int .i64 k), .v (.int .i64 l), y', .v (.int .u64 y), .v (.int .u64 i0)] → K8 E s7 := by
              clear J6 hx6 g7 g6 g4 g2 g5
              intro E s7 y' k l n y i0 st' hpr hy oy g7 g6 g4 g2 g5 g8 hx J
              refine hK8 _ _ ?_
              clear hK8 K8
              refine awp_tells (AS.tells_obj (cs' := [.v (.int .i64 k), .v (.int .i64 l), .sl 1 n.length (n.map byteV) .any, .v (.int .u64 y), .v (.int .u64 i0)]) J.obj (prop_weak hy)) ?_
              replace J := J.setObj [.v (.int .i64 k), .v (.int .i64 l), .sl 1 n.length (n.map byteV) .any, .v (.int .u64 y), .v (.int .u64 i0)]
              replace hx : RBuf 5 (s.set p (reyeC (b, 0))) (s7.set o8 [.v (.int .i64 k), .v (.int .i64 l), .sl 1 n.length (n.map byteV) .any, .v (.int .u64 y), .v (.int .u64 i0)]) x L.length (rowC PropV.cells L) := hx
              generalize s7.set o8 [.v (.int .i64 k), .v (.int .i64 l), .sl 1 n.length (n.map byteV) .any, .v (.int .u64 y), .v (.int .u64 i0)] = s7 at *
              have jv := J.rd.var
              have jo := J.obj
              have jd3 := J.d3
              have jd3' := J.d3.symm
              rw [hpr] at hnext
              simp only at hnext
              have hsn : rowC PropV.cells (L ++ [(⟨k, l, n, y, i0⟩ : PropV)]) = rowC PropV.cells L ++ [.v (.int .i64 k), .v (.int .i64 l), .sl 1 n.length (n.map byteV) .any, .v (.int .u64 y), .v (.int .u64 i0)] := row_snoc _ _
              have hln : (L ++ [(⟨k, l, n, y, i0⟩ : PropV)]).length = L.length + 1 := by simp
              have hif : ∀ (h : st'.2 = 0), L ++ [(⟨k, l, n, y, i0⟩ : PropV)] = (if st'.2 = 0 then L ++ [(⟨k, l, n, y, i0⟩ : PropV)] else L) := fun h => (if_pos h).symm
              rcases hx with ⟨rfl, hi0, hL0⟩ | ⟨t, e, rfl, ht, ht0⟩
              · refine awp_reg_end ?_
                intro K hK
                simp only [↓DN, UP, DF, qSh, qCv, qIA, qIx, qSl, qBu, qCe, qOn, reduceCtorEq, ↓reduceIte, nLT, nLE, nEQ, nAdd, nMul, nPow, nSub, zLT, zLE, zNat, RMsg1926, g5, g8, jv, jo, jd3, jd3', nilS, zrow_five]
                intro t ht
                have ht0 := J.rd.own_none ht
                refine hK _ _ (hnext _ _ (.sl 5 1 [.v (.int .i64 k), .v (.int .i64 l), .sl 1 n.length (n.map byteV) .any, .v (.int .u64 y), .v (.int .u64 i0)] (.own t 0)) _ (by rw [hln]; omega) hif (by simp only [upd, g7, nEQ, ↓reduceIte]) (by simp only [upd, g6, nEQ, ↓reduceIte]) (by simp only [upd, g4, nEQ, ↓reduceIte]) (by simp only [upd, g2, nEQ, ↓reduceIte]) (by simp only [upd, g5, nEQ, ↓reduceIte]) (.inr ⟨t, 0, by rw [hsn, hln, hi0, hL0]; rfl, by simp [AS.set, AS.gain], ht0⟩) ((J.rd.gain ht0 0).setVar _))
              · refine awp_reg_end ?_
                intro K hK
                simp only [↓DN, UP, DF, qSh, qCv, qIA, qIx, qSl, qBu, qCe, qOn, reduceCtorEq, ↓reduceIte, nLT, nLE, nEQ, nAdd, nMul, nPow, nSub, zLT, zLE, zNat, RMsg1926, g5, g8, jv, jo, jd3, jd3', zrow_five, ht]
                refine ⟨by omega, by omega, ?_⟩
                refine hK _ _ (hnext _ _ (.sl 5 (L.length + 1) (rowC PropV.cells L ++ [.v (.int .i64 k), .v (.int .i64 l), .sl 1 n.length (n.map byteV) .any, .v (.int .u64 y), .v (.int .u64 i0)]) (.own t (e + 1))) _ (by rw [hln]; omega) hif (by simp only [upd, g7, nEQ, ↓reduceIte]) (by simp only [upd, g6, nEQ, ↓reduceIte]) (by simp only [upd, g4, nEQ, ↓reduceIte]) (by simp only [upd, g2, nEQ, ↓reduceIte]) (by simp only [upd, g5, nEQ, ↓reduceIte]) (.inr ⟨t, e + 1, by rw [hsn, hln], by simp [AS.set, AS.gain], ht0⟩) ((J.rd.gain ht0 (e + 1)).setVar _))
            clear hK8 hnext
            have jo := J6.obj
            have jp := J6.p4
            have jp2 := J6.p4.symm
            by_cases k1 : q1.1 = 1
            · refine awp_reg_seq ?_
              intro K hK
              simp only [↓DN, UP, DF, qSh, qCv, qIA, qIx, qSl, qBu, qCe, qOn, reduceCtorEq, ↓reduceIte, nLT, nLE, nEQ, nAdd, nMul, nPow, nSub, zLT, zLE, zNat, RMsg1926, jo]
              refine hK _ _ ?_
              clear hK K
              refine awp_block ?_
              refine awp_reg_seq ?_
              intro K hK
              simp only [↓DN, UP, DF, qSh, qCv, qIA, qIx, qSl, qBu, qCe, qOn, reduceCtorEq, ↓reduceIte, nLT, nLE, nEQ, nAdd, nMul, nPow, nSub, zLT, zLE, zNat, RMsg1926, yesI (show ((q1.1 : Nat) : Int) = 1 by omega)]
              refine hK _ _ ?_
              clear hK K
              refine awp_cond_k ?_
              intro X Y hX hY
              simp only [↓DN, UP, DF, qSh, qCv, qIA, qIx, qSl, qBu, qCe, qOn, reduceCtorEq, ↓reduceIte, nLT, nLE, nEQ, nAdd, nMul, nPow, nSub, zLT, zLE, zNat, RMsg1926, DB]
              refine hX ?_
              clear hX hY X Y
              have la1 : (eyeText 1 16 q1.2).2.1.length ≤ 2 ^ 44 := Nat.le_trans (eyeText_len _ _ _).2 l1
              have la2 : (eyeNum 8 (eyeText 1 16 q1.2).2).2.1.length ≤ 2 ^ 44 := Nat.le_trans (eyeNum_len _ _) la1
              refine awp_reg_seq ?_
              intro K hK
              simp only [↓DN, UP, DF, qSh, qCv, qIA, qIx, qSl, qBu, qCe, qOn, reduceCtorEq, ↓reduceIte, nLT, nLE, nEQ, nAdd, nMul, nPow, nSub, zLT, zLE, zNat, RMsg1926, g4]
              refine acallk (reyeText_set _ p _ 1 16 (by omega) (by omega) J6.rd.eye) ?_
              rintro r s7 ⟨rfl, rfl⟩
              simp only [↓AXq_nil, ↓AXq_cons, pval, DX, Nat.reduceBEq, ↓DN, UP, DF, qSh, qCv, qIA, qIx, qSl, qBu, qCe, qOn, reduceCtorEq, ↓reduceIte, nLT, nLE, nEQ, nAdd, nMul, nPow, nSub, zLT, zLE, zNat, RMsg1926, jo, jp, jp2]
              refine hK _ _ ?_
              clear hK K
              replace J6 := (J6.setEye (reyeC (eyeText 1 16 q1.2).2)).setObj [.v (.int .i64 q1.1), .v (.int .i64 0), .sl 1 (eyeText 1 16 q1.2).1.length ((eyeText 1 16 q1.2).1.map byteV) .no, .v (.int .u64 0), .v (.int .u64 0)]
              replace hx6 : RBuf 5 (s.set p (reyeC (b, 0))) ((s6.set p (reyeC (eyeText 1 16 q1.2).2)).set o8 [.v (.int .i64 q1.1), .v (.int .i64 0), .sl 1 (eyeText 1 16 q1.2).1.length ((eyeText 1 16 q1.2).1.map byteV) .no, .v (.int .u64 0), .v (.int .u64 0)]) x L.length (rowC PropV.cells L) := hx6
              generalize (s6.set p (reyeC (eyeText 1 16 q1.2).2)).set o8 [.v (.int .i64 q1.1), .v (.int .i64 0), .sl 1 (eyeText 1 16 q1.2).1.length ((eyeText 1 16 q1.2).1.map byteV) .no, .v (.int .u64 0), .v (.int .u64 0)] = s6 at *
              clear jo
              have jo := J6.obj
              refine awp_reg_seq ?_
              intro K hK
              simp only [↓DN, UP, DF, qSh, qCv, qIA, qIx, qSl, qBu, qCe, qOn, reduceCtorEq, ↓reduceIte, nLT, nLE, nEQ, nAdd, nMul, nPow, nSub, zLT, zLE, zNat, RMsg1926, g4]
              refine acallk (reyeNumber_set _ p _ 8 (by omega) (by omega) J6.rd.eye) ?_
              rintro r s7 ⟨rfl, rfl⟩
              simp only [↓AXq_nil, ↓AXq_cons, pval, DX, Nat.reduceBEq, ↓DN, UP, DF, qSh, qCv, qIA, qIx, qSl, qBu, qCe, qOn, reduceCtorEq, ↓reduceIte, nLT, nLE, nEQ, nAdd, nMul, nPow, nSub, zLT, zLE, zNat, RMsg1926, jo, jp, jp2]
              refine hK _ _ ?_
              clear hK K
              replace J6 := (J6.setEye (reyeC (eyeNum 8 (eyeText 1 16 q1.2).2).2)).setObj [.v (.int .i64 q1.1), .v (.int .i64 0), .sl 1 (eyeText 1 16 q1.2).1.length ((eyeText 1 16 q1.2).1.map byteV) .no, .v (.int .u64 (eyeNum 8 (eyeText 1 16 q1.2).2).1), .v (.int .u64 0)]
              replace hx6 : RBuf 5 (s.set p (reyeC (b, 0))) ((s6.set p (reyeC (eyeNum 8 (eyeText 1 16 q1.2).2).2)).set o8 [.v (.int .i64 q1.1), .v (.int .i64 0), .sl 1 (eyeText 1 16 q1.2).1.length ((eyeText 1 16 q1.2).1.map byteV) .no, .v (.int .u64 (eyeNum 8 (eyeText 1 16 q1.2).2).1), .v (.int .u64 0)]) x L.length (rowC PropV.cells L) := hx6
              generalize (s6.set p (reyeC (eyeNum 8 (eyeText 1 16 q1.2).2).2)).set o8 [.v (.int .i64 q1.1), .v (.int .i64 0), .sl 1 (eyeText 1 16 q1.2).1.length ((eyeText 1 16 q1.2).1.map byteV) .no, .v (.int .u64 (eyeNum 8 (eyeText 1 16 q1.2).2).1), .v (.int .u64 0)] = s6 at *
              clear jo
              have jo := J6.obj
              refine awp_reg_end ?_
              intro K hK
              simp only [↓DN, UP, DF, qSh, qCv, qIA, qIx, qSl, qBu, qCe, qOn, reduceCtorEq, ↓reduceIte, nLT, nLE, nEQ, nAdd, nMul, nPow, nSub, zLT, zLE, zNat, RMsg1926, g4]
              refine acallk (reyeNumber_set _ p _ 8 (by omega) (by omega) J6.rd.eye) ?_
              rintro r s7 ⟨rfl, rfl⟩
              simp only [↓AXq_nil, ↓AXq_cons, pval, DX, Nat.reduceBEq, ↓DN, UP, DF, qSh, qCv, qIA, qIx, qSl, qBu, qCe, qOn, reduceCtorEq, ↓reduceIte, nLT, nLE, nEQ, nAdd, nMul, nPow, nSub, zLT, zLE, zNat, RMsg1926, jo, jp, jp2]
              replace J6 := (J6.setEye (reyeC (eyeNum 8 (eyeNum 8 (eyeText 1 16 q1.2).2).2).2)).setObj [.v (.int .i64 q1.1), .v (.int .i64 0), .sl 1 (eyeText 1 16 q1.2).1.length ((eyeText 1 16 q1.2).1.map byteV) .no, .v (.int .u64 (eyeNum 8 (eyeText 1 16 q1.2).2).1), .v (.int .u64 (eyeNum 8 (eyeNum 8 (eyeText 1 16 q1.2).2).2).1)]
              replace hx6 : RBuf 5 (s.set p (reyeC (b, 0))) ((s6.set p (reyeC (eyeNum 8 (eyeNum 8 (eyeText 1 16 q1.2).2).2).2)).set o8 [.v (.int .i64 q1.1), .v (.int .i64 0), .sl 1 (eyeText 1 16 q1.2).1.length ((eyeText 1 16 q1.2).1.map byteV) .no, .v (.int .u64 (eyeNum 8 (eyeText 1 16 q1.2).2).1), .v (.int .u64 (eyeNum 8 (eyeNum 8 (eyeText 1 16 q1.2).2).2).1)]) x L.length (rowC PropV.cells L) := hx6
              refine hK _ _ ?_
              clear hK K
              simp only [blockQ, thenQ, if_true, if_false]
              refine h8 _ _ (.sl 1 (eyeText 1 16 q1.2).1.length ((eyeText 1 16 q1.2).1.map byteV) .no) _ _ _ _ _ _ (propR_one (by rw [← e1]; exact k1)) ?_ ?_ (by simp only [upd, g7, nEQ, ↓reduceIte]) (by simp only [upd, g6, nEQ, ↓reduceIte]) (by simp only [upd, g4, nEQ, ↓reduceIte]) (by simp only [upd, g2, nEQ, ↓reduceIte]) (by simp only [upd, g5, nEQ, ↓reduceIte]) (by simp only [upd, nEQ, ↓reduceIte]) hx6 ?_
              rotate_left 2
              · rw [k1] at J6 ⊢
                rw [← e1]
                exact J6
              · rw [← e1]
                exact AV.weak_any
              · rfl
            · have f1 := notI (show ¬ ((q1.1 : Nat) : Int) = 1 by omega)
              by_cases k2 : q1.1 = 2
              · refine awp_reg_seq ?_
                intro K hK
                simp only [↓DN, UP, DF, qSh, qCv, qIA, qIx, qSl, qBu, qCe, qOn, reduceCtorEq, ↓reduceIte, nLT, nLE, nEQ, nAdd, nMul, nPow, nSub, zLT, zLE, zNat, RMsg1926, jo]
                refine hK _ _ ?_
                clear hK K
                refine awp_block ?_
                refine awp_reg_seq ?_
                intro K hK
                simp only [↓DN, UP, DF, qSh, qCv, qIA, qIx, qSl, qBu, qCe, qOn, reduceCtorEq, ↓reduceIte, nLT, nLE, nEQ, nAdd, nMul, nPow, nSub, zLT, zLE, zNat, RMsg1926, f1]
                refine hK _ _ ?_
                clear hK K
                refine awp_cond_k ?_
                intro X Y hX hY
                simp only [↓DN, UP, DF, qSh, qCv, qIA, qIx, qSl, qBu, qCe, qOn, reduceCtorEq, ↓reduceIte, nLT, nLE, nEQ, nAdd, nMul, nPow, nSub, zLT, zLE, zNat, RMsg1926, DB]
                refine hY ?_
                clear hX hY X Y
                refine awp_reg_seq ?_
                intro K hK
                simp only [↓DN, UP, DF, qSh, qCv, qIA, qIx, qSl, qBu, qCe, qOn, reduceCtorEq, ↓reduceIte, nLT, nLE, nEQ, nAdd, nMul, nPow, nSub, zLT, zLE, zNat, RMsg1926, yesI (show ((q1.1 : Nat) : Int) = 2 by omega)]
                refine hK _ _ ?_
                clear hK K
                refine awp_cond_k ?_
                intro X Y hX hY
                simp only [↓DN, UP, DF, qSh, qCv, qIA, qIx, qSl, qBu, qCe, qOn, reduceCtorEq, ↓reduceIte, nLT, nLE, nEQ, nAdd, nMul, nPow, nSub, zLT, zLE, zNat, RMsg1926, DB]
                refine hX ?_
                clear hX hY X Y
                have la1 : (eyeNum 1 q1.2).2.1.length ≤ 2 ^ 44 := Nat.le_trans (eyeNum_len _ _) l1
                have lb1 : (eyeNum 1 q1.2).1 < 256 := eyeNum1_lt _
                refine awp_reg_seq ?_
                intro K hK
                simp only [↓DN, UP, DF, qSh, qCv, qIA, qIx, qSl, qBu, qCe, qOn, reduceCtorEq, ↓reduceIte, nLT, nLE, nEQ, nAdd, nMul, nPow, nSub, zLT, zLE, zNat, RMsg1926, g4]
                refine acallk (reyeNumber_set _ p _ 1 (by omega) (by omega) J6.rd.eye) ?_
                rintro r s7 ⟨rfl, rfl⟩
                simp only [↓AXq_nil, ↓AXq_cons, pval, DX, Nat.reduceBEq, ↓DN, UP, DF, qSh, qCv, qIA, qIx, qSl, qBu, qCe, qOn, reduceCtorEq, ↓reduceIte, nLT, nLE, nEQ, nAdd, nMul, nPow, nSub, zLT, zLE, zNat, RMsg1926, jo, jp, jp2, i64_conv (show (eyeNum 1 q1.2).1 < 2 ^ 62 by omega)]
                refine hK _ _ ?_
                clear hK K
                replace J6 := (J6.setEye (reyeC (eyeNum 1 q1.2).2)).setObj [.v (.int .i64 q1.1), .v (.int .i64 (eyeNum 1 q1.2).1), .v (.slice none 0 0), .v (.int .u64 0), .v (.int .u64 0)]
                replace hx6 : RBuf 5 (s.set p (reyeC (b, 0))) ((s6.set p (reyeC (eyeNum 1 q1.2).2)).set o8 [.v (.int .i64 q1.1), .v (.int .i64 (eyeNum 1 q1.2).1), .v (.slice none 0 0), .v (.int .u64 0), .v (.int .u64 0)]) x L.length (rowC PropV.cells L) := hx6
                generalize (s6.set p (reyeC (eyeNum 1 q1.2).2)).set o8 [.v (.int .i64 q1.1), .v (.int .i64 (eyeNum 1 q1.2).1), .v (.slice none 0 0), .v (.int .u64 0), .v (.int .u64 0)] = s6 at *
                clear jo
                have jo := J6.obj
                refine awp_reg_end ?_
                intro K hK
                simp only [↓DN, UP, DF, qSh, qCv, qIA, qIx, qSl, qBu, qCe, qOn, reduceCtorEq, ↓reduceIte, nLT, nLE, nEQ, nAdd, nMul, nPow, nSub, zLT, zLE, zNat, RMsg1926, g4]
                refine acallk (reyeNumber_set _ p _ 8 (by omega) (by omega) J6.rd.eye) ?_
                rintro r s7 ⟨rfl, rfl⟩
                simp only [↓AXq_nil, ↓AXq_cons, pval, DX, Nat.reduceBEq, ↓DN, UP, DF, qSh, qCv, qIA, qIx, qSl, qBu, qCe, qOn, reduceCtorEq, ↓reduceIte, nLT, nLE, nEQ, nAdd, nMul, nPow, nSub, zLT, zLE, zNat, RMsg1926, jo, jp, jp2]
                replace J6 := (J6.setEye (reyeC (eyeNum 8 (eyeNum 1 q1.2).2).2)).setObj [.v (.int .i64 q1.1), .v (.int .i64 (eyeNum 1 q1.2).1), .v (.slice none 0 0), .v (.int .u64 (eyeNum 8 (eyeNum 1 q1.2).2).1), .v (.int .u64 0)]
                replace hx6 : RBuf 5 (s.set p (reyeC (b, 0))) ((s6.set p (reyeC (eyeNum 8 (eyeNum 1 q1.2).2).2)).set o8 [.v (.int .i64 q1.1), .v (.int .i64 (eyeNum 1 q1.2).1), .v (.slice none 0 0), .v (.int .u64 (eyeNum 8 (eyeNum 1 q1.2).2).1), .v (.int .u64 0)]) x L.length (rowC PropV.cells L) := hx6
                refine hK _ _ ?_
                clear hK K
                simp only [blockQ, thenQ, if_true, if_false]
                refine h8 _ _ _ _ _ _ _ _ _ (propR_two (by rw [← e1]; exact k2)) AV.weak_nil rfl (by simp only [upd, g7, nEQ, ↓reduceIte]) (by simp only [upd, g6, nEQ, ↓reduceIte]) (by simp only [upd, g4, nEQ, ↓reduceIte]) (by simp only [upd, g2, nEQ, ↓reduceIte]) (by simp only [upd, g5, nEQ, ↓reduceIte]) (by simp only [upd, nEQ, ↓reduceIte]) hx6 ?_
                rw [k2] at J6 ⊢
                rw [← e1]
                exact J6
              · have f2 := notI (show ¬ ((q1.1 : Nat) : Int) = 2 by omega)
                by_cases k3 : q1.1 = 3
                · refine awp_reg_seq ?_
                  intro K hK
                  simp only [↓DN, UP, DF, qSh, qCv, qIA, qIx, qSl, qBu, qCe, qOn, reduceCtorEq, ↓reduceIte, nLT, nLE, nEQ, nAdd, nMul, nPow, nSub, zLT, zLE, zNat, RMsg1926, jo]
                  refine hK _ _ ?_
                  clear hK K
                  refine awp_block ?_
                  refine awp_reg_seq ?_
                  intro K hK
                  simp only [↓DN, UP, DF, qSh, qCv, qIA, qIx, qSl, qBu, qCe, qOn, reduceCtorEq, ↓reduceIte, nLT, nLE, nEQ, nAdd, nMul, nPow, nSub, zLT, zLE, zNat, RMsg1926, f1]
                  refine hK _ _ ?_
                  clear hK K
                  refine awp_cond_k ?_
                  intro X Y hX hY
                  simp only [↓DN, UP, DF, qSh, qCv, qIA, qIx, qSl, qBu, qCe, qOn, reduceCtorEq, ↓reduceIte, nLT, nLE, nEQ, nAdd, nMul, nPow, nSub, zLT, zLE, zNat, RMsg1926, DB]
                  refine hY ?_
                  clear hX hY X Y
                  refine awp_reg_seq ?_
                  intro K hK
                  simp only [↓DN, UP, DF, qSh, qCv, qIA, qIx, qSl, qBu, qCe, qOn, reduceCtorEq, ↓reduceIte, nLT, nLE, nEQ, nAdd, nMul, nPow, nSub, zLT, zLE, zNat, RMsg1926, f2]
                  refine hK _ _ ?_
                  clear hK K
                  refine awp_cond_k ?_
                  intro X Y hX hY
                  simp only [↓DN, UP, DF, qSh, qCv, qIA, qIx, qSl, qBu, qCe, qOn, reduceCtorEq, ↓reduceIte, nLT, nLE, nEQ, nAdd, nMul, nPow, nSub, zLT, zLE, zNat, RMsg1926, DB]
                  refine hY ?_
                  clear hX hY X Y
                  refine awp_reg_seq ?_
                  intro K hK
                  simp only [↓DN, UP, DF, qSh, qCv, qIA, qIx, qSl, qBu, qCe, qOn, reduceCtorEq, ↓reduceIte, nLT, nLE, nEQ, nAdd, nMul, nPow, nSub, zLT, zLE, zNat, RMsg1926, yesI (show ((q1.1 : Nat) : Int) = 3 by omega)]
                  refine hK _ _ ?_
                  clear hK K
                  refine awp_cond_k ?_
                  intro X Y hX hY
                  simp only [↓DN, UP, DF, qSh, qCv, qIA, qIx, qSl, qBu, qCe, qOn, reduceCtorEq, ↓reduceIte, nLT, nLE, nEQ, nAdd, nMul, nPow, nSub, zLT, zLE, zNat, RMsg1926, DB]
                  refine hX ?_
                  clear hX hY X Y
                  have lb1 : (eyeNum 1 q1.2).1 < 256 := eyeNum1_lt _
                  refine awp_reg_end ?_
                  intro K hK
                  simp only [↓DN, UP, DF, qSh, qCv, qIA, qIx, qSl, qBu, qCe, qOn, reduceCtorEq, ↓reduceIte, nLT, nLE, nEQ, nAdd, nMul, nPow, nSub, zLT, zLE, zNat, RMsg1926, g4]
                  refine acallk (reyeNumber_set _ p _ 1 (by omega) (by omega) J6.rd.eye) ?_
                  rintro r s7 ⟨rfl, rfl⟩
                  simp only [↓AXq_nil, ↓AXq_cons, pval, DX, Nat.reduceBEq, ↓DN, UP, DF, qSh, qCv, qIA, qIx, qSl, qBu, qCe, qOn, reduceCtorEq, ↓reduceIte, nLT, nLE, nEQ, nAdd, nMul, nPow, nSub, zLT, zLE, zNat, RMsg1926, jo, jp, jp2, i64_conv (show (eyeNum 1 q1.2).1 < 2 ^ 62 by omega)]
                  replace J6 := (J6.setEye (reyeC (eyeNum 1 q1.2).2)).setObj [.v (.int .i64 q1.1), .v (.int .i64 (eyeNum 1 q1.2).1), .v (.slice none 0 0), .v (.int .u64 0), .v (.int .u64 0)]
                  replace hx6 : RBuf 5 (s.set p (reyeC (b, 0))) ((s6.set p (reyeC (eyeNum 1 q1.2).2)).set o8 [.v (.int .i64 q1.1), .v (.int .i64 (eyeNum 1 q1.2).1), .v (.slice none 0 0), .v (.int .u64 0), .v (.int .u64 0)]) x L.length (rowC PropV.cells L) := hx6
                  refine hK _ _ ?_
                  clear hK K
                  simp only [blockQ, thenQ, if_true, if_false]
                  refine h8 _ _ _ _ _ _ _ _ _ (propR_three (by rw [← e1]; exact k3)) AV.weak_nil rfl (by simp only [upd, g7, nEQ, ↓reduceIte]) (by simp only [upd, g6, nEQ, ↓reduceIte]) (by simp only [upd, g4, nEQ, ↓reduceIte]) (by simp only [upd, g2, nEQ, ↓reduceIte]) (by simp only [upd, g5, nEQ, ↓reduceIte]) (by simp only [upd, nEQ, ↓reduceIte]) hx6 ?_
                  rw [k3] at J6 ⊢
                  rw [← e1]
                  exact J6
                · have f3 := notI (show ¬ ((q1.1 : Nat) : Int) = 3 by omega)
                  refine awp_reg_seq ?_
                  intro K hK
                  simp only [↓DN, UP, DF, qSh, qCv, qIA, qIx, qSl, qBu, qCe, qOn, reduceCtorEq, ↓reduceIte, nLT, nLE, nEQ, nAdd, nMul, nPow, nSub, zLT, zLE, zNat, RMsg1926, jo]
                  refine hK _ _ ?_
                  clear hK K
                  refine awp_block ?_
                  refine awp_reg_seq ?_
                  intro K hK
                  simp only [↓DN, UP, DF, qSh, qCv, qIA, qIx, qSl, qBu, qCe, qOn, reduceCtorEq, ↓reduceIte, nLT, nLE, nEQ, nAdd, nMul, nPow, nSub, zLT, zLE, zNat, RMsg1926, f1]
                  refine hK _ _ ?_
                  clear hK K
                  refine awp_cond_k ?_
                  intro X Y hX hY
                  simp only [↓DN, UP, DF, qSh, qCv, qIA, qIx, qSl, qBu, qCe, qOn, reduceCtorEq, ↓reduceIte, nLT, nLE, nEQ, nAdd, nMul, nPow, nSub, zLT, zLE, zNat, RMsg1926, DB]
                  refine hY ?_
                  clear hX hY X Y
                  refine awp_reg_seq ?_
                  intro K hK
                  simp only [↓DN, UP, DF, qSh, qCv, qIA, qIx, qSl, qBu, qCe, qOn, reduceCtorEq, ↓reduceIte, nLT, nLE, nEQ, nAdd, nMul, nPow, nSub, zLT, zLE, zNat, RMsg1926, f2]
                  refine hK _ _ ?_
                  clear hK K
                  refine awp_cond_k ?_
                  intro X Y hX hY
                  simp only [↓DN, UP, DF, qSh, qCv, qIA, qIx, qSl, qBu, qCe, qOn, reduceCtorEq, ↓reduceIte, nLT, nLE, nEQ, nAdd, nMul, nPow, nSub, zLT, zLE, zNat, RMsg1926, DB]
                  refine hY ?_
                  clear hX hY X Y
                  refine awp_reg_seq ?_
                  intro K hK
                  simp only [↓DN, UP, DF, qSh, qCv, qIA, qIx, qSl, qBu, qCe, qOn, reduceCtorEq, ↓reduceIte, nLT, nLE, nEQ, nAdd, nMul, nPow, nSub, zLT, zLE, zNat, RMsg1926, f3]
                  refine hK _ _ ?_
                  clear hK K
                  refine awp_cond_k ?_
                  intro X Y hX hY
                  simp only [↓DN, UP, DF, qSh, qCv, qIA, qIx, qSl, qBu, qCe, qOn, reduceCtorEq, ↓reduceIte, nLT, nLE, nEQ, nAdd, nMul, nPow, nSub, zLT, zLE, zNat, RMsg1926, DB]
                  refine hY ?_
                  clear hX hY X Y
                  refine awp_reg_end ?_
                  intro K hK
                  simp only [↓DN, UP, DF, qSh, qCv, qIA, qIx, qSl, qBu, qCe, qOn, reduceCtorEq, ↓reduceIte, nLT, nLE, nEQ, nAdd, nMul, nPow, nSub, zLT, zLE, zNat, RMsg1926, g4]
                  refine acallk (refFail23_calls _ p _ J6.rd.eye) ?_
                  rintro r s7 ⟨rfl, rfl⟩
                  simp only [↓AXq_nil, ↓AXq_cons, pval, DX, Nat.reduceBEq, ↓DN, UP, DF, qSh, qCv, qIA, qIx, qSl, qBu, qCe, qOn, reduceCtorEq, ↓reduceIte, nLT, nLE, nEQ, nAdd, nMul, nPow, nSub, zLT, zLE, zNat, RMsg1926]
                  refine hK _ _ ?_
                  clear hK K
                  simp only [blockQ, thenQ, if_true, if_false]
                  refine h8 _ _ _ _ _ _ _ _ _ (propR_else (by rw [← e1]; exact k1) (by rw [← e1]; exact k2) (by rw [← e1]; exact k3)) AV.weak_nil rfl (by simp only [upd, g7, nEQ, ↓reduceIte]) (by simp only [upd, g6, nEQ, ↓reduceIte]) (by simp only [upd, g4, nEQ, ↓reduceIte]) (by simp only [upd, g2, nEQ, ↓reduceIte]) (by simp only [upd, g5, nEQ, ↓reduceIte]) (by simp only [upd, nEQ, ↓reduceIte]) hx6 ?_
                  rw [← e1]
                  exact J6.setEye _
          · refine awp_reg_seq ?_
            intro K hK
            simp only [↓DN, UP, DF, qSh, qCv, qIA, qIx, qSl, qBu, qCe, qOn, reduceCtorEq, ↓reduceIte, nLT, nLE, nEQ, nAdd, nMul, nPow, nSub, zLT, zLE, zNat, RMsg1926, g7, g6, eye_lt_nat, decide_eq_true hi', g4, je, i64_eq_false _ he]
            refine hK _ _ ?_
            clear hK K
            refine awp_cond_k ?_
            intro X Y hX hY
            simp only [↓DN, UP, DF, qSh, qCv, qIA, qIx, qSl, qBu, qCe, qOn, reduceCtorEq, ↓reduceIte, nLT, nLE, nEQ, nAdd, nMul, nPow, nSub, zLT, zLE, zNat, RMsg1926, DB]
            refine hY ?_
            clear hX hY X Y
            refine awp_exit ?_
            simp only [thenQ, blockQ, if_true]
            have hb2 : qp.2 = (propsR i qn.2).2 := by rw [ep]; exact propsR_bad hi he
            rw [← hb2] at J he
            exact h2 _ _ _ L (fun h => absurd h he) (by simp only [upd, g4, nEQ, ↓reduceIte]) (by simp only [upd, g2, nEQ, ↓reduceIte]) (by simp only [upd, g5, nEQ, ↓reduceIte]) hx J
        · refine awp_reg_seq ?_
          intro K hK
          simp only [↓DN, UP, DF, qSh, qCv, qIA, qIx, qSl, qBu, qCe, qOn, reduceCtorEq, ↓reduceIte, nLT, nLE, nEQ, nAdd, nMul, nPow, nSub, zLT, zLE, zNat, RMsg1926, g7, g6, eye_lt_nat, decide_eq_false hi']
          refine hK _ _ ?_
          clear hK K
          refine awp_cond_k ?_
          intro X Y hX hY
          simp only [↓DN, UP, DF, qSh, qCv, qIA, qIx, qSl, qBu, qCe, qOn, reduceCtorEq, ↓reduceIte, nLT, nLE, nEQ, nAdd, nMul, nPow, nSub, zLT, zLE, zNat, RMsg1926, DB]
          refine hY ?_
          clear hX hY X Y
          refine awp_exit ?_
          simp only [thenQ, blockQ, if_true]
          obtain rfl : i = qn.1 := by omega
          rw [← ep] at hLe J
          exact h2 _ _ _ L hLe (by simp only [upd, g4, nEQ, ↓reduceIte]) (by simp only [upd, g2, nEQ, ↓reduceIte]) (by simp only [upd, g5, nEQ, ↓reduceIte]) hx J
    clear hK9
    by_cases hm : 16 < qn.1
    · have hq : qn.2 = eFail 12 (eyeNum 1 qs.2).2 := by rw [en] at hm ⊢; unfold capR; exact if_pos hm
      refine awp_reg_seq ?_
      intro K hK
      simp only [↓DN, UP, DF, qSh, qCv, qIA, qIx, qSl, qBu, qCe, qOn, reduceCtorEq, ↓reduceIte, nLT, nLE, nEQ, nAdd, nMul, nPow, nSub, zLT, zLE, zNat, RMsg1926, gt_sixteen, decide_eq_true hm]
      refine hK _ _ ?_
      clear hK K
      refine awp_cond_k ?_
      intro X Y hX hY
      simp only [↓DN, UP, DF, qSh, qCv, qIA, qIx, qSl, qBu, qCe, qOn, reduceCtorEq, ↓reduceIte, nLT, nLE, nEQ, nAdd, nMul, nPow, nSub, zLT, zLE, zNat, RMsg1926, DB]
      refine hX ?_
      clear hX hY X Y
      refine awp_reg_end ?_
      intro K hK
      simp only [↓DN, UP, DF, qSh, qCv, qIA, qIx, qSl, qBu, qCe, qOn, reduceCtorEq, ↓reduceIte, nLT, nLE, nEQ, nAdd, nMul, nPow, nSub, zLT, zLE, zNat, RMsg1926, g4]
      refine acallk (refFail23_calls _ p _ J.eye) ?_
      rintro r s2 ⟨rfl, rfl⟩
      simp only [↓AXq_nil, ↓AXq_cons, pval, DX, Nat.reduceBEq, ↓DN, UP, DF, qSh, qCv, qIA, qIx, qSl, qBu, qCe, qOn, reduceCtorEq, ↓reduceIte, nLT, nLE, nEQ, nAdd, nMul, nPow, nSub, zLT, zLE, zNat, RMsg1926]
      refine hK _ _ (h9 _ _ (by simp only [upd, g4, nEQ, ↓reduceIte]) (by simp only [upd, g2, nEQ, ↓reduceIte]) (by simp only [upd, g5, nEQ, ↓reduceIte]) (by simp only [upd, nEQ, ↓reduceIte]) ?_)
      rw [hq]
      exact J.setEye _
    · have hq : qn.2 = (eyeNum 1 qs.2).2 := by rw [en] at hm ⊢; unfold capR; exact if_neg hm
      refine awp_reg_seq ?_
      intro K hK
      simp only [↓DN, UP, DF, qSh, qCv, qIA, qIx, qSl, qBu, qCe, qOn, reduceCtorEq, ↓reduceIte, nLT, nLE, nEQ, nAdd, nMul, nPow, nSub, zLT, zLE, zNat, RMsg1926, gt_sixteen, decide_eq_false hm]
      refine hK _ _ ?_
      clear hK K
      refine awp_cond_k ?_
      intro X Y hX hY
      simp only [↓DN, UP, DF, qSh, qCv, qIA, qIx, qSl, qBu, qCe, qOn, reduceCtorEq, ↓reduceIte, nLT, nLE, nEQ, nAdd, nMul, nPow, nSub, zLT, zLE, zNat, RMsg1926, DB]
      refine hY ?_
      clear hX hY X Y
      refine awp_skip ?_
      refine h9 _ _ (by simp only [upd, g4, nEQ, ↓reduceIte]) (by simp only [upd, g2, nEQ, ↓reduceIte]) (by simp only [upd, g5, nEQ, ↓reduceIte]) (by simp only [upd, nEQ, ↓reduceIte]) ?_
      rw [hq]
      exact J
  clear hK1
  refine awp_reg_seq ?_
  intro K hK
  simp only [↓DN, UP, DF, qSh, qCv, qIA, qIx, qSl, qBu, qCe, qOn, reduceCtorEq, ↓reduceIte, nLT, nLE, nEQ, nAdd, nMul, nPow, nSub, zLT, zLE, zNat, RMsg1926]
  refine acallk (reyeNumber_set _ p (b, 0) 1 (by omega) (by show b.length < _; omega) (AS.set_objs_same _ _ _)) ?_
  rintro r s1 ⟨rfl, rfl⟩
  by_cases hk : (eyeNum 1 (b, 0)).1 = 1
  · have hq : q0 = (eyeNum 1 (b, 0)).2 := by rw [e0]; exact if_pos hk
    rw [hq] at h1
    simp only [↓AXq_nil, ↓AXq_cons, pval, DX, Nat.reduceBEq, ↓DN, UP, DF, qSh, qCv, qIA, qIx, qSl, qBu, qCe, qOn, reduceCtorEq, ↓reduceIte, nLT, nLE, nEQ, nAdd, nMul, nPow, nSub, zLT, zLE, zNat, RMsg1926, eqI (show (((eyeNum 1 (b, 0)).1 : Nat) : Int) = 1 by omega)]
    refine hK _ _ ?_
    clear hK K
    refine awp_cond_k ?_
    intro X Y hX hY
    simp only [↓DN, UP, DF, qSh, qCv, qIA, qIx, qSl, qBu, qCe, qOn, reduceCtorEq, ↓reduceIte, nLT, nLE, nEQ, nAdd, nMul, nPow, nSub, zLT, zLE, zNat, RMsg1926, DB]
    refine hY ?_
    clear hX hY X Y
    refine awp_skip ?_
    exact h1 _ (by simp only [upd, nEQ, ↓reduceIte]) (by simp only [upd, nEQ, ↓reduceIte])
  · have hq : q0 = eFail 12 (eyeNum 1 (b, 0)).2 := by rw [e0]; exact if_neg hk
    rw [hq] at h1
    simp only [↓AXq_nil, ↓AXq_cons, pval, DX, Nat.reduceBEq, ↓DN, UP, DF, qSh, qCv, qIA, qIx, qSl, qBu, qCe, qOn, reduceCtorEq, ↓reduceIte, nLT, nLE, nEQ, nAdd, nMul, nPow, nSub, zLT, zLE, zNat, RMsg1926, neI (show ¬ (((eyeNum 1 (b, 0)).1 : Nat) : Int) = 1 by omega)]
    refine hK _ _ ?_
    clear hK K
    refine awp_cond_k ?_
    intro X Y hX hY
    simp only [↓DN, UP, DF, qSh, qCv, qIA, qIx, qSl, qBu, qCe, qOn, reduceCtorEq, ↓reduceIte, nLT, nLE, nEQ, nAdd, nMul, nPow, nSub, zLT, zLE, zNat, RMsg1926, DB]
    refine hX ?_
    clear hX hY X Y
    refine awp_reg_end ?_
    intro K hK
    simp only [↓DN, UP, DF, qSh, qCv, qIA, qIx, qSl, qBu, qCe, qOn, reduceCtorEq, ↓reduceIte, nLT, nLE, nEQ, nAdd, nMul, nPow, nSub, zLT, zLE, zNat, RMsg1926]
    refine acallk (refFail23_calls _ p _ (AS.set_objs_same _ _ _)) ?_
    rintro r s2 ⟨rfl, rfl⟩
    simp only [↓AXq_nil, ↓AXq_cons, pval, DX, Nat.reduceBEq, ↓DN, UP, DF, qSh, qCv, qIA, qIx, qSl, qBu, qCe, qOn, reduceCtorEq, ↓reduceIte, nLT, nLE, nEQ, nAdd, nMul, nPow, nSub, zLT, zLE, zNat, RMsg1926]
    exact hK _ _ (h1 _ (by simp only [upd, nEQ, ↓reduceIte]) (by simp only [upd, nEQ, ↓reduceIte]))

end Go.Proofs.Ytcnilmidfhpckaa


