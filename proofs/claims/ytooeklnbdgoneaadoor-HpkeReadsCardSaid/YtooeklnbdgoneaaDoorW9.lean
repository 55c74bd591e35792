/- Contracts of the program's functions, each walked once; the conditions stand in each theorem. -/
import Derived.Test.YtooeklnbdgoneaaDoorAMp6
import Derived.Test.YtooeklnbdgoneaaDoorW6
import Derived.Test.YtooeklnbdgoneaaDoorAMp5
import Derived.Test.YtooeklnbdgoneaaDoorAMp4
import Derived.Test.YtooeklnbdgoneaaDoorW5
import Derived.Test.YtooeklnbdgoneaaDoorW8
set_option linter.unusedSimpArgs false
set_option linter.unusedVariables false
open Nat renaming reduceLT → nLT, reduceLeDiff → nLE, reduceEqDiff → nEQ, reduceAdd → nAdd, reduceMul → nMul, reducePow → nPow, reduceSub → nSub
open Int renaming reduceLT → zLT, reduceLE → zLE, reduceToNat → zNat
open Go.AM renaming ashift → qSh, aconv → qCv, aindexAddr → qIA, aindex → qIx, aslice → qSl, abuiltin → qBu
open Go.AM.AV renaming cells → qCe, one → qOn
set_option autoImplicit false
namespace Go.Proofs.YtooeklnbdgoneaaDoor
open Go Go.AM Go.Proofs

theorem RRefEye75 : type_of% (And.intro (And.intro (And.intro (And.intro (And.intro @Tryd.underlying3 T.c3) (And.intro T.g3 T.b3)) (And.intro (And.intro T.z3 @Tryd.underlying9) (And.intro T.c9 (And.intro T.g9 T.b9)))) (And.intro (And.intro (And.intro T.z9 @Tryd.underlying70) (And.intro T.c70 (And.intro T.g70 T.b70))) (And.intro (And.intro T.z70 T.h70) (And.intro T.f70_0 (And.intro T.f70_1 T.k67))))) Tryd.ntmps75) :=
  (And.intro (And.intro (And.intro (And.intro (And.intro @Tryd.underlying3 T.c3) (And.intro T.g3 T.b3)) (And.intro (And.intro T.z3 @Tryd.underlying9) (And.intro T.c9 (And.intro T.g9 T.b9)))) (And.intro (And.intro (And.intro T.z9 @Tryd.underlying70) (And.intro T.c70 (And.intro T.g70 T.b70))) (And.intro (And.intro T.z70 T.h70) (And.intro T.f70_0 (And.intro T.f70_1 T.k67))))) Tryd.ntmps75)
theorem RRefEye76 : type_of% (And.intro (And.intro (And.intro (And.intro (And.intro @Tryd.underlying3 (And.intro T.c3 T.g3)) (And.intro T.b3 (And.intro T.z3 @Tryd.underlying9))) (And.intro (And.intro T.c9 (And.intro T.g9 T.b9)) (And.intro T.z9 (And.intro @Tryd.underlying41 T.c41)))) (And.intro (And.intro (And.intro T.g41 (And.intro T.b41 T.z41)) (And.intro @Tryd.underlying70 (And.intro T.c70 T.g70))) (And.intro (And.intro T.b70 (And.intro T.z70 T.h70)) (And.intro T.f70_0 (And.intro T.f70_1 T.k67))))) Tryd.ntmps76) :=
  (And.intro (And.intro (And.intro (And.intro (And.intro @Tryd.underlying3 (And.intro T.c3 T.g3)) (And.intro T.b3 (And.intro T.z3 @Tryd.underlying9))) (And.intro (And.intro T.c9 (And.intro T.g9 T.b9)) (And.intro T.z9 (And.intro @Tryd.underlying41 T.c41)))) (And.intro (And.intro (And.intro T.g41 (And.intro T.b41 T.z41)) (And.intro @Tryd.underlying70 (And.intro T.c70 T.g70))) (And.intro (And.intro T.b70 (And.intro T.z70 T.h70)) (And.intro T.f70_0 (And.intro T.f70_1 T.k67))))) Tryd.ntmps76)
theorem RRefEye42 : type_of% (And.intro (And.intro (And.intro (And.intro (And.intro @Tryd.underlying3 T.c3) (And.intro T.g3 T.b3)) (And.intro (And.intro T.z3 @Tryd.underlying9) (And.intro T.c9 (And.intro T.g9 T.b9)))) (And.intro (And.intro (And.intro T.z9 @Tryd.underlying70) (And.intro T.c70 T.g70)) (And.intro (And.intro T.b70 T.z70) (And.intro T.h70 (And.intro T.f70_0 T.f70_1))))) Tryd.ntmps42) :=
  (And.intro (And.intro (And.intro (And.intro (And.intro @Tryd.underlying3 T.c3) (And.intro T.g3 T.b3)) (And.intro (And.intro T.z3 @Tryd.underlying9) (And.intro T.c9 (And.intro T.g9 T.b9)))) (And.intro (And.intro (And.intro T.z9 @Tryd.underlying70) (And.intro T.c70 T.g70)) (And.intro (And.intro T.b70 T.z70) (And.intro T.h70 (And.intro T.f70_0 T.f70_1))))) Tryd.ntmps42)

variable {Γ : Nat → List AV}



set_option maxHeartbeats 1000000 in
theorem reyeNumber_calls (s0 s : AS) (p : Nat) (st : EyeSt) (size : Nat) (hs : size ≤ 8) (hl : st.1.length < 2 ^ 61) (h : REyeS s0 s p st) :
    ACalls Tryd.prog Γ 75 [.ptr p 0, .v (.int .i64 size)] s (fun r s' => r = .v (.int .u64 (eyeNum size st).1) ∧ REyeS s0 s' p (eyeNum size st).2) := by
  refine acalls_body Tryd.func75 rfl Tryd.ntmps75 Tryd.results75 (by simp) ?_
  have hx := h.obj
  obtain ⟨l, er⟩ := st
  simp only at hx hl
  refine awp_reg_seq ?_
  intro K hK
  simp only [↓DN, UP, DF, qSh, qCv, qIA, qIx, qSl, qBu, qCe, qOn, reduceCtorEq, ↓reduceIte, nLT, nLE, nEQ, nAdd, nMul, nPow, nSub, zLT, zLE, zNat, RRefEye75]
  refine hK _ _ ?_
  clear hK K
  refine awp_seq_k ?_
  intro K hK
  by_cases h0 : er = 0
  · subst h0
    refine awp_reg_seq ?_
    intro K hK
    simp only [↓DN, UP, DF, qSh, qCv, qIA, qIx, qSl, qBu, qCe, qOn, reduceCtorEq, ↓reduceIte, nLT, nLE, nEQ, nAdd, nMul, nPow, nSub, zLT, zLE, zNat, RRefEye75, hx, i64_ne_false 0 rfl]
    refine hK _ _ ?_
    clear hK K
    refine awp_cond_k ?_
    intro X Y hX hY
    simp only [↓DN, UP, DF, qSh, qCv, qIA, qIx, qSl, qBu, qCe, qOn, reduceCtorEq, ↓reduceIte, nLT, nLE, nEQ, nAdd, nMul, nPow, nSub, zLT, zLE, zNat, RRefEye75, DB]
    refine hY ?_
    clear hX hY X Y
    refine awp_skip ?_
    refine hK _ _ ?_
    clear hK K
    refine awp_seq_k ?_
    intro K hK
    by_cases h1 : l.length < size
    · refine awp_reg_seq ?_
      intro K hK
      simp only [↓DN, UP, DF, qSh, qCv, qIA, qIx, qSl, qBu, qCe, qOn, reduceCtorEq, ↓reduceIte, nLT, nLE, nEQ, nAdd, nMul, nPow, nSub, zLT, zLE, zNat, RRefEye75, hx, bs_size, eye_lt_nat, decide_eq_true h1]
      refine hK _ _ ?_
      clear hK K
      refine awp_cond_k ?_
      intro X Y hX hY
      simp only [↓DN, UP, DF, qSh, qCv, qIA, qIx, qSl, qBu, qCe, qOn, reduceCtorEq, ↓reduceIte, nLT, nLE, nEQ, nAdd, nMul, nPow, nSub, zLT, zLE, zNat, RRefEye75, DB]
      refine hX ?_
      clear hX hY X Y
      refine awp_reg_seq ?_
      intro K hK
      simp only [↓DN, UP, DF, qSh, qCv, qIA, qIx, qSl, qBu, qCe, qOn, reduceCtorEq, ↓reduceIte, nLT, nLE, nEQ, nAdd, nMul, nPow, nSub, zLT, zLE, zNat, RRefEye75, hx]
      refine hK _ _ ?_
      clear hK K
      refine awp_reg_seq ?_
      intro K hK
      simp only [↓DN, UP, DF, qSh, qCv, qIA, qIx, qSl, qBu, qCe, qOn, reduceCtorEq, ↓reduceIte, nLT, nLE, nEQ, nAdd, nMul, nPow, nSub, zLT, zLE, zNat, RRefEye75]
      refine hK _ _ ?_
      clear hK K
      refine awp_ret ?_
      simp only [retQ, AEnds, aresL, ares, List.toList_toArray, ↓upd_same]; try simp only [↓DN, UP, DF, qSh, qCv, qIA, qIx, qSl, qBu, qCe, qOn, reduceCtorEq, ↓reduceIte, nLT, nLE, nEQ, nAdd, nMul, nPow, nSub, zLT, zLE, zNat, RRefEye75, DT]
      rw [eyeNum_short h1]
      exact ⟨_, _, AV.weak.refl _, AS.le.refl _, rfl, h.put⟩
    · have h1' : size ≤ l.length := by omega
      have hle : (size : Int) ≤ (l.length : Int) := by omega
      have hge : (0 : Int) ≤ (size : Int) := by omega
      refine awp_reg_seq ?_
      intro K hK
      simp only [↓DN, UP, DF, qSh, qCv, qIA, qIx, qSl, qBu, qCe, qOn, reduceCtorEq, ↓reduceIte, nLT, nLE, nEQ, nAdd, nMul, nPow, nSub, zLT, zLE, zNat, RRefEye75, hx, bs_size, eye_lt_nat, decide_eq_false h1]
      refine hK _ _ ?_
      clear hK K
      refine awp_cond_k ?_
      intro X Y hX hY
      simp only [↓DN, UP, DF, qSh, qCv, qIA, qIx, qSl, qBu, qCe, qOn, reduceCtorEq, ↓reduceIte, nLT, nLE, nEQ, nAdd, nMul, nPow, nSub, zLT, zLE, zNat, RRefEye75, DB]
      refine hY ?_
      clear hX hY X Y
      refine awp_skip ?_
      refine hK _ _ ?_
      clear hK K
      refine awp_reg_seq ?_
      intro K hK
      simp only [↓DN, UP, DF, qSh, qCv, qIA, qIx, qSl, qBu, qCe, qOn, reduceCtorEq, ↓reduceIte, nLT, nLE, nEQ, nAdd, nMul, nPow, nSub, zLT, zLE, zNat, RRefEye75, hx, bs_size, bs_extract, hle, hge]
      refine acallk (value_calls (l.take size) (by rw [List.length_take]; omega) s) ?_
      rintro r s' ⟨rfl, rfl⟩
      simp only [↓AXq_nil, ↓AXq_cons, pval, DX, Nat.reduceBEq, ↓DN, UP, DF, qSh, qCv, qIA, qIx, qSl, qBu, qCe, qOn, reduceCtorEq, ↓reduceIte, nLT, nLE, nEQ, nAdd, nMul, nPow, nSub, zLT, zLE, zNat, RRefEye75]
      refine hK _ _ ?_
      clear hK K
      refine awp_reg_seq ?_
      intro K hK
      simp only [↓DN, UP, DF, qSh, qCv, qIA, qIx, qSl, qBu, qCe, qOn, reduceCtorEq, ↓reduceIte, nLT, nLE, nEQ, nAdd, nMul, nPow, nSub, zLT, zLE, zNat, RRefEye75, hx, bs_size, bs_extract, hle, hge, Int.le_refl]
      refine hK _ _ ?_
      clear hK K
      refine awp_reg_seq ?_
      intro K hK
      simp only [↓DN, UP, DF, qSh, qCv, qIA, qIx, qSl, qBu, qCe, qOn, reduceCtorEq, ↓reduceIte, nLT, nLE, nEQ, nAdd, nMul, nPow, nSub, zLT, zLE, zNat, RRefEye75]
      refine hK _ _ ?_
      clear hK K
      refine awp_ret ?_
      simp only [retQ, AEnds, aresL, ares, List.toList_toArray, ↓upd_same]; try simp only [↓DN, UP, DF, qSh, qCv, qIA, qIx, qSl, qBu, qCe, qOn, reduceCtorEq, ↓reduceIte, nLT, nLE, nEQ, nAdd, nMul, nPow, nSub, zLT, zLE, zNat, RRefEye75, DT]
      rw [eyeNum_ok h1']
      refine ⟨_, _, AV.weak.refl _, AS.le.refl _, rfl, h.put' ?_⟩
      rw [List.take_length]
  · refine awp_reg_seq ?_
    intro K hK
    simp only [↓DN, UP, DF, qSh, qCv, qIA, qIx, qSl, qBu, qCe, qOn, reduceCtorEq, ↓reduceIte, nLT, nLE, nEQ, nAdd, nMul, nPow, nSub, zLT, zLE, zNat, RRefEye75, hx, i64_ne_true er h0]
    refine hK _ _ ?_
    clear hK K
    refine awp_cond_k ?_
    intro X Y hX hY
    simp only [↓DN, UP, DF, qSh, qCv, qIA, qIx, qSl, qBu, qCe, qOn, reduceCtorEq, ↓reduceIte, nLT, nLE, nEQ, nAdd, nMul, nPow, nSub, zLT, zLE, zNat, RRefEye75, DB]
    refine hX ?_
    clear hX hY X Y
    refine awp_reg_seq ?_
    intro K hK
    simp only [↓DN, UP, DF, qSh, qCv, qIA, qIx, qSl, qBu, qCe, qOn, reduceCtorEq, ↓reduceIte, nLT, nLE, nEQ, nAdd, nMul, nPow, nSub, zLT, zLE, zNat, RRefEye75]
    refine hK _ _ ?_
    clear hK K
    refine awp_ret ?_
    simp only [retQ, AEnds, aresL, ares, List.toList_toArray, ↓upd_same]; try simp only [↓DN, UP, DF, qSh, qCv, qIA, qIx, qSl, qBu, qCe, qOn, reduceCtorEq, ↓reduceIte, nLT, nLE, nEQ, nAdd, nMul, nPow, nSub, zLT, zLE, zNat, RRefEye75, DT]
    rw [eyeNum_err h0]
    exact ⟨_, _, AV.weak.refl _, AS.le.refl _, rfl, h⟩

set_option maxHeartbeats 1000000 in
theorem reyeText_calls (s0 s : AS) (p : Nat) (st : EyeSt) (size : Nat) (most : Int) (hs : size ≤ 7) (hl : st.1.length < 2 ^ 61) (h : REyeS s0 s p st) :
    ACalls Tryd.prog Γ 76 [.ptr p 0, .v (.int .i64 size), .v (.int .i64 most)] s (fun r s' => r = .v (.string ⟨(eyeText size most st).1.toArray⟩) ∧ REyeS s0 s' p (eyeText size most st).2) := by
  refine acalls_body Tryd.func76 rfl Tryd.ntmps76 Tryd.results76 (by simp) ?_
  have hx := h.obj
  obtain ⟨l, er⟩ := st
  simp only at hx hl
  refine awp_reg_seq ?_
  intro K hK
  simp only [↓DN, UP, DF, qSh, qCv, qIA, qIx, qSl, qBu, qCe, qOn, reduceCtorEq, ↓reduceIte, nLT, nLE, nEQ, nAdd, nMul, nPow, nSub, zLT, zLE, zNat, RRefEye76]
  refine hK _ _ ?_
  clear hK K
  refine awp_seq_k ?_
  intro K hK
  by_cases h0 : er = 0
  · subst h0
    refine awp_reg_seq ?_
    intro K hK
    simp only [↓DN, UP, DF, qSh, qCv, qIA, qIx, qSl, qBu, qCe, qOn, reduceCtorEq, ↓reduceIte, nLT, nLE, nEQ, nAdd, nMul, nPow, nSub, zLT, zLE, zNat, RRefEye76, hx, i64_ne_false 0 rfl]
    refine hK _ _ ?_
    clear hK K
    refine awp_cond_k ?_
    intro X Y hX hY
    simp only [↓DN, UP, DF, qSh, qCv, qIA, qIx, qSl, qBu, qCe, qOn, reduceCtorEq, ↓reduceIte, nLT, nLE, nEQ, nAdd, nMul, nPow, nSub, zLT, zLE, zNat, RRefEye76, DB]
    refine hY ?_
    clear hX hY X Y
    refine awp_skip ?_
    refine hK _ _ ?_
    clear hK K
    refine awp_seq_k ?_
    intro K hK
    by_cases h1 : l.length < size
    · refine awp_reg_seq ?_
      intro K hK
      simp only [↓DN, UP, DF, qSh, qCv, qIA, qIx, qSl, qBu, qCe, qOn, reduceCtorEq, ↓reduceIte, nLT, nLE, nEQ, nAdd, nMul, nPow, nSub, zLT, zLE, zNat, RRefEye76, hx, bs_size, eye_lt_nat, decide_eq_true h1]
      refine hK _ _ ?_
      clear hK K
      refine awp_cond_k ?_
      intro X Y hX hY
      simp only [↓DN, UP, DF, qSh, qCv, qIA, qIx, qSl, qBu, qCe, qOn, reduceCtorEq, ↓reduceIte, nLT, nLE, nEQ, nAdd, nMul, nPow, nSub, zLT, zLE, zNat, RRefEye76, DB]
      refine hX ?_
      clear hX hY X Y
      refine awp_reg_seq ?_
      intro K hK
      simp only [↓DN, UP, DF, qSh, qCv, qIA, qIx, qSl, qBu, qCe, qOn, reduceCtorEq, ↓reduceIte, nLT, nLE, nEQ, nAdd, nMul, nPow, nSub, zLT, zLE, zNat, RRefEye76, hx]
      refine hK _ _ ?_
      clear hK K
      refine awp_reg_seq ?_
      intro K hK
      simp only [↓DN, UP, DF, qSh, qCv, qIA, qIx, qSl, qBu, qCe, qOn, reduceCtorEq, ↓reduceIte, nLT, nLE, nEQ, nAdd, nMul, nPow, nSub, zLT, zLE, zNat, RRefEye76]
      refine hK _ _ ?_
      clear hK K
      refine awp_ret ?_
      simp only [retQ, AEnds, aresL, ares, List.toList_toArray, ↓upd_same]; try simp only [↓DN, UP, DF, qSh, qCv, qIA, qIx, qSl, qBu, qCe, qOn, reduceCtorEq, ↓reduceIte, nLT, nLE, nEQ, nAdd, nMul, nPow, nSub, zLT, zLE, zNat, RRefEye76, DT]
      rw [eyeText_short h1]
      exact ⟨_, _, AV.weak.refl _, AS.le.refl _, rfl, h.put⟩
    · have h1' : size ≤ l.length := by omega
      have hle : (size : Int) ≤ (l.length : Int) := by omega
      have hge : (0 : Int) ≤ (size : Int) := by omega
      refine awp_reg_seq ?_
      intro K hK
      simp only [↓DN, UP, DF, qSh, qCv, qIA, qIx, qSl, qBu, qCe, qOn, reduceCtorEq, ↓reduceIte, nLT, nLE, nEQ, nAdd, nMul, nPow, nSub, zLT, zLE, zNat, RRefEye76, hx, bs_size, eye_lt_nat, decide_eq_false h1]
      refine hK _ _ ?_
      clear hK K
      refine awp_cond_k ?_
      intro X Y hX hY
      simp only [↓DN, UP, DF, qSh, qCv, qIA, qIx, qSl, qBu, qCe, qOn, reduceCtorEq, ↓reduceIte, nLT, nLE, nEQ, nAdd, nMul, nPow, nSub, zLT, zLE, zNat, RRefEye76, DB]
      refine hY ?_
      clear hX hY X Y
      refine awp_skip ?_
      refine hK _ _ ?_
      clear hK K
      obtain ⟨n, hn⟩ : ∃ n, n = beNat (l.take size) := ⟨_, rfl⟩
      have hn7 : n < 2 ^ 56 := by
        rw [hn]
        refine Nat.lt_of_lt_of_le (beNat_take_lt l size) ?_
        rw [show (2 : Nat) ^ 56 = 256 ^ 7 from by decide]
        exact Nat.pow_le_pow_right (by decide) hs
      have hcv : iconv .i64 (n : Int) = n := iconv_i64 (by omega)
      refine awp_reg_seq ?_
      intro K hK
      simp only [↓DN, UP, DF, qSh, qCv, qIA, qIx, qSl, qBu, qCe, qOn, reduceCtorEq, ↓reduceIte, nLT, nLE, nEQ, nAdd, nMul, nPow, nSub, zLT, zLE, zNat, RRefEye76, hx, bs_size, bs_extract, hle, hge]
      refine acallk (value_calls (l.take size) (by rw [List.length_take]; omega) s) ?_
      rintro r s' ⟨rfl, rfl⟩
      rw [← hn]
      simp only [↓AXq_nil, ↓AXq_cons, pval, DX, Nat.reduceBEq, ↓DN, UP, DF, qSh, qCv, qIA, qIx, qSl, qBu, qCe, qOn, reduceCtorEq, ↓reduceIte, nLT, nLE, nEQ, nAdd, nMul, nPow, nSub, zLT, zLE, zNat, RRefEye76, hcv]
      refine hK _ _ ?_
      clear hK K
      refine awp_seq_k ?_
      intro K hK
      by_cases h2 : most < (n : Int)
      · refine awp_reg_seq ?_
        intro K hK
        simp only [↓DN, UP, DF, qSh, qCv, qIA, qIx, qSl, qBu, qCe, qOn, reduceCtorEq, ↓reduceIte, nLT, nLE, nEQ, nAdd, nMul, nPow, nSub, zLT, zLE, zNat, RRefEye76, decide_eq_true h2]
        refine hK _ _ ?_
        clear hK K
        refine awp_cond_k ?_
        intro X Y hX hY
        simp only [↓DN, UP, DF, qSh, qCv, qIA, qIx, qSl, qBu, qCe, qOn, reduceCtorEq, ↓reduceIte, nLT, nLE, nEQ, nAdd, nMul, nPow, nSub, zLT, zLE, zNat, RRefEye76, DB]
        refine hX ?_
        clear hX hY X Y
        refine awp_reg_seq ?_
        intro K hK
        simp only [↓DN, UP, DF, qSh, qCv, qIA, qIx, qSl, qBu, qCe, qOn, reduceCtorEq, ↓reduceIte, nLT, nLE, nEQ, nAdd, nMul, nPow, nSub, zLT, zLE, zNat, RRefEye76, hx]
        refine hK _ _ ?_
        clear hK K
        refine awp_reg_seq ?_
        intro K hK
        simp only [↓DN, UP, DF, qSh, qCv, qIA, qIx, qSl, qBu, qCe, qOn, reduceCtorEq, ↓reduceIte, nLT, nLE, nEQ, nAdd, nMul, nPow, nSub, zLT, zLE, zNat, RRefEye76]
        refine hK _ _ ?_
        clear hK K
        refine awp_ret ?_
        simp only [retQ, AEnds, aresL, ares, List.toList_toArray, ↓upd_same]; try simp only [↓DN, UP, DF, qSh, qCv, qIA, qIx, qSl, qBu, qCe, qOn, reduceCtorEq, ↓reduceIte, nLT, nLE, nEQ, nAdd, nMul, nPow, nSub, zLT, zLE, zNat, RRefEye76, DT]
        rw [eyeText_long h1' (by rw [← hn]; exact h2)]
        exact ⟨_, _, AV.weak.refl _, AS.le.refl _, rfl, h.put⟩
      · refine awp_reg_seq ?_
        intro K hK
        simp only [↓DN, UP, DF, qSh, qCv, qIA, qIx, qSl, qBu, qCe, qOn, reduceCtorEq, ↓reduceIte, nLT, nLE, nEQ, nAdd, nMul, nPow, nSub, zLT, zLE, zNat, RRefEye76, decide_eq_false h2]
        refine hK _ _ ?_
        clear hK K
        refine awp_cond_k ?_
        intro X Y hX hY
        simp only [↓DN, UP, DF, qSh, qCv, qIA, qIx, qSl, qBu, qCe, qOn, reduceCtorEq, ↓reduceIte, nLT, nLE, nEQ, nAdd, nMul, nPow, nSub, zLT, zLE, zNat, RRefEye76, DB]
        refine hY ?_
        clear hX hY X Y
        refine awp_skip ?_
        refine hK _ _ ?_
        clear hK K
        refine awp_seq_k ?_
        intro K hK
        have hsub : isub .i64 (l.length : Int) (size : Int) = ((l.length - size : Nat) : Int) := by rw [isub_i64 (by omega)]; omega
        by_cases h3 : l.length - size < n
        · refine awp_reg_seq ?_
          intro K hK
          simp only [↓DN, UP, DF, qSh, qCv, qIA, qIx, qSl, qBu, qCe, qOn, reduceCtorEq, ↓reduceIte, nLT, nLE, nEQ, nAdd, nMul, nPow, nSub, zLT, zLE, zNat, RRefEye76, hx, bs_size, hsub, eye_lt_nat, decide_eq_true h3]
          refine hK _ _ ?_
          clear hK K
          refine awp_cond_k ?_
          intro X Y hX hY
          simp only [↓DN, UP, DF, qSh, qCv, qIA, qIx, qSl, qBu, qCe, qOn, reduceCtorEq, ↓reduceIte, nLT, nLE, nEQ, nAdd, nMul, nPow, nSub, zLT, zLE, zNat, RRefEye76, DB]
          refine hX ?_
          clear hX hY X Y
          refine awp_reg_seq ?_
          intro K hK
          simp only [↓DN, UP, DF, qSh, qCv, qIA, qIx, qSl, qBu, qCe, qOn, reduceCtorEq, ↓reduceIte, nLT, nLE, nEQ, nAdd, nMul, nPow, nSub, zLT, zLE, zNat, RRefEye76, hx]
          refine hK _ _ ?_
          clear hK K
          refine awp_reg_seq ?_
          intro K hK
          simp only [↓DN, UP, DF, qSh, qCv, qIA, qIx, qSl, qBu, qCe, qOn, reduceCtorEq, ↓reduceIte, nLT, nLE, nEQ, nAdd, nMul, nPow, nSub, zLT, zLE, zNat, RRefEye76]
          refine hK _ _ ?_
          clear hK K
          refine awp_ret ?_
          simp only [retQ, AEnds, aresL, ares, List.toList_toArray, ↓upd_same]; try simp only [↓DN, UP, DF, qSh, qCv, qIA, qIx, qSl, qBu, qCe, qOn, reduceCtorEq, ↓reduceIte, nLT, nLE, nEQ, nAdd, nMul, nPow, nSub, zLT, zLE, zNat, RRefEye76, DT]
          rw [eyeText_less h1' (by rw [← hn]; exact h2) (by rw [← hn]; exact h3)]
          exact ⟨_, _, AV.weak.refl _, AS.le.refl _, rfl, h.put⟩
        · have hadd : iadd .i64 (size : Int) (n : Int) = ((size + n : Nat) : Int) := by rw [iadd_i64 (by omega)]; rfl
          have hle2 : (size : Int) ≤ ((size + n : Nat) : Int) := by omega
          have hle3 : ((size + n : Nat) : Int) ≤ (l.length : Int) := by omega
          have hge2 : (0 : Int) ≤ ((size + n : Nat) : Int) := by omega
          refine awp_reg_seq ?_
          intro K hK
          simp only [↓DN, UP, DF, qSh, qCv, qIA, qIx, qSl, qBu, qCe, qOn, reduceCtorEq, ↓reduceIte, nLT, nLE, nEQ, nAdd, nMul, nPow, nSub, zLT, zLE, zNat, RRefEye76, hx, bs_size, hsub, eye_lt_nat, decide_eq_false h3]
          refine hK _ _ ?_
          clear hK K
          refine awp_cond_k ?_
          intro X Y hX hY
          simp only [↓DN, UP, DF, qSh, qCv, qIA, qIx, qSl, qBu, qCe, qOn, reduceCtorEq, ↓reduceIte, nLT, nLE, nEQ, nAdd, nMul, nPow, nSub, zLT, zLE, zNat, RRefEye76, DB]
          refine hY ?_
          clear hX hY X Y
          refine awp_skip ?_
          refine hK _ _ ?_
          clear hK K
          refine awp_reg_seq ?_
          intro K hK
          simp only [↓DN, UP, DF, qSh, qCv, qIA, qIx, qSl, qBu, qCe, qOn, reduceCtorEq, ↓reduceIte, nLT, nLE, nEQ, nAdd, nMul, nPow, nSub, zLT, zLE, zNat, RRefEye76, hx, bs_size, bs_extract, hge, hadd, hle2, hle3]
          refine hK _ _ ?_
          clear hK K
          refine awp_reg_seq ?_
          intro K hK
          simp only [↓DN, UP, DF, qSh, qCv, qIA, qIx, qSl, qBu, qCe, qOn, reduceCtorEq, ↓reduceIte, nLT, nLE, nEQ, nAdd, nMul, nPow, nSub, zLT, zLE, zNat, RRefEye76, hx, bs_size, bs_extract, hadd, hge2, hle3, Int.le_refl]
          refine hK _ _ ?_
          clear hK K
          refine awp_reg_seq ?_
          intro K hK
          simp only [↓DN, UP, DF, qSh, qCv, qIA, qIx, qSl, qBu, qCe, qOn, reduceCtorEq, ↓reduceIte, nLT, nLE, nEQ, nAdd, nMul, nPow, nSub, zLT, zLE, zNat, RRefEye76]
          refine hK _ _ ?_
          clear hK K
          refine awp_ret ?_
          simp only [retQ, AEnds, aresL, ares, List.toList_toArray, ↓upd_same]; try simp only [↓DN, UP, DF, qSh, qCv, qIA, qIx, qSl, qBu, qCe, qOn, reduceCtorEq, ↓reduceIte, nLT, nLE, nEQ, nAdd, nMul, nPow, nSub, zLT, zLE, zNat, RRefEye76, DT]
          rw [eyeText_ok h1' (by rw [← hn]; exact h2) (by rw [← hn]; exact h3), ← hn]
          refine ⟨_, _, AV.weak.refl _, AS.le.refl _, rfl, h.put' ?_⟩
          rw [List.take_length]
  · refine awp_reg_seq ?_
    intro K hK
    simp only [↓DN, UP, DF, qSh, qCv, qIA, qIx, qSl, qBu, qCe, qOn, reduceCtorEq, ↓reduceIte, nLT, nLE, nEQ, nAdd, nMul, nPow, nSub, zLT, zLE, zNat, RRefEye76, hx, i64_ne_true er h0]
    refine hK _ _ ?_
    clear hK K
    refine awp_cond_k ?_
    intro X Y hX hY
    simp only [↓DN, UP, DF, qSh, qCv, qIA, qIx, qSl, qBu, qCe, qOn, reduceCtorEq, ↓reduceIte, nLT, nLE, nEQ, nAdd, nMul, nPow, nSub, zLT, zLE, zNat, RRefEye76, DB]
    refine hX ?_
    clear hX hY X Y
    refine awp_reg_seq ?_
    intro K hK
    simp only [↓DN, UP, DF, qSh, qCv, qIA, qIx, qSl, qBu, qCe, qOn, reduceCtorEq, ↓reduceIte, nLT, nLE, nEQ, nAdd, nMul, nPow, nSub, zLT, zLE, zNat, RRefEye76]
    refine hK _ _ ?_
    clear hK K
    refine awp_ret ?_
    simp only [retQ, AEnds, aresL, ares, List.toList_toArray, ↓upd_same]; try simp only [↓DN, UP, DF, qSh, qCv, qIA, qIx, qSl, qBu, qCe, qOn, reduceCtorEq, ↓reduceIte, nLT, nLE, nEQ, nAdd, nMul, nPow, nSub, zLT, zLE, zNat, RRefEye76, DT]
    rw [eyeText_err h0]
    exact ⟨_, _, AV.weak.refl _, AS.le.refl _, rfl, h⟩

set_option maxHeartbeats 400000 in
theorem reyeEnd_calls (s0 s : AS) (p : Nat) (st : EyeSt) (h : REyeS s0 s p st) :
    ACalls Tryd.prog Γ 42 [.ptr p 0] s (fun r s' => r = .v (.int .i64 (eyeEnd st)) ∧ s' = s) := by
  refine acalls_body Tryd.func42 rfl Tryd.ntmps42 Tryd.results42 (by simp) ?_
  have hx := h.obj
  obtain ⟨l, er⟩ := st
  simp only at hx
  refine awp_reg_seq ?_
  intro K hK
  simp only [↓DN, UP, DF, qSh, qCv, qIA, qIx, qSl, qBu, qCe, qOn, reduceCtorEq, ↓reduceIte, nLT, nLE, nEQ, nAdd, nMul, nPow, nSub, zLT, zLE, zNat, RRefEye42]
  refine hK _ _ ?_
  clear hK K
  refine awp_seq_k ?_
  intro K hK
  have hgo : ∀ E1 : Env, E1 0 = .ptr p 0 → eyeEnd (l, er) = er → K E1 s := by
    intro E1 e0 e
    refine hK _ _ ?_
    clear hK K
    refine awp_reg_seq ?_
    intro K hK
    simp only [↓DN, UP, DF, qSh, qCv, qIA, qIx, qSl, qBu, qCe, qOn, reduceCtorEq, ↓reduceIte, nLT, nLE, nEQ, nAdd, nMul, nPow, nSub, zLT, zLE, zNat, RRefEye42, e0, hx]
    refine hK _ _ ?_
    clear hK K
    refine awp_ret ?_
    simp only [retQ, AEnds, aresL, ares, List.toList_toArray, ↓upd_same]; try simp only [↓DN, UP, DF, qSh, qCv, qIA, qIx, qSl, qBu, qCe, qOn, reduceCtorEq, ↓reduceIte, nLT, nLE, nEQ, nAdd, nMul, nPow, nSub, zLT, zLE, zNat, RRefEye42, DT]
    exact ⟨_, _, AV.weak.refl _, AS.le.refl _, by rw [e], rfl⟩
  clear hK
  by_cases h0 : er = 0
  · by_cases h1 : 0 < l.length
    · refine awp_reg_seq ?_
      intro K hK
      simp only [↓DN, UP, DF, qSh, qCv, qIA, qIx, qSl, qBu, qCe, qOn, reduceCtorEq, ↓reduceIte, nLT, nLE, nEQ, nAdd, nMul, nPow, nSub, zLT, zLE, zNat, RRefEye42, hx, i64_eq_true er h0, bs_size, decide_eq_true (show (0 : Int) < (l.length : Int) by omega)]
      refine hK _ _ ?_
      clear hK K
      refine awp_cond_k ?_
      intro X Y hX hY
      simp only [↓DN, UP, DF, qSh, qCv, qIA, qIx, qSl, qBu, qCe, qOn, reduceCtorEq, ↓reduceIte, nLT, nLE, nEQ, nAdd, nMul, nPow, nSub, zLT, zLE, zNat, RRefEye42, DB]
      refine hX ?_
      clear hX hY X Y
      refine awp_reg_seq ?_
      intro K hK
      simp only [↓DN, UP, DF, qSh, qCv, qIA, qIx, qSl, qBu, qCe, qOn, reduceCtorEq, ↓reduceIte, nLT, nLE, nEQ, nAdd, nMul, nPow, nSub, zLT, zLE, zNat, RRefEye42]
      refine hK _ _ ?_
      clear hK K
      refine awp_ret ?_
      simp only [retQ, AEnds, aresL, ares, List.toList_toArray, ↓upd_same]; try simp only [↓DN, UP, DF, qSh, qCv, qIA, qIx, qSl, qBu, qCe, qOn, reduceCtorEq, ↓reduceIte, nLT, nLE, nEQ, nAdd, nMul, nPow, nSub, zLT, zLE, zNat, RRefEye42, DT]
      exact ⟨_, _, AV.weak.refl _, AS.le.refl _, by simp [eyeEnd, h0, h1, atuple], rfl⟩
    · refine awp_reg_seq ?_
      intro K hK
      simp only [↓DN, UP, DF, qSh, qCv, qIA, qIx, qSl, qBu, qCe, qOn, reduceCtorEq, ↓reduceIte, nLT, nLE, nEQ, nAdd, nMul, nPow, nSub, zLT, zLE, zNat, RRefEye42, hx, i64_eq_true er h0, bs_size, decide_eq_false (show ¬ (0 : Int) < (l.length : Int) by omega)]
      refine hK _ _ ?_
      clear hK K
      refine awp_cond_k ?_
      intro X Y hX hY
      simp only [↓DN, UP, DF, qSh, qCv, qIA, qIx, qSl, qBu, qCe, qOn, reduceCtorEq, ↓reduceIte, nLT, nLE, nEQ, nAdd, nMul, nPow, nSub, zLT, zLE, zNat, RRefEye42, DB]
      refine hY ?_
      clear hX hY X Y
      refine awp_skip ?_
      exact hgo _ (by simp only [upd, initE, List.getD_cons_zero, nEQ, ↓reduceIte]) (by simp [eyeEnd, h1])
  · refine awp_reg_seq ?_
    intro K hK
    simp only [↓DN, UP, DF, qSh, qCv, qIA, qIx, qSl, qBu, qCe, qOn, reduceCtorEq, ↓reduceIte, nLT, nLE, nEQ, nAdd, nMul, nPow, nSub, zLT, zLE, zNat, RRefEye42, hx, i64_eq_false er h0]
    refine hK _ _ ?_
    clear hK K
    refine awp_cond_k ?_
    intro X Y hX hY
    simp only [↓DN, UP, DF, qSh, qCv, qIA, qIx, qSl, qBu, qCe, qOn, reduceCtorEq, ↓reduceIte, nLT, nLE, nEQ, nAdd, nMul, nPow, nSub, zLT, zLE, zNat, RRefEye42, DB]
    refine hY ?_
    clear hX hY X Y
    refine awp_skip ?_
    exact hgo _ (by simp only [upd, initE, List.getD_cons_zero, nEQ, ↓reduceIte]) (by simp [eyeEnd, h0])

end Go.Proofs.YtooeklnbdgoneaaDoor


set_option autoImplicit false
namespace Go.Proofs.YtooeklnbdgoneaaDoor
open Go Go.AM Go.Proofs



variable {Γ : Nat → List AV}



theorem open_set (l : List UInt8) (s : AS) (hl : l.length ≤ 2 ^ 45) : ACalls Tryd.prog Γ 37 [bytesV l .any] s (fun r s' => ∃ p, s.objs p = none ∧ r = .ptr p 0 ∧ s' = s.set p (eyeC (l, 0))) := EyeS.open (open_calls l s hl)
theorem eyeU64_set (s : AS) (p : Nat) (st : EyeSt) (h : s.objs p = some (eyeC st)) : ACalls Tryd.prog Γ 71 [.ptr p 0] s (fun r s' => r = .v (.int .u64 (eyeNum 8 st).1) ∧ s' = s.set p (eyeC (eyeNum 8 st).2)) := EyeS.call (eyeU64_calls _ s p st (EyeS.at h))
theorem eyeLong_set (s : AS) (p : Nat) (st : EyeSt) (most : Int) (hl : st.1.length ≤ 2 ^ 45) (h : s.objs p = some (eyeC st)) : ACalls Tryd.prog Γ 73 [.ptr p 0, .v (.int .i64 most)] s (fun r s' => r = bytesV (eyeText 2 most st).1 .any ∧ s' = s.set p (eyeC (eyeText 2 most st).2)) := EyeS.call (eyeLong_calls _ s p st most hl (EyeS.at h))
theorem eyeFail_set (s : AS) (p : Nat) (st : EyeSt) (e : Int) (h : s.objs p = some (eyeC st)) : ACalls Tryd.prog Γ 72 [.ptr p 0, .v (.int .i64 e)] s (fun r s' => r = .tup [] ∧ s' = s.set p (eyeC (st.1, if st.2 = 0 then e else st.2))) := EyeS.call (eyeFail_calls _ s p st e (EyeS.at h))
theorem eyeEnd_at (s : AS) (p : Nat) (st : EyeSt) (h : s.objs p = some (eyeC st)) : ACalls Tryd.prog Γ 41 [.ptr p 0] s (fun r s' => r = .v (.int .i64 (eyeEnd st)) ∧ s' = s) := eyeEnd_calls _ s p st (EyeS.at h)
theorem eyeErr_at (s : AS) (p : Nat) (st : EyeSt) (h : s.objs p = some (eyeC st)) : ACalls Tryd.prog Γ 74 [.ptr p 0] s (fun r s' => r = .v (.int .i64 st.2) ∧ s' = s) := eyeErr_calls _ s p st (EyeS.at h)
theorem reyeNumber_set (s : AS) (p : Nat) (st : EyeSt) (size : Nat) (hs : size ≤ 8) (hl : st.1.length < 2 ^ 61) (h : s.objs p = some (reyeC st)) : ACalls Tryd.prog Γ 75 [.ptr p 0, .v (.int .i64 size)] s (fun r s' => r = .v (.int .u64 (eyeNum size st).1) ∧ s' = s.set p (reyeC (eyeNum size st).2)) := REyeS.call (reyeNumber_calls _ s p st size hs hl (REyeS.at h))
theorem reyeText_set (s : AS) (p : Nat) (st : EyeSt) (size : Nat) (most : Int) (hs : size ≤ 7) (hl : st.1.length < 2 ^ 61) (h : s.objs p = some (reyeC st)) : ACalls Tryd.prog Γ 76 [.ptr p 0, .v (.int .i64 size), .v (.int .i64 most)] s (fun r s' => r = .v (.string ⟨(eyeText size most st).1.toArray⟩) ∧ s' = s.set p (reyeC (eyeText size most st).2)) := REyeS.call (reyeText_calls _ s p st size most hs hl (REyeS.at h))
theorem reyeEnd_at (s : AS) (p : Nat) (st : EyeSt) (h : s.objs p = some (reyeC st)) : ACalls Tryd.prog Γ 42 [.ptr p 0] s (fun r s' => r = .v (.int .i64 (eyeEnd st)) ∧ s' = s) := reyeEnd_calls _ s p st (REyeS.at h)

end Go.Proofs.YtooeklnbdgoneaaDoor


set_option autoImplicit false
namespace Go.AM
open Go

/-! ### What is written is read back; and what is cut off is too short -/
theorem take_be {k n : Nat} (m : List UInt8) : (be k n ++ m).take k = be k n := by
  rw [List.take_append_of_le_length (by simp), List.take_of_length_le (by simp)]
theorem drop_be {k n : Nat} (m : List UInt8) : (be k n ++ m).drop k = m := by
  rw [List.drop_append_of_le_length (by simp), List.drop_eq_nil_of_le (by simp)]; rfl
theorem eyeNum_be {k n : Nat} {rest : List UInt8} (h : n < 256 ^ k) : eyeNum k (be k n ++ rest, 0) = (n, rest, 0) := by
  rw [eyeNum_ok (by simp), take_be, drop_be, beNat_be k n h]
theorem eyeText_be {k : Nat} {m rest : List UInt8} {most : Int} (h : m.length < 256 ^ k) (hm : (m.length : Int) ≤ most) : eyeText k most (be k m.length ++ m ++ rest, 0) = (m, rest, 0) := by
  unfold eyeText
  rw [List.append_assoc, eyeNum_be h]
  refine (if_pos rfl).trans ((if_neg (by simp only; omega)).trans ((if_neg (by simp)).trans ?_))
  simp only
  rw [eyeNext_ok (by simp), List.take_left, List.drop_left]
end Go.AM


set_option autoImplicit false
namespace Go.AM
open Go

/-! ### Slices of whole numbers; nodes -/
def intC (n : Int) : AV := .v (.int .i64 n)
def intsV (l : List Int) (sp : Sp) : AV := .sl 1 l.length (l.map intC) sp
structure NodeV where
  kind : Int
  name : List UInt8
  key : Nat
  parent : List UInt8
  unm : List Int
  deriving DecidableEq
def NodeV.cells (n : NodeV) : List AV := [.v (.int .i64 n.kind), bytesV n.name .any, .v (.int .u64 n.key), bytesV n.parent .any, intsV n.unm .any]
def NodeV.nought : NodeV := ⟨0, [], 0, [], []⟩

def okAt (l : List Int) (i : Nat) : Prop := 0 ≤ l.getD i 0 ∧ l.getD i 0 < 32 ∧ (0 < i → l.getD (i - 1) 0 < l.getD i 0)
instance decOkAt (l : List Int) (i : Nat) : Decidable (okAt l i) := by unfold okAt; infer_instance
def Rising (l : List Int) : Prop := ∀ i, i < l.length → okAt l i
instance decRising (l : List Int) : Decidable (Rising l) := by unfold Rising; infer_instance
def NodeV.held (N : NodeV) : Prop := 2 ≤ N.key ∧ N.key ≤ 2305843009213693949 ∧ (N.parent.length = 0 ∨ N.parent.length = 32)
instance decNodeHeld (N : NodeV) : Decidable N.held := by unfold NodeV.held; infer_instance
def NodeV.right (N : NodeV) : Prop :=
  if N.kind = 0 then N = NodeV.nought
  else if N.kind = 1 then (1 ≤ N.name.length ∧ N.name.length ≤ 16 ∧ N.held ∧ N.unm.length = 0)
  else if N.kind = 2 then (N.name.length = 0 ∧ N.held ∧ Rising N.unm)
  else False
instance decNodeRight (N : NodeV) : Decidable N.right := by unfold NodeV.right; infer_instance
theorem right_one {N : NodeV} (h : N.kind = 1) : N.right ↔ (1 ≤ N.name.length ∧ N.name.length ≤ 16 ∧ N.held ∧ N.unm.length = 0) := by unfold NodeV.right; rw [if_neg (by omega), if_pos h]
theorem right_two {N : NodeV} (h : N.kind = 2) : N.right ↔ (N.name.length = 0 ∧ N.held ∧ Rising N.unm) := by unfold NodeV.right; rw [if_neg (by omega), if_neg (by omega), if_pos h]
end Go.AM


set_option autoImplicit false
namespace Go.Proofs.YtooeklnbdgoneaaDoor
open Go Go.AM Go.Proofs

theorem RNode160 : type_of% (And.intro (And.intro (And.intro @Tryd.underlying41 T.c41) (And.intro T.g41 (And.intro T.b41 T.z41))) Tryd.ntmps60) :=
  (And.intro (And.intro (And.intro @Tryd.underlying41 T.c41) (And.intro T.g41 (And.intro T.b41 T.z41))) Tryd.ntmps60)
theorem RNode133 : type_of% (And.intro (And.intro (And.intro @Tryd.underlying41 T.c41) (And.intro T.g41 (And.intro T.b41 T.z41))) Tryd.ntmps33) :=
  (And.intro (And.intro (And.intro @Tryd.underlying41 T.c41) (And.intro T.g41 (And.intro T.b41 T.z41))) Tryd.ntmps33)

variable {Γ : Nat → List AV}



set_option maxHeartbeats 400000 in
theorem powerRight_calls (n : Nat) (s : AS) : ACalls Tryd.prog Γ 60 [.v (.int .u64 n)] s (fun r s' => r = .v (.bool (decide (2 ≤ (n : Int)) && decide ((n : Int) ≤ 2305843009213693949))) ∧ s' = s) := by
  refine acalls_body Tryd.func60 rfl Tryd.ntmps60 Tryd.results60 (by simp) ?_
  rcases ff2 (decide (2 ≤ (n : Int))) (decide ((n : Int) ≤ 2305843009213693949)) with hd | hd | hd
  all_goals
    refine awp_reg_seq ?_
    intro K hK
    simp only [↓DN, UP, DF, qSh, qCv, qIA, qIx, qSl, qBu, qCe, qOn, reduceCtorEq, ↓reduceIte, nLT, nLE, nEQ, nAdd, nMul, nPow, nSub, zLT, zLE, zNat, RNode160]
    refine hK _ _ ?_
    clear hK K
    refine awp_reg_seq ?_
    intro K hK
    simp only [↓DN, UP, DF, qSh, qCv, qIA, qIx, qSl, qBu, qCe, qOn, reduceCtorEq, ↓reduceIte, nLT, nLE, nEQ, nAdd, nMul, nPow, nSub, zLT, zLE, zNat, RNode160, hd]
    refine hK _ _ ?_
    clear hK K
    refine awp_ret ?_
    simp only [retQ, AEnds, aresL, ares, List.toList_toArray, ↓upd_same]; try simp only [↓DN, UP, DF, qSh, qCv, qIA, qIx, qSl, qBu, qCe, qOn, reduceCtorEq, ↓reduceIte, nLT, nLE, nEQ, nAdd, nMul, nPow, nSub, zLT, zLE, zNat, RNode160, DT]
    refine ⟨_, _, AV.weak.refl _, AS.le.refl _, ?_, rfl⟩
    simp only [hd, Bool.and_true, Bool.true_and, Bool.false_and, Bool.and_false]

set_option maxHeartbeats 400000 in
theorem refRight07_calls (n : Nat) (s : AS) : ACalls Tryd.prog Γ 33 [.v (.int .u64 n)] s (fun r s' => r = .v (.bool (decide (2 ≤ (n : Int)) && decide ((n : Int) ≤ 2305843009213693949))) ∧ s' = s) := by
  refine acalls_body Tryd.func33 rfl Tryd.ntmps33 Tryd.results33 (by simp) ?_
  rcases ff2 (decide (2 ≤ (n : Int))) (decide ((n : Int) ≤ 2305843009213693949)) with hd | hd | hd
  all_goals
    refine awp_reg_seq ?_
    intro K hK
    simp only [↓DN, UP, DF, qSh, qCv, qIA, qIx, qSl, qBu, qCe, qOn, reduceCtorEq, ↓reduceIte, nLT, nLE, nEQ, nAdd, nMul, nPow, nSub, zLT, zLE, zNat, RNode133]
    refine hK _ _ ?_
    clear hK K
    refine awp_reg_seq ?_
    intro K hK
    simp only [↓DN, UP, DF, qSh, qCv, qIA, qIx, qSl, qBu, qCe, qOn, reduceCtorEq, ↓reduceIte, nLT, nLE, nEQ, nAdd, nMul, nPow, nSub, zLT, zLE, zNat, RNode133, hd]
    refine hK _ _ ?_
    clear hK K
    refine awp_ret ?_
    simp only [retQ, AEnds, aresL, ares, List.toList_toArray, ↓upd_same]; try simp only [↓DN, UP, DF, qSh, qCv, qIA, qIx, qSl, qBu, qCe, qOn, reduceCtorEq, ↓reduceIte, nLT, nLE, nEQ, nAdd, nMul, nPow, nSub, zLT, zLE, zNat, RNode133, DT]
    refine ⟨_, _, AV.weak.refl _, AS.le.refl _, ?_, rfl⟩
    simp only [hd, Bool.and_true, Bool.true_and, Bool.false_and, Bool.and_false]

end Go.Proofs.YtooeklnbdgoneaaDoor


set_option autoImplicit false
namespace Go.Proofs.YtooeklnbdgoneaaDoor
open Go Go.AM Go.Proofs

theorem RPower125 : type_of% (And.intro (And.intro (And.intro @Tryd.underlying41 T.c41) (And.intro T.g41 (And.intro T.b41 T.z41))) Tryd.ntmps125) :=
  (And.intro (And.intro (And.intro @Tryd.underlying41 T.c41) (And.intro T.g41 (And.intro T.b41 T.z41))) Tryd.ntmps125)
theorem RPower124 : type_of% (And.intro (And.intro (And.intro @Tryd.underlying41 T.c41) (And.intro T.g41 (And.intro T.b41 T.z41))) Tryd.ntmps124) :=
  (And.intro (And.intro (And.intro @Tryd.underlying41 T.c41) (And.intro T.g41 (And.intro T.b41 T.z41))) Tryd.ntmps124)
theorem RPower113 : type_of% (And.intro (And.intro (And.intro @Tryd.underlying41 (And.intro T.c41 T.g41)) (And.intro (And.intro T.b41 T.z41) (And.intro T.k125 T.k124))) Tryd.ntmps113) :=
  (And.intro (And.intro (And.intro @Tryd.underlying41 (And.intro T.c41 T.g41)) (And.intro (And.intro T.b41 T.z41) (And.intro T.k125 T.k124))) Tryd.ntmps113)
theorem RPower91 : type_of% (And.intro (And.intro (And.intro @Tryd.underlying41 (And.intro T.c41 T.g41)) (And.intro T.b41 (And.intro T.z41 T.k113))) Tryd.ntmps91) :=
  (And.intro (And.intro (And.intro @Tryd.underlying41 (And.intro T.c41 T.g41)) (And.intro T.b41 (And.intro T.z41 T.k113))) Tryd.ntmps91)

variable {Γ : Nat → List AV}

set_option maxHeartbeats 400000 in
theorem fold_calls (n : Nat) (hn : n < 2 ^ 64) (s : AS) : ACalls Tryd.prog Γ 125 [.v (.int .u64 n)] s (fun r s' => r = .v (.int .u64 (n % PP : Nat)) ∧ s' = s) := by
  refine acalls_body Tryd.func125 rfl Tryd.ntmps125 Tryd.results125 (by simp) ?_
  refine awp_reg_seq ?_
  intro K hK
  simp only [↓DN, UP, DF, qSh, qCv, qIA, qIx, qSl, qBu, qCe, qOn, reduceCtorEq, ↓reduceIte, nLT, nLE, nEQ, nAdd, nMul, nPow, nSub, zLT, zLE, zNat, RPower125]
  refine hK _ _ ?_
  clear hK K
  refine awp_reg_seq ?_
  intro K hK
  simp only [↓DN, UP, DF, qSh, qCv, qIA, qIx, qSl, qBu, qCe, qOn, reduceCtorEq, ↓reduceIte, nLT, nLE, nEQ, nAdd, nMul, nPow, nSub, zLT, zLE, zNat, RPower125]
  refine hK _ _ ?_
  clear hK K
  refine awp_seq_k ?_
  intro K hK
  have hf := fold_plain n hn
  unfold foldRaw at hf
  simp only at hf
  refine awp_reg_seq ?_
  intro K hK
  simp only [↓DN, UP, DF, qSh, qCv, qIA, qIx, qSl, qBu, qCe, qOn, reduceCtorEq, ↓reduceIte, nLT, nLE, nEQ, nAdd, nMul, nPow, nSub, zLT, zLE, zNat, RPower125]
  refine hK _ _ ?_
  clear hK K
  by_cases hc : (2305843009213693951 : Int) ≤ iadd .u64 (iand .u64 n 2305843009213693951) (ishr .u64 n 61)
  · rw [if_pos hc] at hf
    refine awp_cond_k ?_
    intro X Y hX hY
    simp only [↓DN, UP, DF, qSh, qCv, qIA, qIx, qSl, qBu, qCe, qOn, reduceCtorEq, ↓reduceIte, nLT, nLE, nEQ, nAdd, nMul, nPow, nSub, zLT, zLE, zNat, RPower125, DB, hc]
    refine hX ?_
    clear hX hY X Y
    refine awp_reg_end ?_
    intro K hK
    simp only [↓DN, UP, DF, qSh, qCv, qIA, qIx, qSl, qBu, qCe, qOn, reduceCtorEq, ↓reduceIte, nLT, nLE, nEQ, nAdd, nMul, nPow, nSub, zLT, zLE, zNat, RPower125]
    refine hK _ _ ?_
    clear hK K
    refine hK _ _ ?_
    clear hK K
    refine awp_reg_seq ?_
    intro K hK
    simp only [↓DN, UP, DF, qSh, qCv, qIA, qIx, qSl, qBu, qCe, qOn, reduceCtorEq, ↓reduceIte, nLT, nLE, nEQ, nAdd, nMul, nPow, nSub, zLT, zLE, zNat, RPower125]
    refine hK _ _ ?_
    clear hK K
    refine awp_ret ?_
    simp only [retQ, AEnds, aresL, ares, List.toList_toArray, ↓upd_same]; try simp only [↓DN, UP, DF, qSh, qCv, qIA, qIx, qSl, qBu, qCe, qOn, reduceCtorEq, ↓reduceIte, nLT, nLE, nEQ, nAdd, nMul, nPow, nSub, zLT, zLE, zNat, RPower125, DT]
    exact ⟨_, _, AV.weak.refl _, AS.le.refl _, by rw [hf], rfl⟩
  · rw [if_neg hc] at hf
    refine awp_cond_k ?_
    intro X Y hX hY
    simp only [↓DN, UP, DF, qSh, qCv, qIA, qIx, qSl, qBu, qCe, qOn, reduceCtorEq, ↓reduceIte, nLT, nLE, nEQ, nAdd, nMul, nPow, nSub, zLT, zLE, zNat, RPower125, DB, hc]
    refine hY ?_
    clear hX hY X Y
    refine awp_skip ?_
    refine hK _ _ ?_
    clear hK K
    refine awp_reg_seq ?_
    intro K hK
    simp only [↓DN, UP, DF, qSh, qCv, qIA, qIx, qSl, qBu, qCe, qOn, reduceCtorEq, ↓reduceIte, nLT, nLE, nEQ, nAdd, nMul, nPow, nSub, zLT, zLE, zNat, RPower125]
    refine hK _ _ ?_
    clear hK K
    refine awp_ret ?_
    simp only [retQ, AEnds, aresL, ares, List.toList_toArray, ↓upd_same]; try simp only [↓DN, UP, DF, qSh, qCv, qIA, qIx, qSl, qBu, qCe, qOn, reduceCtorEq, ↓reduceIte, nLT, nLE, nEQ, nAdd, nMul, nPow, nSub, zLT, zLE, zNat, RPower125, DT]
    exact ⟨_, _, AV.weak.refl _, AS.le.refl _, by rw [hf], rfl⟩

set_option maxHeartbeats 800000 in
theorem mul64_calls (x y : Nat) (hx : x < 2 ^ 64) (hy : y < 2 ^ 64) (s : AS) : ACalls Tryd.prog Γ 124 [.v (.int .u64 x), .v (.int .u64 y)] s
    (fun r s' => r = .tup [.v (.int .u64 (x * y / 18446744073709551616 : Nat)), .v (.int .u64 (x * y % 18446744073709551616 : Nat))] ∧ s' = s) := by
  refine acalls_body Tryd.func124 rfl Tryd.ntmps124 Tryd.results124 (by simp) ?_
  refine awp_reg_seq ?_
  intro K hK
  simp only [↓DN, UP, DF, qSh, qCv, qIA, qIx, qSl, qBu, qCe, qOn, reduceCtorEq, ↓reduceIte, nLT, nLE, nEQ, nAdd, nMul, nPow, nSub, zLT, zLE, zNat, RPower124]
  refine hK _ _ ?_
  clear hK K
  refine awp_reg_seq ?_
  intro K hK
  simp only [↓DN, UP, DF, qSh, qCv, qIA, qIx, qSl, qBu, qCe, qOn, reduceCtorEq, ↓reduceIte, nLT, nLE, nEQ, nAdd, nMul, nPow, nSub, zLT, zLE, zNat, RPower124]
  refine hK _ _ ?_
  clear hK K
  refine awp_reg_seq ?_
  intro K hK
  simp only [↓DN, UP, DF, qSh, qCv, qIA, qIx, qSl, qBu, qCe, qOn, reduceCtorEq, ↓reduceIte, nLT, nLE, nEQ, nAdd, nMul, nPow, nSub, zLT, zLE, zNat, RPower124]
  refine hK _ _ ?_
  clear hK K
  refine awp_reg_seq ?_
  intro K hK
  simp only [↓DN, UP, DF, qSh, qCv, qIA, qIx, qSl, qBu, qCe, qOn, reduceCtorEq, ↓reduceIte, nLT, nLE, nEQ, nAdd, nMul, nPow, nSub, zLT, zLE, zNat, RPower124]
  refine hK _ _ ?_
  clear hK K
  refine awp_reg_seq ?_
  intro K hK
  simp only [↓DN, UP, DF, qSh, qCv, qIA, qIx, qSl, qBu, qCe, qOn, reduceCtorEq, ↓reduceIte, nLT, nLE, nEQ, nAdd, nMul, nPow, nSub, zLT, zLE, zNat, RPower124]
  refine hK _ _ ?_
  clear hK K
  refine awp_reg_seq ?_
  intro K hK
  simp only [↓DN, UP, DF, qSh, qCv, qIA, qIx, qSl, qBu, qCe, qOn, reduceCtorEq, ↓reduceIte, nLT, nLE, nEQ, nAdd, nMul, nPow, nSub, zLT, zLE, zNat, RPower124]
  refine hK _ _ ?_
  clear hK K
  refine awp_reg_seq ?_
  intro K hK
  simp only [↓DN, UP, DF, qSh, qCv, qIA, qIx, qSl, qBu, qCe, qOn, reduceCtorEq, ↓reduceIte, nLT, nLE, nEQ, nAdd, nMul, nPow, nSub, zLT, zLE, zNat, RPower124]
  refine hK _ _ ?_
  clear hK K
  refine awp_reg_seq ?_
  intro K hK
  simp only [↓DN, UP, DF, qSh, qCv, qIA, qIx, qSl, qBu, qCe, qOn, reduceCtorEq, ↓reduceIte, nLT, nLE, nEQ, nAdd, nMul, nPow, nSub, zLT, zLE, zNat, RPower124]
  refine hK _ _ ?_
  clear hK K
  refine awp_reg_seq ?_
  intro K hK
  simp only [↓DN, UP, DF, qSh, qCv, qIA, qIx, qSl, qBu, qCe, qOn, reduceCtorEq, ↓reduceIte, nLT, nLE, nEQ, nAdd, nMul, nPow, nSub, zLT, zLE, zNat, RPower124]
  refine hK _ _ ?_
  clear hK K
  refine awp_reg_seq ?_
  intro K hK
  simp only [↓DN, UP, DF, qSh, qCv, qIA, qIx, qSl, qBu, qCe, qOn, reduceCtorEq, ↓reduceIte, nLT, nLE, nEQ, nAdd, nMul, nPow, nSub, zLT, zLE, zNat, RPower124]
  refine hK _ _ ?_
  clear hK K
  refine awp_reg_seq ?_
  intro K hK
  simp only [↓DN, UP, DF, qSh, qCv, qIA, qIx, qSl, qBu, qCe, qOn, reduceCtorEq, ↓reduceIte, nLT, nLE, nEQ, nAdd, nMul, nPow, nSub, zLT, zLE, zNat, RPower124]
  refine hK _ _ ?_
  clear hK K
  refine awp_reg_seq ?_
  intro K hK
  simp only [↓DN, UP, DF, qSh, qCv, qIA, qIx, qSl, qBu, qCe, qOn, reduceCtorEq, ↓reduceIte, nLT, nLE, nEQ, nAdd, nMul, nPow, nSub, zLT, zLE, zNat, RPower124]
  refine hK _ _ ?_
  clear hK K
  refine awp_ret ?_
  simp only [retQ, AEnds, aresL, ares, List.toList_toArray, ↓upd_same]; try simp only [↓DN, UP, DF, qSh, qCv, qIA, qIx, qSl, qBu, qCe, qOn, reduceCtorEq, ↓reduceIte, nLT, nLE, nEQ, nAdd, nMul, nPow, nSub, zLT, zLE, zNat, RPower124, DT]
  refine ⟨_, _, AV.weak.refl _, AS.le.refl _, ?_, rfl⟩
  have x1 : x / 4294967296 < 4294967296 := by omega
  have y1 : y / 4294967296 < 4294967296 := by omega
  have x0 : x % 4294967296 < 4294967296 := by omega
  have y0 : y % 4294967296 < 4294967296 := by omega
  have b1 := mul_lt32 x1 y1
  have b2 := mul_lt32 x1 y0
  have b3 := mul_lt32 x0 y1
  have b4 := mul_lt32 x0 y0
  have key := mul64_hi _ _ _ _ x1 x0 y1 y0
  rw [show x / 4294967296 * 4294967296 + x % 4294967296 = x from by omega, show y / 4294967296 * 4294967296 + y % 4294967296 = y from by omega] at key
  rw [u64_and32 x hx, u64_and32 y hy, u64_shr32, u64_shr32, u64_mul _ _ (by omega : x % 4294967296 * (y % 4294967296) < 2 ^ 64), u64_mul _ _ (by omega : x / 4294967296 * (y % 4294967296) < 2 ^ 64),
    u64_mul _ _ (by omega : x % 4294967296 * (y / 4294967296) < 2 ^ 64), u64_mul _ _ (by omega : x / 4294967296 * (y / 4294967296) < 2 ^ 64), u64_mulw, u64_shr32]
  generalize x / 4294967296 * (y / 4294967296) = A at *
  generalize x / 4294967296 * (y % 4294967296) = B at *
  generalize x % 4294967296 * (y / 4294967296) = C at *
  generalize x % 4294967296 * (y % 4294967296) = D at *
  rw [u64_add _ _ (by omega : B + D / 4294967296 < 2 ^ 64), u64_and32 _ (by omega), u64_add _ _ (by omega : (B + D / 4294967296) % 4294967296 + C < 2 ^ 64), u64_shr32, u64_shr32, u64_add _ _ (by omega), u64_add _ _ (by omega), key]

set_option maxHeartbeats 400000 in
theorem mul_calls (a b : Nat) (ha : a < 2 ^ 64) (hb : b < 2 ^ 64) (s : AS) : ACalls Tryd.prog Γ 113 [.v (.int .u64 a), .v (.int .u64 b)] s (fun r s' => r = .v (.int .u64 (a * b % PP : Nat)) ∧ s' = s) := by
  refine acalls_body Tryd.func113 rfl Tryd.ntmps113 Tryd.results113 (by simp) ?_
  have l1 := mod_pp_lt a
  have l2 := mod_pp_lt b
  have l3 := pp_lt
  have l4 := mulPP_lt a b
  refine awp_reg_seq ?_
  intro K hK
  simp only [↓DN, UP, DF, qSh, qCv, qIA, qIx, qSl, qBu, qCe, qOn, reduceCtorEq, ↓reduceIte, nLT, nLE, nEQ, nAdd, nMul, nPow, nSub, zLT, zLE, zNat, RPower113]
  refine hK _ _ ?_
  clear hK K
  refine awp_reg_seq ?_
  intro K hK
  simp only [↓DN, UP, DF, qSh, qCv, qIA, qIx, qSl, qBu, qCe, qOn, reduceCtorEq, ↓reduceIte, nLT, nLE, nEQ, nAdd, nMul, nPow, nSub, zLT, zLE, zNat, RPower113]
  refine acallk (fold_calls a ha s) ?_
  rintro r s' ⟨rfl, rfl⟩
  simp only [↓AXq_nil, ↓AXq_cons, pval, DX, Nat.reduceBEq, ↓DN, UP, DF, qSh, qCv, qIA, qIx, qSl, qBu, qCe, qOn, reduceCtorEq, ↓reduceIte, nLT, nLE, nEQ, nAdd, nMul, nPow, nSub, zLT, zLE, zNat, RPower113]
  refine acallk (fold_calls b hb s') ?_
  rintro r s' ⟨rfl, rfl⟩
  simp only [↓AXq_nil, ↓AXq_cons, pval, DX, Nat.reduceBEq, ↓DN, UP, DF, qSh, qCv, qIA, qIx, qSl, qBu, qCe, qOn, reduceCtorEq, ↓reduceIte, nLT, nLE, nEQ, nAdd, nMul, nPow, nSub, zLT, zLE, zNat, RPower113]
  refine acallk (mul64_calls (a % PP) (b % PP) (by omega) (by omega) s') ?_
  rintro r s' ⟨rfl, rfl⟩
  simp only [↓AXq_nil, ↓AXq_cons, pval, DX, Nat.reduceBEq, ↓DN, UP, DF, qSh, qCv, qIA, qIx, qSl, qBu, qCe, qOn, reduceCtorEq, ↓reduceIte, nLT, nLE, nEQ, nAdd, nMul, nPow, nSub, zLT, zLE, zNat, RPower113]
  refine hK _ _ ?_
  clear hK K
  refine awp_reg_seq ?_
  intro K hK
  simp only [↓DN, UP, DF, qSh, qCv, qIA, qIx, qSl, qBu, qCe, qOn, reduceCtorEq, ↓reduceIte, nLT, nLE, nEQ, nAdd, nMul, nPow, nSub, zLT, zLE, zNat, RPower113, mul_sum _ l4]
  refine acallk (fold_calls (a % PP * (b % PP) % 2305843009213693952 + a % PP * (b % PP) / 2305843009213693952) (by omega) s') ?_
  rintro r s' ⟨rfl, rfl⟩
  simp only [↓AXq_nil, ↓AXq_cons, pval, DX, Nat.reduceBEq, ↓DN, UP, DF, qSh, qCv, qIA, qIx, qSl, qBu, qCe, qOn, reduceCtorEq, ↓reduceIte, nLT, nLE, nEQ, nAdd, nMul, nPow, nSub, zLT, zLE, zNat, RPower113]
  refine hK _ _ ?_
  clear hK K
  refine awp_ret ?_
  simp only [retQ, AEnds, aresL, ares, List.toList_toArray, ↓upd_same]; try simp only [↓DN, UP, DF, qSh, qCv, qIA, qIx, qSl, qBu, qCe, qOn, reduceCtorEq, ↓reduceIte, nLT, nLE, nEQ, nAdd, nMul, nPow, nSub, zLT, zLE, zNat, RPower113, DT]
  exact ⟨_, _, AV.weak.refl _, AS.le.refl _, by rw [split_mod, ← Nat.mul_mod], rfl⟩

set_option maxHeartbeats 400000 in
theorem pow_calls (a n : Nat) (ha : a < 2 ^ 64) (hn : n < 2 ^ 64) (s : AS) : ACalls Tryd.prog Γ 91 [.v (.int .u64 a), .v (.int .u64 n)] s (fun r s' => r = .v (.int .u64 (a ^ n % PP : Nat)) ∧ s' = s) := by
  refine acalls_body Tryd.func91 rfl Tryd.ntmps91 Tryd.results91 (by simp) ?_
  refine awp_reg_seq ?_
  intro K hK
  simp only [↓DN, UP, DF, qSh, qCv, qIA, qIx, qSl, qBu, qCe, qOn, reduceCtorEq, ↓reduceIte, nLT, nLE, nEQ, nAdd, nMul, nPow, nSub, zLT, zLE, zNat, RPower91]
  refine hK _ _ ?_
  clear hK K
  refine awp_reg_seq ?_
  intro K hK
  simp only [↓DN, UP, DF, qSh, qCv, qIA, qIx, qSl, qBu, qCe, qOn, reduceCtorEq, ↓reduceIte, nLT, nLE, nEQ, nAdd, nMul, nPow, nSub, zLT, zLE, zNat, RPower91]
  refine hK _ _ ?_
  clear hK K
  refine awp_seq_k ?_
  intro K hK
  refine awp_block ?_
  refine awp_loop (fun E s1 => ∃ o b m : Nat, E 5 = .v (.int .u64 o) ∧ E 0 = .v (.int .u64 b) ∧ E 1 = .v (.int .u64 m) ∧ o < PP ∧ b < 2 ^ 64 ∧ m < 2 ^ 64 ∧ o * b ^ m % PP = a ^ n % PP ∧ s1 = s)
    (fun E _ => match E 1 with | .v (.int _ i) => i.toNat | _ => 0) ?_ ?_
  · exact ⟨1, a, n, by simp [upd], by simp [upd, initE], by simp [upd, initE], by decide, ha, hn, by simp, rfl⟩
  · rintro E1 s1 ⟨o, b, m, h5, h0, h1, ho, hb, hm, hinv, rfl⟩ -
    have hPP : PP = 2305843009213693951 := rfl
    refine awp_seq_k ?_
    intro K2 hK2
    by_cases hm0 : m = 0
    · subst hm0
      refine awp_reg_seq ?_
      intro K hK
      simp only [↓DN, UP, DF, qSh, qCv, qIA, qIx, qSl, qBu, qCe, qOn, reduceCtorEq, ↓reduceIte, nLT, nLE, nEQ, nAdd, nMul, nPow, nSub, zLT, zLE, zNat, RPower91, h5, h0, h1, Int.natCast_zero, Int.lt_irrefl]
      refine hK _ _ ?_
      clear hK K
      refine awp_cond_k ?_
      intro X Y hX hY
      simp only [↓DN, UP, DF, qSh, qCv, qIA, qIx, qSl, qBu, qCe, qOn, reduceCtorEq, ↓reduceIte, nLT, nLE, nEQ, nAdd, nMul, nPow, nSub, zLT, zLE, zNat, RPower91, DB]
      refine hY ?_
      clear hX hY X Y
      refine awp_exit ?_
      simp only [thenQ, blockQ, if_true]
      refine hK _ _ ?_
      clear hK hK2 K K2
      refine awp_reg_seq ?_
      intro K hK
      simp only [↓DN, UP, DF, qSh, qCv, qIA, qIx, qSl, qBu, qCe, qOn, reduceCtorEq, ↓reduceIte, nLT, nLE, nEQ, nAdd, nMul, nPow, nSub, zLT, zLE, zNat, RPower91, h5]
      refine hK _ _ ?_
      clear hK K
      refine awp_ret ?_
      simp only [retQ, AEnds, aresL, ares, List.toList_toArray, ↓upd_same]; try simp only [↓DN, UP, DF, qSh, qCv, qIA, qIx, qSl, qBu, qCe, qOn, reduceCtorEq, ↓reduceIte, nLT, nLE, nEQ, nAdd, nMul, nPow, nSub, zLT, zLE, zNat, RPower91, DT]
      refine ⟨_, _, AV.weak.refl _, AS.le.refl _, ?_, rfl⟩
      rw [← hinv]
      simp [Nat.mod_eq_of_lt ho]
    · have hpos : (0 : Int) < m := by omega
      refine awp_reg_seq ?_
      intro K hK
      simp only [↓DN, UP, DF, qSh, qCv, qIA, qIx, qSl, qBu, qCe, qOn, reduceCtorEq, ↓reduceIte, nLT, nLE, nEQ, nAdd, nMul, nPow, nSub, zLT, zLE, zNat, RPower91, h5, h0, h1, hpos]
      refine hK _ _ ?_
      clear hK K
      refine awp_cond_k ?_
      intro X Y hX hY
      simp only [↓DN, UP, DF, qSh, qCv, qIA, qIx, qSl, qBu, qCe, qOn, reduceCtorEq, ↓reduceIte, nLT, nLE, nEQ, nAdd, nMul, nPow, nSub, zLT, zLE, zNat, RPower91, DB]
      refine hX ?_
      clear hX hY X Y
      refine awp_skip ?_
      refine hK2 _ _ ?_
      clear hK2 K2
      refine awp_seq_k ?_
      intro K3 hK3
      refine awp_block ?_
      refine awp_seq_k ?_
      intro K4 hK4
      have hand : iand .u64 (m : Int) 1 = ((m % 2 : Nat) : Int) := by
        have := iand_u (k := .u64) rfl m 1 hm (by decide)
        rw [Nat.and_one_is_mod] at this
        exact this
      have hshr : ishr .u64 (m : Int) 1 = ((m / 2 : Nat) : Int) := by
        have := ishr_u (k := .u64) m 1
        simpa [IntKind.bits] using this
      have hsq : ∀ (E2 : Env) (o2 : Nat), E2 5 = .v (.int .u64 o2) → E2 0 = .v (.int .u64 b) → E2 1 = .v (.int .u64 m) → o2 < PP → o2 * (b * b % PP) ^ (m / 2) % PP = a ^ n % PP → K4 E2 s1 := by
        intro E2 o2 e5 e0 e1 ho2 hinv2
        refine hK4 _ _ ?_
        clear hK4 K4
        refine awp_reg_end ?_
        intro K hK
        simp only [↓DN, UP, DF, qSh, qCv, qIA, qIx, qSl, qBu, qCe, qOn, reduceCtorEq, ↓reduceIte, nLT, nLE, nEQ, nAdd, nMul, nPow, nSub, zLT, zLE, zNat, RPower91, e0]
        refine acallk (mul_calls b b hb hb s1) ?_
        rintro r s' ⟨rfl, rfl⟩
        simp only [↓AXq_nil, ↓AXq_cons, pval, DX, Nat.reduceBEq, ↓DN, UP, DF, qSh, qCv, qIA, qIx, qSl, qBu, qCe, qOn, reduceCtorEq, ↓reduceIte, nLT, nLE, nEQ, nAdd, nMul, nPow, nSub, zLT, zLE, zNat, RPower91]
        refine hK _ _ ?_
        clear hK K
        refine hK3 _ _ ?_
        clear hK3 K3
        refine awp_reg_end ?_
        intro K hK
        simp only [↓DN, UP, DF, qSh, qCv, qIA, qIx, qSl, qBu, qCe, qOn, reduceCtorEq, ↓reduceIte, nLT, nLE, nEQ, nAdd, nMul, nPow, nSub, zLT, zLE, zNat, RPower91, e1, hshr]
        refine hK _ _ ?_
        clear hK K
        have hb2 : b * b % PP < PP := mod_pp_lt _
        refine ⟨⟨o2, b * b % PP, m / 2, by simp only [upd, e5, nEQ, ↓reduceIte], by simp only [upd, nEQ, ↓reduceIte], by simp only [upd, ↓reduceIte], ho2, by omega, by omega, hinv2, rfl⟩, ?_⟩
        simp only [h1, upd, ↓reduceIte]
        omega
      by_cases hodd : m % 2 = 1
      · refine awp_reg_seq ?_
        intro K hK
        simp only [↓DN, UP, DF, qSh, qCv, qIA, qIx, qSl, qBu, qCe, qOn, reduceCtorEq, ↓reduceIte, nLT, nLE, nEQ, nAdd, nMul, nPow, nSub, zLT, zLE, zNat, RPower91, h5, h0, h1, hand, hodd, Int.natCast_one]
        refine hK _ _ ?_
        clear hK K
        refine awp_cond_k ?_
        intro X Y hX hY
        simp only [↓DN, UP, DF, qSh, qCv, qIA, qIx, qSl, qBu, qCe, qOn, reduceCtorEq, ↓reduceIte, nLT, nLE, nEQ, nAdd, nMul, nPow, nSub, zLT, zLE, zNat, RPower91, DB]
        refine hX ?_
        clear hX hY X Y
        refine awp_reg_end ?_
        intro K hK
        simp only [↓DN, UP, DF, qSh, qCv, qIA, qIx, qSl, qBu, qCe, qOn, reduceCtorEq, ↓reduceIte, nLT, nLE, nEQ, nAdd, nMul, nPow, nSub, zLT, zLE, zNat, RPower91, h5, h0]
        refine acallk (mul_calls o b (by omega) hb s1) ?_
        rintro r s' ⟨rfl, rfl⟩
        simp only [↓AXq_nil, ↓AXq_cons, pval, DX, Nat.reduceBEq, ↓DN, UP, DF, qSh, qCv, qIA, qIx, qSl, qBu, qCe, qOn, reduceCtorEq, ↓reduceIte, nLT, nLE, nEQ, nAdd, nMul, nPow, nSub, zLT, zLE, zNat, RPower91]
        refine hK _ _ ?_
        clear hK K
        refine hsq _ (o * b % PP) (by simp only [upd, ↓reduceIte]) (by simp only [upd, h0, nEQ, ↓reduceIte]) (by simp only [upd, h1, nEQ, ↓reduceIte]) (mod_pp_lt _) ?_
        rw [← hinv]
        have e : b ^ m = b * (b * b) ^ (m / 2) := by
          have : m = 2 * (m / 2) + 1 := by omega
          conv => lhs; rw [this, Nat.pow_succ, Nat.pow_mul, Nat.pow_two, Nat.mul_comm]
        rw [e, ← Nat.mul_assoc, Nat.mul_mod, Nat.mod_mod, ← Nat.pow_mod, ← Nat.mul_mod]
      · have heven : m % 2 = 0 := by omega
        refine awp_reg_seq ?_
        intro K hK
        simp only [↓DN, UP, DF, qSh, qCv, qIA, qIx, qSl, qBu, qCe, qOn, reduceCtorEq, ↓reduceIte, nLT, nLE, nEQ, nAdd, nMul, nPow, nSub, zLT, zLE, zNat, RPower91, h5, h0, h1, hand, heven, Int.natCast_zero, Int.reduceBEq, Bool.false_eq_true]
        refine hK _ _ ?_
        clear hK K
        refine awp_cond_k ?_
        intro X Y hX hY
        simp only [↓DN, UP, DF, qSh, qCv, qIA, qIx, qSl, qBu, qCe, qOn, reduceCtorEq, ↓reduceIte, nLT, nLE, nEQ, nAdd, nMul, nPow, nSub, zLT, zLE, zNat, RPower91, DB]
        refine hY ?_
        clear hX hY X Y
        refine awp_skip ?_
        refine hsq _ o (by simp only [upd, h5, nEQ, ↓reduceIte]) (by simp only [upd, h0, nEQ, ↓reduceIte]) (by simp only [upd, h1, nEQ, ↓reduceIte]) ho ?_
        rw [← hinv]
        have e : b ^ m = (b * b) ^ (m / 2) := by
          have : m = 2 * (m / 2) := by omega
          conv => lhs; rw [this, Nat.pow_mul, Nat.pow_two]
        rw [e, Nat.mul_mod, ← Nat.pow_mod, ← Nat.mul_mod]

end Go.Proofs.YtooeklnbdgoneaaDoor


set_option autoImplicit false
namespace Go.Proofs.YtooeklnbdgoneaaDoor
open Go Go.AM Go.Proofs

theorem RRefPower96 : type_of% (And.intro (And.intro (And.intro @Tryd.underlying41 T.c41) (And.intro T.g41 (And.intro T.b41 T.z41))) Tryd.ntmps96) :=
  (And.intro (And.intro (And.intro @Tryd.underlying41 T.c41) (And.intro T.g41 (And.intro T.b41 T.z41))) Tryd.ntmps96)
theorem RRefPower68 : type_of% (And.intro (And.intro (And.intro @Tryd.underlying41 (And.intro T.c41 T.g41)) (And.intro T.b41 (And.intro T.z41 T.k96))) Tryd.ntmps68) :=
  (And.intro (And.intro (And.intro @Tryd.underlying41 (And.intro T.c41 T.g41)) (And.intro T.b41 (And.intro T.z41 T.k96))) Tryd.ntmps68)

variable {Γ : Nat → List AV}

theorem zero_one : ((0 : Int) == 1) = false := rfl
theorem u64_half (m : Nat) (hm : m < 2 ^ 64) : iquo .u64 (m : Int) 2 = ((m / 2 : Nat) : Int) := iquo_u rfl m 2 hm
theorem remPP (n : Nat) : irem (n : Int) 2305843009213693951 = ((n % PP : Nat) : Int) := irem_u n 2305843009213693951
theorem remTwo (n : Nat) : irem (n : Int) 2 = ((n % 2 : Nat) : Int) := irem_u n 2

set_option maxHeartbeats 400000 in
theorem refMul_calls (a b : Nat) (ha : a < 2 ^ 64) (hb : b < 2 ^ 64) (s : AS) : ACalls Tryd.prog Γ 96 [.v (.int .u64 a), .v (.int .u64 b)] s (fun r s' => r = .v (.int .u64 (a * b % PP : Nat)) ∧ s' = s) := by
  have hPP : PP = 2305843009213693951 := rfl
  refine acalls_body Tryd.func96 rfl Tryd.ntmps96 Tryd.results96 (by simp) ?_
  refine awp_reg_seq ?_
  intro K hK
  simp only [↓DN, UP, DF, qSh, qCv, qIA, qIx, qSl, qBu, qCe, qOn, reduceCtorEq, ↓reduceIte, nLT, nLE, nEQ, nAdd, nMul, nPow, nSub, zLT, zLE, zNat, RRefPower96]
  refine hK _ _ ?_
  clear hK K
  refine awp_reg_seq ?_
  intro K hK
  simp only [↓DN, UP, DF, qSh, qCv, qIA, qIx, qSl, qBu, qCe, qOn, reduceCtorEq, ↓reduceIte, nLT, nLE, nEQ, nAdd, nMul, nPow, nSub, zLT, zLE, zNat, RRefPower96, remPP]
  refine hK _ _ ?_
  clear hK K
  refine awp_reg_seq ?_
  intro K hK
  simp only [↓DN, UP, DF, qSh, qCv, qIA, qIx, qSl, qBu, qCe, qOn, reduceCtorEq, ↓reduceIte, nLT, nLE, nEQ, nAdd, nMul, nPow, nSub, zLT, zLE, zNat, RRefPower96, remPP]
  refine hK _ _ ?_
  clear hK K
  refine awp_reg_seq ?_
  intro K hK
  simp only [↓DN, UP, DF, qSh, qCv, qIA, qIx, qSl, qBu, qCe, qOn, reduceCtorEq, ↓reduceIte, nLT, nLE, nEQ, nAdd, nMul, nPow, nSub, zLT, zLE, zNat, RRefPower96]
  refine hK _ _ ?_
  clear hK K
  refine awp_seq_k ?_
  intro K hK
  refine awp_block ?_
  refine awp_loop (fun E s1 => ∃ o b' m : Nat, E 5 = .v (.int .u64 o) ∧ E 0 = .v (.int .u64 b') ∧ E 1 = .v (.int .u64 m) ∧ o < PP ∧ b' < PP ∧ m < 2 ^ 64 ∧ (o + b' * m) % PP = a * b % PP ∧ s1 = s)
    (fun E _ => match E 1 with | .v (.int _ i) => i.toNat | _ => 0) ?_ ?_
  · exact ⟨0, a % PP, b % PP, by simp [upd], by simp [upd], by simp [upd], by decide, mod_pp_lt _, by have := mod_pp_lt b; omega, by rw [Nat.zero_add, ← Nat.mul_mod], rfl⟩
  · rintro E1 s1 ⟨o, b', m, h5, h0, h1, ho, hb', hm, hinv, rfl⟩ -
    refine awp_seq_k ?_
    intro K2 hK2
    by_cases hm0 : m = 0
    · subst hm0
      refine awp_reg_seq ?_
      intro K hK
      simp only [↓DN, UP, DF, qSh, qCv, qIA, qIx, qSl, qBu, qCe, qOn, reduceCtorEq, ↓reduceIte, nLT, nLE, nEQ, nAdd, nMul, nPow, nSub, zLT, zLE, zNat, RRefPower96, h5, h0, h1, Int.natCast_zero, Int.lt_irrefl]
      refine hK _ _ ?_
      clear hK K
      refine awp_cond_k ?_
      intro X Y hX hY
      simp only [↓DN, UP, DF, qSh, qCv, qIA, qIx, qSl, qBu, qCe, qOn, reduceCtorEq, ↓reduceIte, nLT, nLE, nEQ, nAdd, nMul, nPow, nSub, zLT, zLE, zNat, RRefPower96, DB]
      refine hY ?_
      clear hX hY X Y
      refine awp_exit ?_
      simp only [thenQ, blockQ, if_true]
      refine hK _ _ ?_
      clear hK hK2 K K2
      refine awp_reg_seq ?_
      intro K hK
      simp only [↓DN, UP, DF, qSh, qCv, qIA, qIx, qSl, qBu, qCe, qOn, reduceCtorEq, ↓reduceIte, nLT, nLE, nEQ, nAdd, nMul, nPow, nSub, zLT, zLE, zNat, RRefPower96, h5]
      refine hK _ _ ?_
      clear hK K
      refine awp_ret ?_
      simp only [retQ, AEnds, aresL, ares, List.toList_toArray, ↓upd_same]; try simp only [↓DN, UP, DF, qSh, qCv, qIA, qIx, qSl, qBu, qCe, qOn, reduceCtorEq, ↓reduceIte, nLT, nLE, nEQ, nAdd, nMul, nPow, nSub, zLT, zLE, zNat, RRefPower96, DT]
      refine ⟨_, _, AV.weak.refl _, AS.le.refl _, ?_, rfl⟩
      rw [← hinv]
      simp [Nat.mod_eq_of_lt ho]
    · have hpos : (0 : Int) < m := by omega
      refine awp_reg_seq ?_
      intro K hK
      simp only [↓DN, UP, DF, qSh, qCv, qIA, qIx, qSl, qBu, qCe, qOn, reduceCtorEq, ↓reduceIte, nLT, nLE, nEQ, nAdd, nMul, nPow, nSub, zLT, zLE, zNat, RRefPower96, h5, h0, h1, hpos]
      refine hK _ _ ?_
      clear hK K
      refine awp_cond_k ?_
      intro X Y hX hY
      simp only [↓DN, UP, DF, qSh, qCv, qIA, qIx, qSl, qBu, qCe, qOn, reduceCtorEq, ↓reduceIte, nLT, nLE, nEQ, nAdd, nMul, nPow, nSub, zLT, zLE, zNat, RRefPower96, DB]
      refine hX ?_
      clear hX hY X Y
      refine awp_skip ?_
      refine hK2 _ _ ?_
      clear hK2 K2
      refine awp_block ?_
      refine awp_seq_k ?_
      intro K4 hK4
      have hsq : ∀ (E2 : Env) (o2 : Nat), E2 5 = .v (.int .u64 o2) → E2 0 = .v (.int .u64 b') → E2 1 = .v (.int .u64 m) → o2 < PP → (o2 + (b' + b') % PP * (m / 2)) % PP = a * b % PP → K4 E2 s1 := by
        intro E2 o2 e5 e0 e1 ho2 hinv2
        refine hK4 _ _ ?_
        clear hK4 K4
        refine awp_reg_seq ?_
        intro K hK
        simp only [↓DN, UP, DF, qSh, qCv, qIA, qIx, qSl, qBu, qCe, qOn, reduceCtorEq, ↓reduceIte, nLT, nLE, nEQ, nAdd, nMul, nPow, nSub, zLT, zLE, zNat, RRefPower96, e0, u64_add b' b' (by omega), remPP]
        refine hK _ _ ?_
        clear hK K
        refine awp_reg_end ?_
        intro K hK
        simp only [↓DN, UP, DF, qSh, qCv, qIA, qIx, qSl, qBu, qCe, qOn, reduceCtorEq, ↓reduceIte, nLT, nLE, nEQ, nAdd, nMul, nPow, nSub, zLT, zLE, zNat, RRefPower96, e1, u64_half m hm]
        refine hK _ _ ?_
        clear hK K
        have hb2 : (b' + b') % PP < PP := mod_pp_lt _
        refine ⟨⟨o2, (b' + b') % PP, m / 2, by simp only [upd, e5, nEQ, ↓reduceIte], by simp only [upd, nEQ, ↓reduceIte], by simp only [upd, ↓reduceIte], ho2, by omega, by omega, hinv2, rfl⟩, ?_⟩
        simp only [h1, upd, ↓reduceIte]
        omega
      by_cases hodd : m % 2 = 1
      · refine awp_reg_seq ?_
        intro K hK
        simp only [↓DN, UP, DF, qSh, qCv, qIA, qIx, qSl, qBu, qCe, qOn, reduceCtorEq, ↓reduceIte, nLT, nLE, nEQ, nAdd, nMul, nPow, nSub, zLT, zLE, zNat, RRefPower96, h5, h0, h1, remTwo, hodd, Int.natCast_one]
        refine hK _ _ ?_
        clear hK K
        refine awp_cond_k ?_
        intro X Y hX hY
        simp only [↓DN, UP, DF, qSh, qCv, qIA, qIx, qSl, qBu, qCe, qOn, reduceCtorEq, ↓reduceIte, nLT, nLE, nEQ, nAdd, nMul, nPow, nSub, zLT, zLE, zNat, RRefPower96, DB]
        refine hX ?_
        clear hX hY X Y
        refine awp_reg_end ?_
        intro K hK
        simp only [↓DN, UP, DF, qSh, qCv, qIA, qIx, qSl, qBu, qCe, qOn, reduceCtorEq, ↓reduceIte, nLT, nLE, nEQ, nAdd, nMul, nPow, nSub, zLT, zLE, zNat, RRefPower96, h5, h0, u64_add o b' (by omega), remPP]
        refine hK _ _ ?_
        clear hK K
        refine hsq _ ((o + b') % PP) (by simp only [upd, ↓reduceIte]) (by simp only [upd, h0, nEQ, ↓reduceIte]) (by simp only [upd, h1, nEQ, ↓reduceIte]) (mod_pp_lt _) ?_
        rw [← hinv]
        have e : b' * m = b' + (b' + b') * (m / 2) := by
          have : m = 2 * (m / 2) + 1 := by omega
          conv => lhs; rw [this]
          rw [Nat.mul_add, Nat.mul_one, ← Nat.mul_assoc, Nat.mul_two, Nat.add_comm]
        rw [e, ← Nat.add_assoc, Nat.add_mod, Nat.mod_mod, Nat.mod_mul_mod, ← Nat.add_mod]
      · have heven : m % 2 = 0 := by omega
        refine awp_reg_seq ?_
        intro K hK
        simp only [↓DN, UP, DF, qSh, qCv, qIA, qIx, qSl, qBu, qCe, qOn, reduceCtorEq, ↓reduceIte, nLT, nLE, nEQ, nAdd, nMul, nPow, nSub, zLT, zLE, zNat, RRefPower96, h5, h0, h1, remTwo, heven, Int.natCast_zero, zero_one]
        refine hK _ _ ?_
        clear hK K
        refine awp_cond_k ?_
        intro X Y hX hY
        simp only [↓DN, UP, DF, qSh, qCv, qIA, qIx, qSl, qBu, qCe, qOn, reduceCtorEq, ↓reduceIte, nLT, nLE, nEQ, nAdd, nMul, nPow, nSub, zLT, zLE, zNat, RRefPower96, DB, zero_one]
        refine hY ?_
        clear hX hY X Y
        refine awp_skip ?_
        refine hsq _ o (by simp only [upd, h5, nEQ, ↓reduceIte]) (by simp only [upd, h0, nEQ, ↓reduceIte]) (by simp only [upd, h1, nEQ, ↓reduceIte]) ho ?_
        rw [← hinv]
        have e : b' * m = (b' + b') * (m / 2) := by
          have : m = 2 * (m / 2) := by omega
          conv => lhs; rw [this]
          rw [← Nat.mul_assoc, Nat.mul_two]
        rw [e, Nat.add_mod, Nat.mod_mul_mod, ← Nat.add_mod]

set_option maxHeartbeats 400000 in
theorem refPow_calls (a n : Nat) (ha : a < 2 ^ 64) (hn : n < 2 ^ 64) (s : AS) : ACalls Tryd.prog Γ 68 [.v (.int .u64 a), .v (.int .u64 n)] s (fun r s' => r = .v (.int .u64 (a ^ n % PP : Nat)) ∧ s' = s) := by
  have hPP : PP = 2305843009213693951 := rfl
  refine acalls_body Tryd.func68 rfl Tryd.ntmps68 Tryd.results68 (by simp) ?_
  refine awp_reg_seq ?_
  intro K hK
  simp only [↓DN, UP, DF, qSh, qCv, qIA, qIx, qSl, qBu, qCe, qOn, reduceCtorEq, ↓reduceIte, nLT, nLE, nEQ, nAdd, nMul, nPow, nSub, zLT, zLE, zNat, RRefPower68]
  refine hK _ _ ?_
  clear hK K
  refine awp_reg_seq ?_
  intro K hK
  simp only [↓DN, UP, DF, qSh, qCv, qIA, qIx, qSl, qBu, qCe, qOn, reduceCtorEq, ↓reduceIte, nLT, nLE, nEQ, nAdd, nMul, nPow, nSub, zLT, zLE, zNat, RRefPower68]
  refine hK _ _ ?_
  clear hK K
  refine awp_reg_seq ?_
  intro K hK
  simp only [↓DN, UP, DF, qSh, qCv, qIA, qIx, qSl, qBu, qCe, qOn, reduceCtorEq, ↓reduceIte, nLT, nLE, nEQ, nAdd, nMul, nPow, nSub, zLT, zLE, zNat, RRefPower68, remPP]
  refine hK _ _ ?_
  clear hK K
  refine awp_seq_k ?_
  intro K hK
  refine awp_block ?_
  refine awp_loop (fun E s1 => ∃ o b m : Nat, E 5 = .v (.int .u64 o) ∧ E 0 = .v (.int .u64 b) ∧ E 1 = .v (.int .u64 m) ∧ o < PP ∧ b < 2 ^ 64 ∧ m < 2 ^ 64 ∧ o * b ^ m % PP = a ^ n % PP ∧ s1 = s)
    (fun E _ => match E 1 with | .v (.int _ i) => i.toNat | _ => 0) ?_ ?_
  · exact ⟨1, a % PP, n, by simp [upd], by simp [upd], by simp [upd, initE], by decide, by have := mod_pp_lt a; omega, hn, by rw [Nat.one_mul, ← Nat.pow_mod], rfl⟩
  · rintro E1 s1 ⟨o, b, m, h5, h0, h1, ho, hb, hm, hinv, rfl⟩ -
    refine awp_seq_k ?_
    intro K2 hK2
    by_cases hm0 : m = 0
    · subst hm0
      refine awp_reg_seq ?_
      intro K hK
      simp only [↓DN, UP, DF, qSh, qCv, qIA, qIx, qSl, qBu, qCe, qOn, reduceCtorEq, ↓reduceIte, nLT, nLE, nEQ, nAdd, nMul, nPow, nSub, zLT, zLE, zNat, RRefPower68, h5, h0, h1, Int.natCast_zero, Int.lt_irrefl]
      refine hK _ _ ?_
      clear hK K
      refine awp_cond_k ?_
      intro X Y hX hY
      simp only [↓DN, UP, DF, qSh, qCv, qIA, qIx, qSl, qBu, qCe, qOn, reduceCtorEq, ↓reduceIte, nLT, nLE, nEQ, nAdd, nMul, nPow, nSub, zLT, zLE, zNat, RRefPower68, DB]
      refine hY ?_
      clear hX hY X Y
      refine awp_exit ?_
      simp only [thenQ, blockQ, if_true]
      refine hK _ _ ?_
      clear hK hK2 K K2
      refine awp_reg_seq ?_
      intro K hK
      simp only [↓DN, UP, DF, qSh, qCv, qIA, qIx, qSl, qBu, qCe, qOn, reduceCtorEq, ↓reduceIte, nLT, nLE, nEQ, nAdd, nMul, nPow, nSub, zLT, zLE, zNat, RRefPower68, h5]
      refine hK _ _ ?_
      clear hK K
      refine awp_ret ?_
      simp only [retQ, AEnds, aresL, ares, List.toList_toArray, ↓upd_same]; try simp only [↓DN, UP, DF, qSh, qCv, qIA, qIx, qSl, qBu, qCe, qOn, reduceCtorEq, ↓reduceIte, nLT, nLE, nEQ, nAdd, nMul, nPow, nSub, zLT, zLE, zNat, RRefPower68, DT]
      refine ⟨_, _, AV.weak.refl _, AS.le.refl _, ?_, rfl⟩
      rw [← hinv]
      simp [Nat.mod_eq_of_lt ho]
    · have hpos : (0 : Int) < m := by omega
      refine awp_reg_seq ?_
      intro K hK
      simp only [↓DN, UP, DF, qSh, qCv, qIA, qIx, qSl, qBu, qCe, qOn, reduceCtorEq, ↓reduceIte, nLT, nLE, nEQ, nAdd, nMul, nPow, nSub, zLT, zLE, zNat, RRefPower68, h5, h0, h1, hpos]
      refine hK _ _ ?_
      clear hK K
      refine awp_cond_k ?_
      intro X Y hX hY
      simp only [↓DN, UP, DF, qSh, qCv, qIA, qIx, qSl, qBu, qCe, qOn, reduceCtorEq, ↓reduceIte, nLT, nLE, nEQ, nAdd, nMul, nPow, nSub, zLT, zLE, zNat, RRefPower68, DB]
      refine hX ?_
      clear hX hY X Y
      refine awp_skip ?_
      refine hK2 _ _ ?_
      clear hK2 K2
      refine awp_block ?_
      refine awp_seq_k ?_
      intro K4 hK4
      have hsq : ∀ (E2 : Env) (o2 : Nat), E2 5 = .v (.int .u64 o2) → E2 0 = .v (.int .u64 b) → E2 1 = .v (.int .u64 m) → o2 < PP → o2 * (b * b % PP) ^ (m / 2) % PP = a ^ n % PP → K4 E2 s1 := by
        intro E2 o2 e5 e0 e1 ho2 hinv2
        refine hK4 _ _ ?_
        clear hK4 K4
        refine awp_reg_seq ?_
        intro K hK
        simp only [↓DN, UP, DF, qSh, qCv, qIA, qIx, qSl, qBu, qCe, qOn, reduceCtorEq, ↓reduceIte, nLT, nLE, nEQ, nAdd, nMul, nPow, nSub, zLT, zLE, zNat, RRefPower68, e0]
        refine acallk (refMul_calls b b hb hb s1) ?_
        rintro r s' ⟨rfl, rfl⟩
        simp only [↓AXq_nil, ↓AXq_cons, pval, DX, Nat.reduceBEq, ↓DN, UP, DF, qSh, qCv, qIA, qIx, qSl, qBu, qCe, qOn, reduceCtorEq, ↓reduceIte, nLT, nLE, nEQ, nAdd, nMul, nPow, nSub, zLT, zLE, zNat, RRefPower68]
        refine hK _ _ ?_
        clear hK K
        refine awp_reg_end ?_
        intro K hK
        simp only [↓DN, UP, DF, qSh, qCv, qIA, qIx, qSl, qBu, qCe, qOn, reduceCtorEq, ↓reduceIte, nLT, nLE, nEQ, nAdd, nMul, nPow, nSub, zLT, zLE, zNat, RRefPower68, e1, u64_half m hm]
        refine hK _ _ ?_
        clear hK K
        have hb2 : b * b % PP < PP := mod_pp_lt _
        refine ⟨⟨o2, b * b % PP, m / 2, by simp only [upd, e5, nEQ, ↓reduceIte], by simp only [upd, nEQ, ↓reduceIte], by simp only [upd, ↓reduceIte], ho2, by omega, by omega, hinv2, rfl⟩, ?_⟩
        simp only [h1, upd, ↓reduceIte]
        omega
      by_cases hodd : m % 2 = 1
      · refine awp_reg_seq ?_
        intro K hK
        simp only [↓DN, UP, DF, qSh, qCv, qIA, qIx, qSl, qBu, qCe, qOn, reduceCtorEq, ↓reduceIte, nLT, nLE, nEQ, nAdd, nMul, nPow, nSub, zLT, zLE, zNat, RRefPower68, h5, h0, h1, remTwo, hodd, Int.natCast_one]
        refine hK _ _ ?_
        clear hK K
        refine awp_cond_k ?_
        intro X Y hX hY
        simp only [↓DN, UP, DF, qSh, qCv, qIA, qIx, qSl, qBu, qCe, qOn, reduceCtorEq, ↓reduceIte, nLT, nLE, nEQ, nAdd, nMul, nPow, nSub, zLT, zLE, zNat, RRefPower68, DB]
        refine hX ?_
        clear hX hY X Y
        refine awp_reg_end ?_
        intro K hK
        simp only [↓DN, UP, DF, qSh, qCv, qIA, qIx, qSl, qBu, qCe, qOn, reduceCtorEq, ↓reduceIte, nLT, nLE, nEQ, nAdd, nMul, nPow, nSub, zLT, zLE, zNat, RRefPower68, h5, h0]
        refine acallk (refMul_calls o b (by omega) hb s1) ?_
        rintro r s' ⟨rfl, rfl⟩
        simp only [↓AXq_nil, ↓AXq_cons, pval, DX, Nat.reduceBEq, ↓DN, UP, DF, qSh, qCv, qIA, qIx, qSl, qBu, qCe, qOn, reduceCtorEq, ↓reduceIte, nLT, nLE, nEQ, nAdd, nMul, nPow, nSub, zLT, zLE, zNat, RRefPower68]
        refine hK _ _ ?_
        clear hK K
        refine hsq _ (o * b % PP) (by simp only [upd, ↓reduceIte]) (by simp only [upd, h0, nEQ, ↓reduceIte]) (by simp only [upd, h1, nEQ, ↓reduceIte]) (mod_pp_lt _) ?_
        rw [← hinv]
        have e : b ^ m = b * (b * b) ^ (m / 2) := by
          have : m = 2 * (m / 2) + 1 := by omega
          conv => lhs; rw [this, Nat.pow_succ, Nat.pow_mul, Nat.pow_two, Nat.mul_comm]
        rw [e, ← Nat.mul_assoc, Nat.mul_mod, Nat.mod_mod, ← Nat.pow_mod, ← Nat.mul_mod]
      · have heven : m % 2 = 0 := by omega
        refine awp_reg_seq ?_
        intro K hK
        simp only [↓DN, UP, DF, qSh, qCv, qIA, qIx, qSl, qBu, qCe, qOn, reduceCtorEq, ↓reduceIte, nLT, nLE, nEQ, nAdd, nMul, nPow, nSub, zLT, zLE, zNat, RRefPower68, h5, h0, h1, remTwo, heven, Int.natCast_zero, zero_one]
        refine hK _ _ ?_
        clear hK K
        refine awp_cond_k ?_
        intro X Y hX hY
        simp only [↓DN, UP, DF, qSh, qCv, qIA, qIx, qSl, qBu, qCe, qOn, reduceCtorEq, ↓reduceIte, nLT, nLE, nEQ, nAdd, nMul, nPow, nSub, zLT, zLE, zNat, RRefPower68, DB, zero_one]
        refine hY ?_
        clear hX hY X Y
        refine awp_skip ?_
        refine hsq _ o (by simp only [upd, h5, nEQ, ↓reduceIte]) (by simp only [upd, h0, nEQ, ↓reduceIte]) (by simp only [upd, h1, nEQ, ↓reduceIte]) ho ?_
        rw [← hinv]
        have e : b ^ m = (b * b) ^ (m / 2) := by
          have : m = 2 * (m / 2) := by omega
          conv => lhs; rw [this, Nat.pow_mul, Nat.pow_two]
        rw [e, Nat.mul_mod, ← Nat.pow_mod, ← Nat.mul_mod]

end Go.Proofs.YtooeklnbdgoneaaDoor


set_option autoImplicit false
namespace Go.Proofs.YtooeklnbdgoneaaDoor
open Go Go.AM Go.Proofs

theorem RPow193 : type_of% (And.intro (And.intro (And.intro (And.intro (And.intro @Tryd.underlying4 (And.intro T.c4 T.g4)) (And.intro (And.intro T.b4 T.z4) (And.intro @Tryd.underlying22 T.c22))) (And.intro (And.intro (And.intro T.g22 T.b22) (And.intro T.z22 T.s22)) (And.intro (And.intro @Tryd.underlying41 T.c41) (And.intro T.g41 T.b41)))) (And.intro (And.intro (And.intro (And.intro T.z41 @Tryd.underlying61) (And.intro T.c61 T.g61)) (And.intro (And.intro T.b61 T.z61) (And.intro T.p61 @Tryd.underlying105))) (And.intro (And.intro (And.intro T.c105 T.g105) (And.intro T.b105 T.z105)) (And.intro (And.intro T.h105 T.k34) (And.intro T.k57 T.k36))))) Tryd.ntmps93) :=
  (And.intro (And.intro (And.intro (And.intro (And.intro @Tryd.underlying4 (And.intro T.c4 T.g4)) (And.intro (And.intro T.b4 T.z4) (And.intro @Tryd.underlying22 T.c22))) (And.intro (And.intro (And.intro T.g22 T.b22) (And.intro T.z22 T.s22)) (And.intro (And.intro @Tryd.underlying41 T.c41) (And.intro T.g41 T.b41)))) (And.intro (And.intro (And.intro (And.intro T.z41 @Tryd.underlying61) (And.intro T.c61 T.g61)) (And.intro (And.intro T.b61 T.z61) (And.intro T.p61 @Tryd.underlying105))) (And.intro (And.intro (And.intro T.c105 T.g105) (And.intro T.b105 T.z105)) (And.intro (And.intro T.h105 T.k34) (And.intro T.k57 T.k36))))) Tryd.ntmps93)
theorem RPow161 : type_of% (And.intro (And.intro (And.intro (And.intro (And.intro (And.intro @Tryd.underlying3 T.c3) (And.intro T.g3 (And.intro T.b3 T.z3))) (And.intro (And.intro @Tryd.underlying5 (And.intro T.c5 T.g5)) (And.intro T.b5 (And.intro T.z5 @Tryd.underlying9)))) (And.intro (And.intro (And.intro T.c9 (And.intro T.g9 T.b9)) (And.intro T.z9 (And.intro @Tryd.underlying22 T.c22))) (And.intro (And.intro T.g22 (And.intro T.b22 T.z22)) (And.intro T.s22 (And.intro @Tryd.underlying30 T.c30))))) (And.intro (And.intro (And.intro (And.intro T.g30 T.b30) (And.intro T.z30 (And.intro @Tryd.underlying41 T.c41))) (And.intro (And.intro T.g41 (And.intro T.b41 T.z41)) (And.intro @Tryd.underlying66 (And.intro T.c66 T.g66)))) (And.intro (And.intro (And.intro T.b66 (And.intro T.z66 T.p66)) (And.intro @Tryd.underlying108 (And.intro T.c108 T.g108))) (And.intro (And.intro T.b108 (And.intro T.z108 T.h108)) (And.intro T.k81 (And.intro T.k37 T.k71)))))) Tryd.ntmps61) :=
  (And.intro (And.intro (And.intro (And.intro (And.intro (And.intro @Tryd.underlying3 T.c3) (And.intro T.g3 (And.intro T.b3 T.z3))) (And.intro (And.intro @Tryd.underlying5 (And.intro T.c5 T.g5)) (And.intro T.b5 (And.intro T.z5 @Tryd.underlying9)))) (And.intro (And.intro (And.intro T.c9 (And.intro T.g9 T.b9)) (And.intro T.z9 (And.intro @Tryd.underlying22 T.c22))) (And.intro (And.intro T.g22 (And.intro T.b22 T.z22)) (And.intro T.s22 (And.intro @Tryd.underlying30 T.c30))))) (And.intro (And.intro (And.intro (And.intro T.g30 T.b30) (And.intro T.z30 (And.intro @Tryd.underlying41 T.c41))) (And.intro (And.intro T.g41 (And.intro T.b41 T.z41)) (And.intro @Tryd.underlying66 (And.intro T.c66 T.g66)))) (And.intro (And.intro (And.intro T.b66 (And.intro T.z66 T.p66)) (And.intro @Tryd.underlying108 (And.intro T.c108 T.g108))) (And.intro (And.intro T.b108 (And.intro T.z108 T.h108)) (And.intro T.k81 (And.intro T.k37 T.k71)))))) Tryd.ntmps61)
theorem RPow131 : type_of% (And.intro (And.intro (And.intro (And.intro (And.intro @Tryd.underlying3 T.c3) (And.intro T.g3 T.b3)) (And.intro (And.intro T.z3 @Tryd.underlying9) (And.intro T.c9 T.g9))) (And.intro (And.intro (And.intro T.b9 T.z9) (And.intro @Tryd.underlying41 T.c41)) (And.intro (And.intro T.g41 T.b41) (And.intro T.z41 (And.intro T.k67 T.k53))))) Tryd.ntmps31) :=
  (And.intro (And.intro (And.intro (And.intro (And.intro @Tryd.underlying3 T.c3) (And.intro T.g3 T.b3)) (And.intro (And.intro T.z3 @Tryd.underlying9) (And.intro T.c9 T.g9))) (And.intro (And.intro (And.intro T.b9 T.z9) (And.intro @Tryd.underlying41 T.c41)) (And.intro (And.intro T.g41 T.b41) (And.intro T.z41 (And.intro T.k67 T.k53))))) Tryd.ntmps31)
theorem RPow162 : type_of% (And.intro (And.intro (And.intro @Tryd.underlying41 (And.intro T.c41 T.g41)) (And.intro T.b41 (And.intro T.z41 T.k91))) Tryd.ntmps62) :=
  (And.intro (And.intro (And.intro @Tryd.underlying41 (And.intro T.c41 T.g41)) (And.intro T.b41 (And.intro T.z41 T.k91))) Tryd.ntmps62)
theorem RPow132 : type_of% (And.intro (And.intro (And.intro @Tryd.underlying41 (And.intro T.c41 T.g41)) (And.intro T.b41 (And.intro T.z41 T.k68))) Tryd.ntmps32) :=
  (And.intro (And.intro (And.intro @Tryd.underlying41 (And.intro T.c41 T.g41)) (And.intro T.b41 (And.intro T.z41 T.k68))) Tryd.ntmps32)
theorem RPow164 : type_of% (And.intro (And.intro (And.intro @Tryd.underlying41 (And.intro T.c41 T.g41)) (And.intro (And.intro T.b41 T.z41) (And.intro T.k91 T.k93))) Tryd.ntmps64) :=
  (And.intro (And.intro (And.intro @Tryd.underlying41 (And.intro T.c41 T.g41)) (And.intro (And.intro T.b41 T.z41) (And.intro T.k91 T.k93))) Tryd.ntmps64)
variable {Γ : Nat → List AV}



def keyW : List UInt8 := [107, 101, 121]
def powKey (x : List UInt8) : Nat := 1 + beNat (Kdf.label x keyW [] 8) % 2305843009213693949
theorem key_fits : Kdf.fits keyW [] 8 = true := by decide
theorem key_label_len (x : List UInt8) : (Kdf.label x keyW [] 8).length = 8 := by
  rw [Kdf.label, key_fits, if_pos rfl]
  exact Kdf.expand_len _ _ _
theorem powKey_lt (x : List UInt8) : powKey x < 2305843009213693950 := by unfold powKey; omega
theorem powKey_pos (x : List UInt8) : 1 ≤ powKey x := by unfold powKey; omega
theorem one_add_rem (n : Nat) : iadd .u64 1 (irem (n : Int) 2305843009213693949) = ((1 + n % 2305843009213693949 : Nat) : Int) := by
  have h : irem (n : Int) 2305843009213693949 = ((n % 2305843009213693949 : Nat) : Int) := irem_u n 2305843009213693949
  rw [h]
  exact u64_add 1 _ (by omega)
theorem eye8 (l : List UInt8) (h : l.length = 8) : (eyeNum 8 (l, 0)).1 = beNat l := by
  have e : List.take 8 l = l := List.take_of_length_le (by omega)
  simp [eyeNum, eyeNext, h, e]

set_option maxHeartbeats 400000 in
theorem powOctets_calls (n : Nat) (hn : n < 2 ^ 64) (s : AS) : ACalls Tryd.prog Γ 93 [.v (.int .u64 n)] s (fun r s' => r = bytesV (be 8 n) .any ∧ s' = s) := by
  refine acalls_body Tryd.func93 rfl Tryd.ntmps93 Tryd.results93 (by simp) ?_
  refine awp_reg_seq ?_
  intro K hK
  simp only [↓DN, UP, DF, qSh, qCv, qIA, qIx, qSl, qBu, qCe, qOn, reduceCtorEq, ↓reduceIte, nLT, nLE, nEQ, nAdd, nMul, nPow, nSub, zLT, zLE, zNat, RPow193]
  refine hK _ _ ?_
  clear hK K
  refine awp_reg_seq ?_
  intro K hK
  simp only [↓DN, UP, DF, qSh, qCv, qIA, qIx, qSl, qBu, qCe, qOn, reduceCtorEq, ↓reduceIte, nLT, nLE, nEQ, nAdd, nMul, nPow, nSub, zLT, zLE, zNat, RPow193]
  refine acallk (new_calls s) ?_
  rintro r s1 ⟨p, rfl, hp⟩
  simp only [↓AXq_nil, ↓AXq_cons, pval, DX, Nat.reduceBEq, ↓DN, UP, DF, qSh, qCv, qIA, qIx, qSl, qBu, qCe, qOn, reduceCtorEq, ↓reduceIte, nLT, nLE, nEQ, nAdd, nMul, nPow, nSub, zLT, zLE, zNat, RPow193]
  refine hK _ _ ?_
  clear hK K
  refine awp_reg_seq ?_
  intro K hK
  simp only [↓DN, UP, DF, qSh, qCv, qIA, qIx, qSl, qBu, qCe, qOn, reduceCtorEq, ↓reduceIte, nLT, nLE, nEQ, nAdd, nMul, nPow, nSub, zLT, zLE, zNat, RPow193]
  refine acallk (penU64_calls s s1 p ([], false) n hn (by simp) hp) ?_
  rintro r s2 ⟨rfl, hp2⟩
  simp only [↓AXq_nil, ↓AXq_cons, pval, DX, Nat.reduceBEq, ↓DN, UP, DF, qSh, qCv, qIA, qIx, qSl, qBu, qCe, qOn, reduceCtorEq, ↓reduceIte, nLT, nLE, nEQ, nAdd, nMul, nPow, nSub, zLT, zLE, zNat, RPow193]
  refine hK _ _ ?_
  clear hK K
  have hpen : penNum 8 n ([], false) = (be 8 n, false) := by simp [penNum]
  rw [hpen] at hp2
  refine awp_reg_seq ?_
  intro K hK
  simp only [↓DN, UP, DF, qSh, qCv, qIA, qIx, qSl, qBu, qCe, qOn, reduceCtorEq, ↓reduceIte, nLT, nLE, nEQ, nAdd, nMul, nPow, nSub, zLT, zLE, zNat, RPow193]
  refine acallk (penBytes_calls s s2 p _ (by simp) hp2) ?_
  rintro r s3 ⟨rfl, rfl⟩
  simp only [↓AXq_nil, ↓AXq_cons, pval, DX, Nat.reduceBEq, ↓DN, UP, DF, qSh, qCv, qIA, qIx, qSl, qBu, qCe, qOn, reduceCtorEq, ↓reduceIte, nLT, nLE, nEQ, nAdd, nMul, nPow, nSub, zLT, zLE, zNat, RPow193]
  refine hK _ _ ?_
  clear hK K
  refine awp_reg_seq ?_
  intro K hK
  simp only [↓DN, UP, DF, qSh, qCv, qIA, qIx, qSl, qBu, qCe, qOn, reduceCtorEq, ↓reduceIte, nLT, nLE, nEQ, nAdd, nMul, nPow, nSub, zLT, zLE, zNat, RPow193]
  refine hK _ _ ?_
  clear hK K
  refine awp_ret ?_
  simp only [retQ, AEnds, aresL, ares, List.toList_toArray, ↓upd_same]; try simp only [↓DN, UP, DF, qSh, qCv, qIA, qIx, qSl, qBu, qCe, qOn, reduceCtorEq, ↓reduceIte, nLT, nLE, nEQ, nAdd, nMul, nPow, nSub, zLT, zLE, zNat, RPow193, DT]
  exact ⟨_, s, AV.weak.refl _, hp2.le, rfl, rfl⟩

set_option maxHeartbeats 400000 in
theorem powKey_calls (hG0 : Γ 0 = stC Sha.H0) (hG : Γ 1 = Sha.K.map wV) (x : List UInt8) (hx : x.length ≤ 2 ^ 36) (s : AS) : ACalls Tryd.prog Γ 61 [bytesV x .any] s (fun r s' => r = .v (.int .u64 (powKey x)) ∧ s' = s) := by
  refine acalls_body Tryd.func61 rfl Tryd.ntmps61 Tryd.results61 (by simp) ?_
  have hlen := key_label_len x
  have hlab := label_calls (Γ := Γ) hG0 hG x keyW [] 8 hx (by decide) (by decide) (by decide) s
  have hkey : powKey x = 1 + beNat (Kdf.label x keyW [] 8) % 2305843009213693949 := rfl
  generalize powKey x = k at *
  generalize Kdf.label x keyW [] 8 = l at *
  refine awp_reg_seq ?_
  intro K hK
  simp only [↓DN, UP, DF, qSh, qCv, qIA, qIx, qSl, qBu, qCe, qOn, reduceCtorEq, ↓reduceIte, nLT, nLE, nEQ, nAdd, nMul, nPow, nSub, zLT, zLE, zNat, RPow161]
  refine hK _ _ ?_
  clear hK K
  refine awp_reg_seq ?_
  intro K hK
  simp only [↓DN, UP, DF, qSh, qCv, qIA, qIx, qSl, qBu, qCe, qOn, reduceCtorEq, ↓reduceIte, nLT, nLE, nEQ, nAdd, nMul, nPow, nSub, zLT, zLE, zNat, RPow161]
  refine acallk (ACalls.weaks (AVs.weak.cons (AV.weak.refl _) (AVs.weak.cons (AV.weak.refl _) (AVs.weak.cons (AV.weak_nil (sz := 1)) (AVs.weak.refl _)))) hlab) ?_
  rintro r s1 ⟨rfl, rfl⟩
  simp only [↓AXq_nil, ↓AXq_cons, pval, DX, Nat.reduceBEq, ↓DN, UP, DF, qSh, qCv, qIA, qIx, qSl, qBu, qCe, qOn, reduceCtorEq, ↓reduceIte, nLT, nLE, nEQ, nAdd, nMul, nPow, nSub, zLT, zLE, zNat, RPow161]
  refine hK _ _ ?_
  clear hK K
  refine awp_reg_seq ?_
  intro K hK
  simp only [↓DN, UP, DF, qSh, qCv, qIA, qIx, qSl, qBu, qCe, qOn, reduceCtorEq, ↓reduceIte, nLT, nLE, nEQ, nAdd, nMul, nPow, nSub, zLT, zLE, zNat, RPow161]
  refine acallk (open_calls l s1 (by omega)) ?_
  rintro r s2 ⟨p, rfl, hp⟩
  simp only [↓AXq_nil, ↓AXq_cons, pval, DX, Nat.reduceBEq, ↓DN, UP, DF, qSh, qCv, qIA, qIx, qSl, qBu, qCe, qOn, reduceCtorEq, ↓reduceIte, nLT, nLE, nEQ, nAdd, nMul, nPow, nSub, zLT, zLE, zNat, RPow161]
  refine acallk (eyeU64_calls s1 s2 p _ hp) ?_
  rintro r s3 ⟨rfl, hp3⟩
  rw [eye8 l hlen]
  simp only [↓AXq_nil, ↓AXq_cons, pval, DX, Nat.reduceBEq, ↓DN, UP, DF, qSh, qCv, qIA, qIx, qSl, qBu, qCe, qOn, reduceCtorEq, ↓reduceIte, nLT, nLE, nEQ, nAdd, nMul, nPow, nSub, zLT, zLE, zNat, RPow161, one_add_rem]
  refine hK _ _ ?_
  clear hK K
  refine awp_ret ?_
  simp only [retQ, AEnds, aresL, ares, List.toList_toArray, ↓upd_same]; try simp only [↓DN, UP, DF, qSh, qCv, qIA, qIx, qSl, qBu, qCe, qOn, reduceCtorEq, ↓reduceIte, nLT, nLE, nEQ, nAdd, nMul, nPow, nSub, zLT, zLE, zNat, RPow161, DT]
  rw [hkey, one_add_rem]
  exact ⟨_, s1, AV.weak.refl _, hp3.le, rfl, rfl⟩

set_option maxHeartbeats 400000 in
theorem refKey07_calls (x : List UInt8) (hx : x.length ≤ 2 ^ 36) (s : AS) : ACalls Tryd.prog Γ 31 [.v (.string ⟨x.toArray⟩)] s (fun r s' => r = .v (.int .u64 (powKey x)) ∧ s' = s) := by
  refine acalls_body Tryd.func31 rfl Tryd.ntmps31 Tryd.results31 (by simp) ?_
  have hlen := key_label_len x
  have hlab := refLabel_calls (Γ := Γ) x keyW [] 8 hx key_fits s
  have hkey : powKey x = 1 + beNat (Kdf.label x keyW [] 8) % 2305843009213693949 := rfl
  generalize powKey x = k at *
  generalize Kdf.label x keyW [] 8 = l at *
  refine awp_reg_seq ?_
  intro K hK
  simp only [↓DN, UP, DF, qSh, qCv, qIA, qIx, qSl, qBu, qCe, qOn, reduceCtorEq, ↓reduceIte, nLT, nLE, nEQ, nAdd, nMul, nPow, nSub, zLT, zLE, zNat, RPow131]
  refine hK _ _ ?_
  clear hK K
  refine awp_reg_seq ?_
  intro K hK
  simp only [↓DN, UP, DF, qSh, qCv, qIA, qIx, qSl, qBu, qCe, qOn, reduceCtorEq, ↓reduceIte, nLT, nLE, nEQ, nAdd, nMul, nPow, nSub, zLT, zLE, zNat, RPow131]
  refine acallk hlab ?_
  rintro r s1 ⟨rfl, rfl⟩
  simp only [↓AXq_nil, ↓AXq_cons, pval, DX, Nat.reduceBEq, ↓DN, UP, DF, qSh, qCv, qIA, qIx, qSl, qBu, qCe, qOn, reduceCtorEq, ↓reduceIte, nLT, nLE, nEQ, nAdd, nMul, nPow, nSub, zLT, zLE, zNat, RPow131]
  refine acallk (value_calls l (by omega) s1) ?_
  rintro r s2 ⟨rfl, rfl⟩
  simp only [↓AXq_nil, ↓AXq_cons, pval, DX, Nat.reduceBEq, ↓DN, UP, DF, qSh, qCv, qIA, qIx, qSl, qBu, qCe, qOn, reduceCtorEq, ↓reduceIte, nLT, nLE, nEQ, nAdd, nMul, nPow, nSub, zLT, zLE, zNat, RPow131, one_add_rem]
  refine hK _ _ ?_
  clear hK K
  refine awp_ret ?_
  simp only [retQ, AEnds, aresL, ares, List.toList_toArray, ↓upd_same]; try simp only [↓DN, UP, DF, qSh, qCv, qIA, qIx, qSl, qBu, qCe, qOn, reduceCtorEq, ↓reduceIte, nLT, nLE, nEQ, nAdd, nMul, nPow, nSub, zLT, zLE, zNat, RPow131, DT]
  rw [hkey, one_add_rem]
  exact ⟨_, _, AV.weak.refl _, AS.le.refl _, rfl, rfl⟩

set_option maxHeartbeats 400000 in
theorem powPublic_calls (k : Nat) (hk : k < 2 ^ 64) (s : AS) : ACalls Tryd.prog Γ 62 [.v (.int .u64 k)] s (fun r s' => r = .v (.int .u64 (3 ^ k % PP : Nat)) ∧ s' = s) := by
  refine acalls_body Tryd.func62 rfl Tryd.ntmps62 Tryd.results62 (by simp) ?_
  have h := pow_calls (Γ := Γ) 3 k (by decide) hk s
  generalize 3 ^ k % PP = A at *
  refine awp_reg_seq ?_
  intro K hK
  simp only [↓DN, UP, DF, qSh, qCv, qIA, qIx, qSl, qBu, qCe, qOn, reduceCtorEq, ↓reduceIte, nLT, nLE, nEQ, nAdd, nMul, nPow, nSub, zLT, zLE, zNat, RPow162]
  refine hK _ _ ?_
  clear hK K
  refine awp_reg_seq ?_
  intro K hK
  simp only [↓DN, UP, DF, qSh, qCv, qIA, qIx, qSl, qBu, qCe, qOn, reduceCtorEq, ↓reduceIte, nLT, nLE, nEQ, nAdd, nMul, nPow, nSub, zLT, zLE, zNat, RPow162]
  refine acallk h ?_
  rintro r s1 ⟨rfl, rfl⟩
  simp only [↓AXq_nil, ↓AXq_cons, pval, DX, Nat.reduceBEq, ↓DN, UP, DF, qSh, qCv, qIA, qIx, qSl, qBu, qCe, qOn, reduceCtorEq, ↓reduceIte, nLT, nLE, nEQ, nAdd, nMul, nPow, nSub, zLT, zLE, zNat, RPow162]
  refine hK _ _ ?_
  clear hK K
  refine awp_ret ?_
  simp only [retQ, AEnds, aresL, ares, List.toList_toArray, ↓upd_same]; try simp only [↓DN, UP, DF, qSh, qCv, qIA, qIx, qSl, qBu, qCe, qOn, reduceCtorEq, ↓reduceIte, nLT, nLE, nEQ, nAdd, nMul, nPow, nSub, zLT, zLE, zNat, RPow162, DT]
  exact ⟨_, _, AV.weak.refl _, AS.le.refl _, rfl, rfl⟩

set_option maxHeartbeats 400000 in
theorem refPublic07_calls (k : Nat) (hk : k < 2 ^ 64) (s : AS) : ACalls Tryd.prog Γ 32 [.v (.int .u64 k)] s (fun r s' => r = .v (.int .u64 (3 ^ k % PP : Nat)) ∧ s' = s) := by
  refine acalls_body Tryd.func32 rfl Tryd.ntmps32 Tryd.results32 (by simp) ?_
  have h := refPow_calls (Γ := Γ) 3 k (by decide) hk s
  generalize 3 ^ k % PP = A at *
  refine awp_reg_seq ?_
  intro K hK
  simp only [↓DN, UP, DF, qSh, qCv, qIA, qIx, qSl, qBu, qCe, qOn, reduceCtorEq, ↓reduceIte, nLT, nLE, nEQ, nAdd, nMul, nPow, nSub, zLT, zLE, zNat, RPow132]
  refine hK _ _ ?_
  clear hK K
  refine awp_reg_seq ?_
  intro K hK
  simp only [↓DN, UP, DF, qSh, qCv, qIA, qIx, qSl, qBu, qCe, qOn, reduceCtorEq, ↓reduceIte, nLT, nLE, nEQ, nAdd, nMul, nPow, nSub, zLT, zLE, zNat, RPow132]
  refine acallk h ?_
  rintro r s1 ⟨rfl, rfl⟩
  simp only [↓AXq_nil, ↓AXq_cons, pval, DX, Nat.reduceBEq, ↓DN, UP, DF, qSh, qCv, qIA, qIx, qSl, qBu, qCe, qOn, reduceCtorEq, ↓reduceIte, nLT, nLE, nEQ, nAdd, nMul, nPow, nSub, zLT, zLE, zNat, RPow132]
  refine hK _ _ ?_
  clear hK K
  refine awp_ret ?_
  simp only [retQ, AEnds, aresL, ares, List.toList_toArray, ↓upd_same]; try simp only [↓DN, UP, DF, qSh, qCv, qIA, qIx, qSl, qBu, qCe, qOn, reduceCtorEq, ↓reduceIte, nLT, nLE, nEQ, nAdd, nMul, nPow, nSub, zLT, zLE, zNat, RPow132, DT]
  exact ⟨_, _, AV.weak.refl _, AS.le.refl _, rfl, rfl⟩

set_option maxHeartbeats 400000 in
theorem powShared_calls (k p : Nat) (hk : k < 2 ^ 64) (hp : p < 2 ^ 64) (s : AS) : ACalls Tryd.prog Γ 64 [.v (.int .u64 k), .v (.int .u64 p)] s (fun r s' => r = bytesV (be 8 (p ^ k % PP)) .any ∧ s' = s) := by
  refine acalls_body Tryd.func64 rfl Tryd.ntmps64 Tryd.results64 (by simp) ?_
  have h := pow_calls (Γ := Γ) p k hp hk s
  have hl : p ^ k % PP < 2 ^ 64 := by have := mod_pp_lt (p ^ k); have := pp_lt; omega
  generalize p ^ k % PP = A at *
  refine awp_reg_seq ?_
  intro K hK
  simp only [↓DN, UP, DF, qSh, qCv, qIA, qIx, qSl, qBu, qCe, qOn, reduceCtorEq, ↓reduceIte, nLT, nLE, nEQ, nAdd, nMul, nPow, nSub, zLT, zLE, zNat, RPow164]
  refine hK _ _ ?_
  clear hK K
  refine awp_reg_seq ?_
  intro K hK
  simp only [↓DN, UP, DF, qSh, qCv, qIA, qIx, qSl, qBu, qCe, qOn, reduceCtorEq, ↓reduceIte, nLT, nLE, nEQ, nAdd, nMul, nPow, nSub, zLT, zLE, zNat, RPow164]
  refine acallk h ?_
  rintro r s1 ⟨rfl, rfl⟩
  simp only [↓AXq_nil, ↓AXq_cons, pval, DX, Nat.reduceBEq, ↓DN, UP, DF, qSh, qCv, qIA, qIx, qSl, qBu, qCe, qOn, reduceCtorEq, ↓reduceIte, nLT, nLE, nEQ, nAdd, nMul, nPow, nSub, zLT, zLE, zNat, RPow164]
  refine acallk (powOctets_calls A hl s1) ?_
  rintro r s2 ⟨rfl, rfl⟩
  simp only [↓AXq_nil, ↓AXq_cons, pval, DX, Nat.reduceBEq, ↓DN, UP, DF, qSh, qCv, qIA, qIx, qSl, qBu, qCe, qOn, reduceCtorEq, ↓reduceIte, nLT, nLE, nEQ, nAdd, nMul, nPow, nSub, zLT, zLE, zNat, RPow164]
  refine hK _ _ ?_
  clear hK K
  refine awp_ret ?_
  simp only [retQ, AEnds, aresL, ares, List.toList_toArray, ↓upd_same]; try simp only [↓DN, UP, DF, qSh, qCv, qIA, qIx, qSl, qBu, qCe, qOn, reduceCtorEq, ↓reduceIte, nLT, nLE, nEQ, nAdd, nMul, nPow, nSub, zLT, zLE, zNat, RPow164, DT]
  exact ⟨_, _, AV.weak.refl _, AS.le.refl _, rfl, rfl⟩

end Go.Proofs.YtooeklnbdgoneaaDoor


