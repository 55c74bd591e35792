/- Contracts of the program's functions, each walked once; the conditions stand in each theorem. -/
import Derived.Test.YtooeklnbdgoneaaDoorAMp6
import Derived.Test.YtooeklnbdgoneaaDoorW10
import Derived.Test.YtooeklnbdgoneaaDoorW9
import Derived.Test.YtooeklnbdgoneaaDoorRows
import Derived.Test.YtooeklnbdgoneaaDoorW1
import Derived.ProofKit
import Derived.LaidMore
import Derived.MakeChecks
import Derived.OpenShut
set_option linter.unusedSimpArgs false
set_option linter.unusedVariables false
open Nat renaming reduceLT → nLT, reduceLeDiff → nLE, reduceEqDiff → nEQ, reduceAdd → nAdd, reduceMul → nMul, reducePow → nPow, reduceSub → nSub
open Int renaming reduceLT → zLT, reduceLE → zLE, reduceToNat → zNat
open Go.AM renaming ashift → qSh, aconv → qCv, aindexAddr → qIA, aindex → qIx, aslice → qSl, abuiltin → qBu
open Go.AM.AV renaming cells → qCe, one → qOn
set_option autoImplicit false
namespace Go.Proofs.YtooeklnbdgoneaaDoor
open Go Go.AM Go.Proofs

theorem RHpk835 : type_of% (And.intro (And.intro (And.intro (And.intro (And.intro (And.intro @Tryd.underlying4 T.c4) (And.intro T.g4 (And.intro T.b4 T.z4))) (And.intro (And.intro @Tryd.underlying5 T.c5) (And.intro T.g5 (And.intro T.b5 T.z5)))) (And.intro (And.intro (And.intro @Tryd.underlying22 T.c22) (And.intro T.g22 (And.intro T.b22 T.z22))) (And.intro (And.intro T.s22 (And.intro @Tryd.underlying41 T.c41)) (And.intro T.g41 (And.intro T.b41 T.z41))))) (And.intro (And.intro (And.intro (And.intro @Tryd.underlying46 T.c46) (And.intro T.g46 (And.intro T.b46 T.z46))) (And.intro (And.intro T.h46 (And.intro @Tryd.underlying61 T.c61)) (And.intro T.g61 (And.intro T.b61 T.z61)))) (And.intro (And.intro (And.intro T.p61 @Tryd.underlying105) (And.intro T.c105 (And.intro T.g105 T.b105))) (And.intro (And.intro T.z105 (And.intro T.h105 T.f46_0)) (And.intro T.f46_1 (And.intro T.k57 T.k69)))))) Tryd.ntmps35) :=
  (And.intro (And.intro (And.intro (And.intro (And.intro (And.intro @Tryd.underlying4 T.c4) (And.intro T.g4 (And.intro T.b4 T.z4))) (And.intro (And.intro @Tryd.underlying5 T.c5) (And.intro T.g5 (And.intro T.b5 T.z5)))) (And.intro (And.intro (And.intro @Tryd.underlying22 T.c22) (And.intro T.g22 (And.intro T.b22 T.z22))) (And.intro (And.intro T.s22 (And.intro @Tryd.underlying41 T.c41)) (And.intro T.g41 (And.intro T.b41 T.z41))))) (And.intro (And.intro (And.intro (And.intro @Tryd.underlying46 T.c46) (And.intro T.g46 (And.intro T.b46 T.z46))) (And.intro (And.intro T.h46 (And.intro @Tryd.underlying61 T.c61)) (And.intro T.g61 (And.intro T.b61 T.z61)))) (And.intro (And.intro (And.intro T.p61 @Tryd.underlying105) (And.intro T.c105 (And.intro T.g105 T.b105))) (And.intro (And.intro T.z105 (And.intro T.h105 T.f46_0)) (And.intro T.f46_1 (And.intro T.k57 T.k69)))))) Tryd.ntmps35)
theorem RHpk840 : type_of% (And.intro (And.intro (And.intro (And.intro (And.intro @Tryd.underlying3 (And.intro T.c3 T.g3)) (And.intro T.b3 (And.intro T.z3 @Tryd.underlying9))) (And.intro (And.intro T.c9 (And.intro T.g9 T.b9)) (And.intro T.z9 (And.intro @Tryd.underlying41 T.c41)))) (And.intro (And.intro (And.intro T.g41 (And.intro T.b41 T.z41)) (And.intro @Tryd.underlying50 (And.intro T.c50 T.g50))) (And.intro (And.intro T.b50 (And.intro T.z50 T.h50)) (And.intro (And.intro T.f50_0 T.f50_1) (And.intro T.k59 T.k58))))) Tryd.ntmps40) :=
  (And.intro (And.intro (And.intro (And.intro (And.intro @Tryd.underlying3 (And.intro T.c3 T.g3)) (And.intro T.b3 (And.intro T.z3 @Tryd.underlying9))) (And.intro (And.intro T.c9 (And.intro T.g9 T.b9)) (And.intro T.z9 (And.intro @Tryd.underlying41 T.c41)))) (And.intro (And.intro (And.intro T.g41 (And.intro T.b41 T.z41)) (And.intro @Tryd.underlying50 (And.intro T.c50 T.g50))) (And.intro (And.intro T.b50 (And.intro T.z50 T.h50)) (And.intro (And.intro T.f50_0 T.f50_1) (And.intro T.k59 T.k58))))) Tryd.ntmps40)
theorem RHpk810 : type_of% (And.intro (And.intro (And.intro (And.intro (And.intro (And.intro (And.intro @Tryd.underlying3 (And.intro T.c3 T.g3)) (And.intro T.b3 (And.intro T.z3 @Tryd.underlying4))) (And.intro (And.intro T.c4 (And.intro T.g4 T.b4)) (And.intro T.z4 (And.intro @Tryd.underlying5 T.c5)))) (And.intro (And.intro (And.intro T.g5 (And.intro T.b5 T.z5)) (And.intro @Tryd.underlying9 (And.intro T.c9 T.g9))) (And.intro (And.intro T.b9 (And.intro T.z9 @Tryd.underlying22)) (And.intro (And.intro T.c22 T.g22) (And.intro T.b22 T.z22))))) (And.intro (And.intro (And.intro (And.intro T.s22 (And.intro @Tryd.underlying30 T.c30)) (And.intro T.g30 (And.intro T.b30 T.z30))) (And.intro (And.intro @Tryd.underlying41 (And.intro T.c41 T.g41)) (And.intro T.b41 (And.intro T.z41 @Tryd.underlying46)))) (And.intro (And.intro (And.intro T.c46 (And.intro T.g46 T.b46)) (And.intro T.z46 (And.intro T.h46 @Tryd.underlying50))) (And.intro (And.intro T.c50 (And.intro T.g50 T.b50)) (And.intro (And.intro T.z50 T.h50) (And.intro @Tryd.underlying61 T.c61)))))) (And.intro (And.intro (And.intro (And.intro (And.intro T.g61 (And.intro T.b61 T.z61)) (And.intro T.p61 (And.intro @Tryd.underlying66 T.c66))) (And.intro (And.intro T.g66 (And.intro T.b66 T.z66)) (And.intro T.p66 (And.intro @Tryd.underlying68 T.c68)))) (And.intro (And.intro (And.intro T.g68 (And.intro T.b68 T.z68)) (And.intro T.p68 (And.intro @Tryd.underlying70 T.c70))) (And.intro (And.intro T.g70 (And.intro T.b70 T.z70)) (And.intro (And.intro T.h70 @Tryd.underlying105) (And.intro T.c105 T.g105))))) (And.intro (And.intro (And.intro (And.intro T.b105 (And.intro T.z105 T.h105)) (And.intro @Tryd.underlying108 (And.intro T.c108 T.g108))) (And.intro (And.intro T.b108 (And.intro T.z108 T.h108)) (And.intro (And.intro T.f46_0 T.f46_1) (And.intro T.f50_0 T.f50_1)))) (And.intro (And.intro (And.intro T.f70_0 (And.intro T.f70_1 T.k36)) (And.intro T.k35 (And.intro T.k41 T.k37))) (And.intro (And.intro T.k33 (And.intro T.k39 T.k42)) (And.intro (And.intro T.k25 T.k40) (And.intro T.k38 T.k34))))))) Tryd.ntmps10) :=
  (And.intro (And.intro (And.intro (And.intro (And.intro (And.intro (And.intro @Tryd.underlying3 (And.intro T.c3 T.g3)) (And.intro T.b3 (And.intro T.z3 @Tryd.underlying4))) (And.intro (And.intro T.c4 (And.intro T.g4 T.b4)) (And.intro T.z4 (And.intro @Tryd.underlying5 T.c5)))) (And.intro (And.intro (And.intro T.g5 (And.intro T.b5 T.z5)) (And.intro @Tryd.underlying9 (And.intro T.c9 T.g9))) (And.intro (And.intro T.b9 (And.intro T.z9 @Tryd.underlying22)) (And.intro (And.intro T.c22 T.g22) (And.intro T.b22 T.z22))))) (And.intro (And.intro (And.intro (And.intro T.s22 (And.intro @Tryd.underlying30 T.c30)) (And.intro T.g30 (And.intro T.b30 T.z30))) (And.intro (And.intro @Tryd.underlying41 (And.intro T.c41 T.g41)) (And.intro T.b41 (And.intro T.z41 @Tryd.underlying46)))) (And.intro (And.intro (And.intro T.c46 (And.intro T.g46 T.b46)) (And.intro T.z46 (And.intro T.h46 @Tryd.underlying50))) (And.intro (And.intro T.c50 (And.intro T.g50 T.b50)) (And.intro (And.intro T.z50 T.h50) (And.intro @Tryd.underlying61 T.c61)))))) (And.intro (And.intro (And.intro (And.intro (And.intro T.g61 (And.intro T.b61 T.z61)) (And.intro T.p61 (And.intro @Tryd.underlying66 T.c66))) (And.intro (And.intro T.g66 (And.intro T.b66 T.z66)) (And.intro T.p66 (And.intro @Tryd.underlying68 T.c68)))) (And.intro (And.intro (And.intro T.g68 (And.intro T.b68 T.z68)) (And.intro T.p68 (And.intro @Tryd.underlying70 T.c70))) (And.intro (And.intro T.g70 (And.intro T.b70 T.z70)) (And.intro (And.intro T.h70 @Tryd.underlying105) (And.intro T.c105 T.g105))))) (And.intro (And.intro (And.intro (And.intro T.b105 (And.intro T.z105 T.h105)) (And.intro @Tryd.underlying108 (And.intro T.c108 T.g108))) (And.intro (And.intro T.b108 (And.intro T.z108 T.h108)) (And.intro (And.intro T.f46_0 T.f46_1) (And.intro T.f50_0 T.f50_1)))) (And.intro (And.intro (And.intro T.f70_0 (And.intro T.f70_1 T.k36)) (And.intro T.k35 (And.intro T.k41 T.k37))) (And.intro (And.intro T.k33 (And.intro T.k39 T.k42)) (And.intro (And.intro T.k25 T.k40) (And.intro T.k38 T.k34))))))) Tryd.ntmps10)

variable {Γ : Nat → List AV}

set_option maxHeartbeats 400000 in
theorem hWrite_calls (s0 s : AS) (p : Nat) (st : List UInt8 × Bool) (f : Nat) (t : List UInt8) (hf : f < 2 ^ 64) (hl : st.1.length + t.length + 20 ≤ 2 ^ 45) (h : PenS s0 s p st) :
    ACalls Tryd.prog Γ 35 [.ptr p 0, .agg [.v (.int .u64 f), bytesV t .any]] s (fun r s' => r = .tup [] ∧ PenS s0 s' p (penText 2 t (penNum 8 f st))) := by
  refine acalls_body Tryd.func35 rfl Tryd.ntmps35 Tryd.results35 (by simp) ?_
  refine awp_reg_frz 3 (by simp [dsts]) ?_
  intro K hK
  simp only [↓AXq_nil, ↓AXq_cons, pval, DX, Nat.reduceBEq, ↓DN, UP, DF, qSh, qCv, qIA, qIx, qSl, qBu, qCe, qOn, reduceCtorEq, ↓reduceIte, nLT, nLE, nEQ, nAdd, nMul, nPow, nSub, zLT, zLE, zNat, RHpk835]
  intro o ho
  refine hK _ _ o _ (by simp only [upd, nEQ, ↓reduceIte]) ho ?_
  clear hK K ho
  refine awp_reg_seq ?_
  intro K hK
  simp only [↓DN, UP, DF, qSh, qCv, qIA, qIx, qSl, qBu, qCe, qOn, reduceCtorEq, ↓reduceIte, nLT, nLE, nEQ, nAdd, nMul, nPow, nSub, zLT, zLE, zNat, RHpk835]
  refine acallk (penU64_calls s0 s p st f hf (by omega) h) ?_
  rintro r s1 ⟨rfl, h1⟩
  simp only [↓AXq_nil, ↓AXq_cons, pval, DX, Nat.reduceBEq, ↓DN, UP, DF, qSh, qCv, qIA, qIx, qSl, qBu, qCe, qOn, reduceCtorEq, ↓reduceIte, nLT, nLE, nEQ, nAdd, nMul, nPow, nSub, zLT, zLE, zNat, RHpk835]
  refine hK _ _ ?_
  clear hK K
  have hl2 : (penNum 8 f st).1.length ≤ st.1.length + 8 := by
    rw [penNum_raw]; unfold penRaw; split <;> simp
  refine awp_reg_end ?_
  intro K hK
  simp only [↓DN, UP, DF, qSh, qCv, qIA, qIx, qSl, qBu, qCe, qOn, reduceCtorEq, ↓reduceIte, nLT, nLE, nEQ, nAdd, nMul, nPow, nSub, zLT, zLE, zNat, RHpk835]
  refine acallk (penLong_calls s0 s1 p _ _ t (IsB.any t) (by omega) h1) ?_
  rintro r s2 ⟨rfl, h2⟩
  simp only [↓AXq_nil, ↓AXq_cons, pval, DX, Nat.reduceBEq, ↓DN, UP, DF, qSh, qCv, qIA, qIx, qSl, qBu, qCe, qOn, reduceCtorEq, ↓reduceIte, nLT, nLE, nEQ, nAdd, nMul, nPow, nSub, zLT, zLE, zNat, RHpk835]
  refine hK _ _ ?_
  clear hK K
  simp only [retQ, AEnds, aresL, ares, List.toList_toArray, ↓upd_same]; try simp only [↓DN, UP, DF, qSh, qCv, qIA, qIx, qSl, qBu, qCe, qOn, reduceCtorEq, ↓reduceIte, nLT, nLE, nEQ, nAdd, nMul, nPow, nSub, zLT, zLE, zNat, RHpk835, DT]
  exact ⟨_, _, AV.weak.refl _, AS.le.refl _, rfl, h2⟩

def hText (f : Nat) (t : List UInt8) : List UInt8 := be 8 f ++ (be 2 t.length ++ t)
set_option maxHeartbeats 400000 in
theorem refHWrite_calls (f : Nat) (t : List UInt8) (hf : f < 2 ^ 64) (ht : t.length ≤ 1000) (s : AS) :
    ACalls Tryd.prog Γ 40 [.agg [.v (.int .u64 f), .v (.string ⟨t.toArray⟩)]] s (fun r s' => r = .v (.string ⟨(hText f t).toArray⟩) ∧ s' = s) := by
  refine acalls_body Tryd.func40 rfl Tryd.ntmps40 Tryd.results40 (by simp) ?_
  refine awp_reg_frz 1 (by simp [dsts]) ?_
  intro K hK
  simp only [↓AXq_nil, ↓AXq_cons, pval, DX, Nat.reduceBEq, ↓DN, UP, DF, qSh, qCv, qIA, qIx, qSl, qBu, qCe, qOn, reduceCtorEq, ↓reduceIte, nLT, nLE, nEQ, nAdd, nMul, nPow, nSub, zLT, zLE, zNat, RHpk840]
  intro o ho
  refine hK _ _ o _ (by simp only [upd, nEQ, ↓reduceIte]) ho ?_
  clear hK K ho
  have hx : (be 8 f).length + (be 2 t.length ++ t).length < 2 ^ 62 := by simp; omega
  have hh : hText f t = be 8 f ++ (be 2 t.length ++ t) := rfl
  have h2 := fun s => refText_calls (Γ := Γ) t 2 (by omega) (by decide) s
  generalize be 2 t.length ++ t = u at *
  refine awp_drw_seq T.mixed [2, 5] (by kernel_rfl) ?_
  intro K hK
  simp only [↓AXq_nil, ↓AXq_cons, pval, DX, Nat.reduceBEq, ↓DN, UP, DF, qSh, qCv, qIA, qIx, qSl, qBu, qCe, qOn, reduceCtorEq, ↓reduceIte, nLT, nLE, nEQ, nAdd, nMul, nPow, nSub, zLT, zLE, zNat, RHpk840]
  refine acallk (refNumber_calls f 8 hf (by decide) _) ?_
  rintro r s1 ⟨rfl, rfl⟩
  simp only [↓AXq_nil, ↓AXq_cons, pval, DX, Nat.reduceBEq, ↓DN, UP, DF, qSh, qCv, qIA, qIx, qSl, qBu, qCe, qOn, reduceCtorEq, ↓reduceIte, nLT, nLE, nEQ, nAdd, nMul, nPow, nSub, zLT, zLE, zNat, RHpk840]
  refine acallk (h2 _) ?_
  rintro r s2 ⟨rfl, rfl⟩
  simp only [↓AXq_nil, ↓AXq_cons, pval, DX, Nat.reduceBEq, ↓DN, UP, DF, qSh, qCv, qIA, qIx, qSl, qBu, qCe, qOn, reduceCtorEq, ↓reduceIte, nLT, nLE, nEQ, nAdd, nMul, nPow, nSub, zLT, zLE, zNat, RHpk840, i64_room hx]
  refine hK _ _ ?_
  clear hK K
  refine awp_ret ?_
  simp only [retQ, AEnds, aresL, ares, List.toList_toArray, ↓upd_same]; try simp only [↓DN, UP, DF, qSh, qCv, qIA, qIx, qSl, qBu, qCe, qOn, reduceCtorEq, ↓reduceIte, nLT, nLE, nEQ, nAdd, nMul, nPow, nSub, zLT, zLE, zNat, RHpk840, DT]
  exact ⟨_, _, AV.weak.refl _, AS.le.refl _, by rw [hh], rfl⟩

theorem hRead_text (f : Nat) (t : List UInt8) (hf : pubOk f) (ht : t.length ≤ 400) : hRead 400 (hText f t, 0) = ((f, t), [], 0) := by
  have e1 : eyeNum 8 (hText f t, 0) = (f, be 2 t.length ++ t, 0) := eyeNum_be (by have := hf.2; omega)
  have e2 : eyeText 2 400 (be 2 t.length ++ t, 0) = (t, [], 0) := by
    have := eyeText_be (k := 2) (m := t) (rest := []) (most := 400) (by omega) (by omega)
    rwa [List.append_nil] at this
  unfold hRead hRaw
  rw [e1]
  simp only [hFail, if_pos hf, e2, if_true]

set_option maxHeartbeats 8000000 in
set_option maxRecDepth 100000 in
theorem hpkeReads_calls (hG0 : Γ 0 = stC Sha.H0) (hG : Γ 1 = Sha.K.map wV) (f : Nat) (hf : f < 2 ^ 64) (t b : List UInt8) (most : Int) (s : AS) :
    ACalls Tryd.prog Γ 10 [.agg [.v (.int .u64 f), bytesV t .any], bytesV b .any, .v (.int .i64 most)] s (fun r s' => r = .v (.bool true)) := by
  refine acalls_body Tryd.func10 rfl Tryd.ntmps10 Tryd.results10 (by simp) ?_
  refine awp_reg_frz 3 (by simp [dsts]) ?_
  intro K hK
  simp only [↓AXq_nil, ↓AXq_cons, pval, DX, Nat.reduceBEq, ↓DN, UP, DF, qSh, qCv, qIA, qIx, qSl, qBu, qCe, qOn, reduceCtorEq, ↓reduceIte, nLT, nLE, nEQ, nAdd, nMul, nPow, nSub, zLT, zLE, zNat, RHpk810]
  intro o ho
  refine hK _ _ o _ (by simp only [upd, nEQ, ↓reduceIte]) ho ?_
  clear hK K ho
  refine awp_seq_k ?_
  intro K hK
  refine awp_reg_seq ?_
  intro K hK
  simp only [↓DN, UP, DF, qSh, qCv, qIA, qIx, qSl, qBu, qCe, qOn, reduceCtorEq, ↓reduceIte, nLT, nLE, nEQ, nAdd, nMul, nPow, nSub, zLT, zLE, zNat, RHpk810]
  refine acallk (awake08_calls hG0 hG _) ?_
  rintro r s1 ⟨rfl, rfl⟩
  rcases tt2 (decide ((400 : Int) < (t.length : Int))) (decide ((500 : Int) < (b.length : Int))) with hd | hd | hd
  case inr.inr =>
    simp only [↓AXq_nil, ↓AXq_cons, pval, DX, Nat.reduceBEq, ↓DN, UP, DF, qSh, qCv, qIA, qIx, qSl, qBu, qCe, qOn, reduceCtorEq, ↓reduceIte, nLT, nLE, nEQ, nAdd, nMul, nPow, nSub, zLT, zLE, zNat, RHpk810, hd]
    refine hK _ _ ?_
    clear hK K
    refine awp_cond_k ?_
    intro X Y hX hY
    simp only [↓DN, UP, DF, qSh, qCv, qIA, qIx, qSl, qBu, qCe, qOn, reduceCtorEq, ↓reduceIte, nLT, nLE, nEQ, nAdd, nMul, nPow, nSub, zLT, zLE, zNat, RHpk810, DB]
    refine hY ?_
    clear hX hY X Y
    refine awp_skip ?_
    refine hK _ _ ?_
    clear hK K
    simp only [decide_eq_false_iff_not] at hd
    have htl : t.length ≤ 400 := by omega
    have hbl : b.length ≤ 500 := by omega
    clear hd
    refine awp_reg_seq ?_
    intro K hK
    simp only [↓DN, UP, DF, qSh, qCv, qIA, qIx, qSl, qBu, qCe, qOn, reduceCtorEq, ↓reduceIte, nLT, nLE, nEQ, nAdd, nMul, nPow, nSub, zLT, zLE, zNat, RHpk810]
    refine acallk (new_calls s1) ?_
    rintro r s2 ⟨p, rfl, hp⟩
    simp only [↓AXq_nil, ↓AXq_cons, pval, DX, Nat.reduceBEq, ↓DN, UP, DF, qSh, qCv, qIA, qIx, qSl, qBu, qCe, qOn, reduceCtorEq, ↓reduceIte, nLT, nLE, nEQ, nAdd, nMul, nPow, nSub, zLT, zLE, zNat, RHpk810]
    refine hK _ _ ?_
    clear hK K
    refine awp_reg_seq ?_
    intro K hK
    simp only [↓DN, UP, DF, qSh, qCv, qIA, qIx, qSl, qBu, qCe, qOn, reduceCtorEq, ↓reduceIte, nLT, nLE, nEQ, nAdd, nMul, nPow, nSub, zLT, zLE, zNat, RHpk810]
    refine acallk (hWrite_calls s1 s2 p _ f t hf (by simp; omega) hp) ?_
    rintro r s3 ⟨rfl, hp3⟩
    have hpen : penText 2 t (penNum 8 f ([], false)) = (hText f t, false) := by
      rw [penNum_raw, penText_raw (by omega), penRaw_raw]
      simp [penRaw, hText]
    rw [hpen] at hp3
    have hwl : (hText f t).length = 10 + t.length := by simp [hText]; omega
    simp only [↓AXq_nil, ↓AXq_cons, pval, DX, Nat.reduceBEq, ↓DN, UP, DF, qSh, qCv, qIA, qIx, qSl, qBu, qCe, qOn, reduceCtorEq, ↓reduceIte, nLT, nLE, nEQ, nAdd, nMul, nPow, nSub, zLT, zLE, zNat, RHpk810]
    refine hK _ _ ?_
    clear hK K
    refine awp_reg_seq ?_
    intro K hK
    simp only [↓DN, UP, DF, qSh, qCv, qIA, qIx, qSl, qBu, qCe, qOn, reduceCtorEq, ↓reduceIte, nLT, nLE, nEQ, nAdd, nMul, nPow, nSub, zLT, zLE, zNat, RHpk810]
    refine acallk (penBytes_calls s1 s3 p _ (by simp only; omega) hp3) ?_
    rintro r s4 ⟨rfl, rfl⟩
    have hW := fun s => refHWrite_calls (Γ := Γ) f t hf (by omega) s
    have hrt := fun (hx : pubOk f) => hRead_text f t hx htl
    generalize hText f t = w at *
    simp only [↓AXq_nil, ↓AXq_cons, pval, DX, Nat.reduceBEq, ↓DN, UP, DF, qSh, qCv, qIA, qIx, qSl, qBu, qCe, qOn, reduceCtorEq, ↓reduceIte, nLT, nLE, nEQ, nAdd, nMul, nPow, nSub, zLT, zLE, zNat, RHpk810]
    refine hK _ _ ?_
    clear hK K
    refine awp_reg_seq ?_
    intro K hK
    simp only [↓DN, UP, DF, qSh, qCv, qIA, qIx, qSl, qBu, qCe, qOn, reduceCtorEq, ↓reduceIte, nLT, nLE, nEQ, nAdd, nMul, nPow, nSub, zLT, zLE, zNat, RHpk810]
    refine acallk (open_set b _ (by omega)) ?_
    rintro r s5 ⟨pe, hpe, rfl, rfl⟩
    simp only [↓AXq_nil, ↓AXq_cons, pval, DX, Nat.reduceBEq, ↓DN, UP, DF, qSh, qCv, qIA, qIx, qSl, qBu, qCe, qOn, reduceCtorEq, ↓reduceIte, nLT, nLE, nEQ, nAdd, nMul, nPow, nSub, zLT, zLE, zNat, RHpk810]
    refine hK _ _ ?_
    clear hK K
    refine awp_reg_seq ?_
    intro K hK
    simp only [↓DN, UP, DF, qSh, qCv, qIA, qIx, qSl, qBu, qCe, qOn, reduceCtorEq, ↓reduceIte, nLT, nLE, nEQ, nAdd, nMul, nPow, nSub, zLT, zLE, zNat, RHpk810]
    intro m hm
    have hme : pe ≠ m := by rintro rfl; simp at hm
    refine hK _ _ ?_
    clear hK K
    obtain ⟨S, hS⟩ : ∃ x, x = (s4.set pe (eyeC (b, 0))).set m [.v (.string ⟨b.toArray⟩), .v (.int .i64 0)] := ⟨_, rfl⟩
    have a1 : S.objs pe = some (eyeC (b, 0)) := by rw [hS, AS.set_objs_ne _ hme, AS.set_objs_same]
    have a2 : S.objs m = some (reyeC (b, 0)) := by rw [hS, AS.set_objs_same]
    rw [← hS]
    clear hS hm hpe
    refine awp_reg_frz2 12 13 (by simp [dsts]) (by simp [dsts]) (by decide) ?_
    intro K hK
    simp only [↓AXq_nil, ↓AXq_cons, pval, DX, Nat.reduceBEq, ↓DN, UP, DF, qSh, qCv, qIA, qIx, qSl, qBu, qCe, qOn, reduceCtorEq, ↓reduceIte, nLT, nLE, nEQ, nAdd, nMul, nPow, nSub, zLT, zLE, zNat, RHpk810]
    refine acallk (hRead_calls S pe (b, 0) most (by simp only; omega) a1) ?_
    rintro r s6 ⟨rfl, rfl⟩
    simp only [↓AXq_nil, ↓AXq_cons, pval, DX, Nat.reduceBEq, ↓DN, UP, DF, qSh, qCv, qIA, qIx, qSl, qBu, qCe, qOn, reduceCtorEq, ↓reduceIte, nLT, nLE, nEQ, nAdd, nMul, nPow, nSub, zLT, zLE, zNat, RHpk810]
    refine acallk (refHRead_calls _ m (b, 0) most (by simp only; omega) (by rw [AS.set_objs_ne _ hme.symm]; exact a2)) ?_
    rintro r s7 ⟨rfl, rfl⟩
    have b1 : ((S.set pe (eyeC (hRead most (b, 0)).2)).set m (reyeC (hRead most (b, 0)).2)).objs pe = some (eyeC (hRead most (b, 0)).2) := by rw [AS.set_objs_ne _ hme, AS.set_objs_same]
    have b2 : ((S.set pe (eyeC (hRead most (b, 0)).2)).set m (reyeC (hRead most (b, 0)).2)).objs m = some (reyeC (hRead most (b, 0)).2) := AS.set_objs_same _ _ _
    generalize (S.set pe (eyeC (hRead most (b, 0)).2)).set m (reyeC (hRead most (b, 0)).2) = S2 at *
    generalize hRead most (b, 0) = q at *
    simp only [↓AXq_nil, ↓AXq_cons, pval, DX, Nat.reduceBEq, ↓DN, UP, DF, qSh, qCv, qIA, qIx, qSl, qBu, qCe, qOn, reduceCtorEq, ↓reduceIte, nLT, nLE, nEQ, nAdd, nMul, nPow, nSub, zLT, zLE, zNat, RHpk810]
    intro o1 ho1 o2 ho2
    have hne : o1 ≠ o2 := by rintro rfl; simp at ho2
    have hne2 := hne.symm
    have ho2' : (S2.set o1 [.v (.int .u64 q.1.1), bytesV q.1.2 .any]).objs o2 = none := by
      rw [AS.set_objs_ne _ hne2]
      simpa [hne2] using ho2
    simp only [hne, hne2, if_true, if_false, ↓reduceIte, List.set_cons_zero, List.set_cons_succ, List.length_cons, List.length_nil, Nat.reduceAdd, Nat.le_refl, true_and]
    rw [AS.set_mid _ hne, AS.set_set]
    refine hK _ _ o1 o2 _ _ (by simp only [upd, nEQ, ↓reduceIte]) (by simp only [upd, nEQ, ↓reduceIte]) (by simpa using ho1) ho2' ?_
    clear hK K ho1 ho2 ho2' hne hne2
    refine awp_seq_k ?_
    intro K hK
    refine awp_drw_seq T.mixed [11, 31, 33] (by kernel_rfl) ?_
    intro K hK
    simp only [↓AXq_nil, ↓AXq_cons, pval, DX, Nat.reduceBEq, ↓DN, UP, DF, qSh, qCv, qIA, qIx, qSl, qBu, qCe, qOn, reduceCtorEq, ↓reduceIte, nLT, nLE, nEQ, nAdd, nMul, nPow, nSub, zLT, zLE, zNat, RHpk810]
    refine acallk (hW _) ?_
    rintro r s8 ⟨rfl, rfl⟩
    simp only [↓AXq_nil, ↓AXq_cons, pval, DX, Nat.reduceBEq, ↓DN, UP, DF, qSh, qCv, qIA, qIx, qSl, qBu, qCe, qOn, reduceCtorEq, ↓reduceIte, nLT, nLE, nEQ, nAdd, nMul, nPow, nSub, zLT, zLE, zNat, RHpk810, show (w != w) = false from by simp, show (q.1.2 != q.1.2) = false from by simp, show (((q.1.1 : Nat) : Int) != ((q.1.1 : Nat) : Int)) = false from by simp]
    refine acallk (eyeEnd_at _ pe _ b1) ?_
    rintro r s9 ⟨rfl, rfl⟩
    simp only [↓AXq_nil, ↓AXq_cons, pval, DX, Nat.reduceBEq, ↓DN, UP, DF, qSh, qCv, qIA, qIx, qSl, qBu, qCe, qOn, reduceCtorEq, ↓reduceIte, nLT, nLE, nEQ, nAdd, nMul, nPow, nSub, zLT, zLE, zNat, RHpk810]
    refine acallk (reyeEnd_at _ m _ b2) ?_
    rintro r s10 ⟨rfl, rfl⟩
    simp only [↓AXq_nil, ↓AXq_cons, pval, DX, Nat.reduceBEq, ↓DN, UP, DF, qSh, qCv, qIA, qIx, qSl, qBu, qCe, qOn, reduceCtorEq, ↓reduceIte, nLT, nLE, nEQ, nAdd, nMul, nPow, nSub, zLT, zLE, zNat, RHpk810, show ((eyeEnd q.2) != (eyeEnd q.2)) = false from by simp]
    refine hK _ _ ?_
    clear hK K
    refine awp_cond_k ?_
    intro X Y hX hY
    simp only [↓DN, UP, DF, qSh, qCv, qIA, qIx, qSl, qBu, qCe, qOn, reduceCtorEq, ↓reduceIte, nLT, nLE, nEQ, nAdd, nMul, nPow, nSub, zLT, zLE, zNat, RHpk810, DB]
    refine hY ?_
    clear hX hY X Y
    refine awp_skip ?_
    refine hK _ _ ?_
    clear hK K b1 b2
    refine awp_reg_frz 14 (by simp [dsts]) ?_
    intro K hK
    simp only [↓AXq_nil, ↓AXq_cons, pval, DX, Nat.reduceBEq, ↓DN, UP, DF, qSh, qCv, qIA, qIx, qSl, qBu, qCe, qOn, reduceCtorEq, ↓reduceIte, nLT, nLE, nEQ, nAdd, nMul, nPow, nSub, zLT, zLE, zNat, RHpk810]
    refine acallk (open_set w _ (by omega)) ?_
    rintro r s11 ⟨p2, hp2, rfl, rfl⟩
    simp only [↓AXq_nil, ↓AXq_cons, pval, DX, Nat.reduceBEq, ↓DN, UP, DF, qSh, qCv, qIA, qIx, qSl, qBu, qCe, qOn, reduceCtorEq, ↓reduceIte, nLT, nLE, nEQ, nAdd, nMul, nPow, nSub, zLT, zLE, zNat, RHpk810]
    refine acallk (hRead_calls _ p2 (w, 0) 400 (by simp only; omega) (AS.set_objs_same _ _ _)) ?_
    rintro r s12 ⟨rfl, rfl⟩
    simp only [↓AXq_nil, ↓AXq_cons, pval, DX, Nat.reduceBEq, ↓DN, UP, DF, qSh, qCv, qIA, qIx, qSl, qBu, qCe, qOn, reduceCtorEq, ↓reduceIte, nLT, nLE, nEQ, nAdd, nMul, nPow, nSub, zLT, zLE, zNat, RHpk810]
    intro o3 ho3
    generalize hq3 : hRead 400 (w, 0) = q3 at *
    refine hK _ _ o3 _ (by simp only [upd, nEQ, ↓reduceIte]) (by simp only [AS.set_objs_eq]; exact ho3) ?_
    clear hK K ho3
    refine awp_reg_seq ?_
    intro K hK
    simp only [↓DN, UP, DF, qSh, qCv, qIA, qIx, qSl, qBu, qCe, qOn, reduceCtorEq, ↓reduceIte, nLT, nLE, nEQ, nAdd, nMul, nPow, nSub, zLT, zLE, zNat, RHpk810]
    refine acallk (refRight07_calls f _) ?_
    rintro r s13 ⟨rfl, rfl⟩
    by_cases hfo : pubOk f
    · rw [pub_test hfo]
      obtain rfl := hrt hfo
      simp only [↓AXq_nil, ↓AXq_cons, pval, DX, Nat.reduceBEq, ↓DN, UP, DF, qSh, qCv, qIA, qIx, qSl, qBu, qCe, qOn, reduceCtorEq, ↓reduceIte, nLT, nLE, nEQ, nAdd, nMul, nPow, nSub, zLT, zLE, zNat, RHpk810, show (((f : Nat) : Int) == ((f : Nat) : Int)) = true from by simp, show (t == t) = true from by simp]
      refine hK _ _ ?_
      clear hK K
      refine awp_ret ?_
      simp only [retQ, AEnds, aresL, ares, List.toList_toArray, ↓upd_same]; try simp only [↓DN, UP, DF, qSh, qCv, qIA, qIx, qSl, qBu, qCe, qOn, reduceCtorEq, ↓reduceIte, nLT, nLE, nEQ, nAdd, nMul, nPow, nSub, zLT, zLE, zNat, RHpk810, DT]
      exact ⟨_, _, AV.weak.refl _, AS.le.refl _, rfl⟩
    · rw [pub_testF hfo]
      simp only [↓AXq_nil, ↓AXq_cons, pval, DX, Nat.reduceBEq, ↓DN, UP, DF, qSh, qCv, qIA, qIx, qSl, qBu, qCe, qOn, reduceCtorEq, ↓reduceIte, nLT, nLE, nEQ, nAdd, nMul, nPow, nSub, zLT, zLE, zNat, RHpk810]
      refine hK _ _ ?_
      clear hK K
      refine awp_ret ?_
      simp only [retQ, AEnds, aresL, ares, List.toList_toArray, ↓upd_same]; try simp only [↓DN, UP, DF, qSh, qCv, qIA, qIx, qSl, qBu, qCe, qOn, reduceCtorEq, ↓reduceIte, nLT, nLE, nEQ, nAdd, nMul, nPow, nSub, zLT, zLE, zNat, RHpk810, DT]
      exact ⟨_, _, AV.weak.refl _, AS.le.refl _, rfl⟩
  all_goals
    simp only [↓AXq_nil, ↓AXq_cons, pval, DX, Nat.reduceBEq, ↓DN, UP, DF, qSh, qCv, qIA, qIx, qSl, qBu, qCe, qOn, reduceCtorEq, ↓reduceIte, nLT, nLE, nEQ, nAdd, nMul, nPow, nSub, zLT, zLE, zNat, RHpk810, hd]
    refine hK _ _ ?_
    clear hK K
    refine awp_cond_k ?_
    intro X Y hX hY
    simp only [↓DN, UP, DF, qSh, qCv, qIA, qIx, qSl, qBu, qCe, qOn, reduceCtorEq, ↓reduceIte, nLT, nLE, nEQ, nAdd, nMul, nPow, nSub, zLT, zLE, zNat, RHpk810, DB]
    refine hX ?_
    clear hX hY X Y
    refine awp_reg_seq ?_
    intro K hK
    simp only [↓DN, UP, DF, qSh, qCv, qIA, qIx, qSl, qBu, qCe, qOn, reduceCtorEq, ↓reduceIte, nLT, nLE, nEQ, nAdd, nMul, nPow, nSub, zLT, zLE, zNat, RHpk810]
    refine acallk (awake08_calls hG0 hG _) ?_
    rintro r s3 ⟨rfl, rfl⟩
    simp only [↓AXq_nil, ↓AXq_cons, pval, DX, Nat.reduceBEq, ↓DN, UP, DF, qSh, qCv, qIA, qIx, qSl, qBu, qCe, qOn, reduceCtorEq, ↓reduceIte, nLT, nLE, nEQ, nAdd, nMul, nPow, nSub, zLT, zLE, zNat, RHpk810]
    refine hK _ _ ?_
    clear hK K
    refine awp_ret ?_
    try simp only [thenQ, blockQ]
    simp only [retQ, AEnds, aresL, ares, List.toList_toArray, ↓upd_same]; try simp only [↓DN, UP, DF, qSh, qCv, qIA, qIx, qSl, qBu, qCe, qOn, reduceCtorEq, ↓reduceIte, nLT, nLE, nEQ, nAdd, nMul, nPow, nSub, zLT, zLE, zNat, RHpk810, DT]
    exact ⟨_, _, AV.weak.refl _, AS.le.refl _, rfl⟩

end Go.Proofs.YtooeklnbdgoneaaDoor


set_option autoImplicit false
namespace Go.Proofs.YtooeklnbdgoneaaDoor
open Go Go.AM Go.Proofs



/-- The given tables, as words. -/
def Γd (g : Nat) : List AV := if g = 0 then [wV Sha.H0.a, wV Sha.H0.b, wV Sha.H0.c, wV Sha.H0.d, wV Sha.H0.e, wV Sha.H0.f, wV Sha.H0.g, wV Sha.H0.h] else if g = 1 then Sha.K.map wV else []
abbrev laidD : List (String × DataW Unit) := [("engrosser/sha.rounds", Rows.laid_engrosser_sha_rounds), ("engrosser/sha.start", Rows.laid_engrosser_sha_start)]

theorem ints_of_trod {H : Type} {enc : TypeId × Value → H} {P : Program} {W : World} {base : Nat} {sp : Nat → Bool} {held : Bool} {fuel : Nat} {t e : TypeId} {n : Nat} {cs : List Value} {p : List MemPlace} {l : List Nat}
    (hT : P.underlying t = some (.array n e)) (he : P.underlying e = some (.int .u32)) (hc : P.cellsOf e = 1)
    (h : DataW.trod enc P W base sp held fuel t cs = some (.agg (l.map fun (x : Nat) => .lit (.int .u32 (x : Int))), p)) : ∀ (i x : Nat), l[i]? = some x → cs[i]? = some (.int .u32 (x : Int)) := by
  obtain ⟨xs, m, rfl, hx, hlen, hn, hel⟩ := DataW.trod_array hT h
  simp only [Prod.mk.injEq, DataW.agg.injEq] at hx
  intro i x hi
  have h1 : (l.map fun (x : Nat) => DataW.lit (H := H) (.int .u32 (x : Int)))[i]? = some (.lit (.int .u32 (x : Int))) := by rw [List.getElem?_map, hi]; rfl
  rw [hx.1, List.getElem?_map] at h1
  cases hy : xs[i]? with
  | none => rw [hy] at h1; cases h1
  | some y =>
    rw [hy] at h1
    simp only [Option.map_some, Option.some.injEq] at h1
    have hlt := (List.getElem?_eq_some_iff.1 hy).1
    have h2 := hel i (by omega)
    rw [hy, hc, Nat.mul_one] at h2
    obtain ⟨k, e1, e2, _⟩ := DataW.trod_int he h2
    rw [e2] at h1
    simp only [DataW.lit.injEq, Lit.int.injEq, true_and] at h1
    have h3 : (List.take 1 (List.drop i cs))[0]? = some (.int .u32 k) := by rw [e1]; rfl
    rw [List.getElem?_take, if_pos (by decide), List.getElem?_drop, Nat.add_zero, h1] at h3
    exact h3

theorem gRounds : Tryd.prog.globalNamed "engrosser/sha.rounds" = some 1 := by kernel_rfl
theorem gStart : Tryd.prog.globalNamed "engrosser/sha.start" = some 0 := by kernel_rfl
theorem tRounds : (Tryd.prog.globals[1]?).map (·.type) = some 133 := by kernel_rfl
theorem tStart : (Tryd.prog.globals[0]?).map (·.type) = some 114 := by kernel_rfl

theorem words_at {W : World} {g : Nat} {cs : Array Value} {l : List Nat} (hc : ∀ i, W.cell? ⟨g, i, none⟩ = cs[i]?) (h : ∀ (i x : Nat), l[i]? = some x → cs.toList[i]? = some (.int .u32 (x : Int))) :
    ∃ vs, VRels (G0 W) (l.map wV) vs ∧ RoAt (G0 W) g 0 vs := by
  refine ⟨l.map fun (x : Nat) => .int .u32 (x : Int), ?_, ?_⟩
  · have := VRels.vals (G := G0 W) (l.map fun (x : Nat) => Value.int .u32 (x : Int))
    rwa [List.map_map] at this
  · intro j u hu
    rw [List.getElem?_map] at hu
    cases hj : l[j]? with
    | none => rw [hj] at hu; cases hu
    | some x =>
      rw [hj] at hu
      simp only [Option.map_some, Option.some.injEq] at hu
      have := h j x hj
      show W.cell? ⟨g, 0 + j, none⟩ = some u
      rw [Nat.zero_add, hc j, ← hu]
      simpa using this

/-- What the condition gives the walks: the two tables' cells. -/
theorem of_laid {W : World} (h : laidMetH Tryd.prog laidD W) : ∀ g, ∃ vs, VRels (G0 W) (Γd g) vs ∧ RoAt (G0 W) g 0 vs := by
  rw [MakeChecks.laidMetH_plain _ _ _ (by kernel_rfl)] at h
  obtain ⟨ps, ⟨g0, t0, cs0, f0, p0, q0, hg0, ht0, hv0, hd0, ⟨g1, t1, cs1, f1, p1, q1, hg1, ht1, hv1, hd1, _, _⟩, _⟩, _, _⟩ := h
  obtain rfl := Option.some.inj (gRounds.symm.trans hg0)
  obtain rfl := Option.some.inj (gStart.symm.trans hg1)
  obtain rfl := Option.some.inj (tRounds.symm.trans ht0)
  obtain rfl := Option.some.inj (tStart.symm.trans ht1)
  have h1 := words_at (World.var?_cell hg0 hv0) (ints_of_trod (l := Sha.K) Tryd.underlying133 Tryd.underlying81 T.c81 hd0)
  have h0 := words_at (World.var?_cell hg1 hv1) (ints_of_trod (l := Sha.H0.list) Tryd.underlying114 Tryd.underlying81 T.c81 hd1)
  intro g
  by_cases e0 : g = 0
  · subst e0; exact h0
  · by_cases e1 : g = 1
    · subst e1; exact h1
    · refine ⟨[], ?_, fun j u h => by simp at h⟩
      simp [Γd, e0, e1, VRels]

/-- The door's own heap meets the condition. -/
theorem door_met (os : Os) (args : Array Value) : laidMetH Tryd.prog laidD ((World.doorLaid Tryd.prog 400 os).forCall (fun _ _ => 0) ⟨#[], args, []⟩).memory := by
  rw [MakeChecks.laidMetH_plain _ _ _ (by kernel_rfl)]
  exact laidMet_of_run' 8 (by kernel_rfl) (by kernel_rfl)

end Go.Proofs.YtooeklnbdgoneaaDoor


set_option autoImplicit false
namespace Go.Proofs.YtooeklnbdgoneaaDoor
/-! ### The words of the translation's head, read once -/
set_option maxRecDepth 100000
def signs : List Char := [Char.ofNat 104, Char.ofNat 97, Char.ofNat 114, Char.ofNat 110, Char.ofNat 101, Char.ofNat 115, Char.ofNat 115, Char.ofNat 32, Char.ofNat 52, Char.ofNat 99, Char.ofNat 100, Char.ofNat 54, Char.ofNat 101, Char.ofNat 102, Char.ofNat 48, Char.ofNat 101, Char.ofNat 99, Char.ofNat 55, Char.ofNat 97, Char.ofNat 56, Char.ofNat 56, Char.ofNat 100, Char.ofNat 49, Char.ofNat 57, Char.ofNat 102, Char.ofNat 100, Char.ofNat 55, Char.ofNat 97, Char.ofNat 100, Char.ofNat 53, Char.ofNat 51, Char.ofNat 97, Char.ofNat 51, Char.ofNat 49, Char.ofNat 100, Char.ofNat 99, Char.ofNat 48, Char.ofNat 50, Char.ofNat 51, Char.ofNat 48, Char.ofNat 98, Char.ofNat 56, Char.ofNat 51, Char.ofNat 102, Char.ofNat 98, Char.ofNat 50, Char.ofNat 55, Char.ofNat 100, Char.ofNat 101, Char.ofNat 100, Char.ofNat 50, Char.ofNat 55, Char.ofNat 53, Char.ofNat 56, Char.ofNat 100, Char.ofNat 49, Char.ofNat 49, Char.ofNat 48, Char.ofNat 99, Char.ofNat 100, Char.ofNat 102, Char.ofNat 53, Char.ofNat 98, Char.ofNat 57, Char.ofNat 50, Char.ofNat 54, Char.ofNat 54, Char.ofNat 57, Char.ofNat 52, Char.ofNat 100, Char.ofNat 98, Char.ofNat 57, Char.ofNat 32, Char.ofNat 99, Char.ofNat 117, Char.ofNat 116, Char.ofNat 32, Char.ofNat 97, Char.ofNat 116, Char.ofNat 32, Char.ofNat 101, Char.ofNat 110, Char.ofNat 103, Char.ofNat 114, Char.ofNat 111, Char.ofNat 115, Char.ofNat 115, Char.ofNat 101, Char.ofNat 114, Char.ofNat 47, Char.ofNat 101, Char.ofNat 110, Char.ofNat 103, Char.ofNat 114, Char.ofNat 111, Char.ofNat 115, Char.ofNat 115, Char.ofNat 101, Char.ofNat 114, Char.ofNat 108, Char.ofNat 97, Char.ofNat 119, Char.ofNat 48, Char.ofNat 51, Char.ofNat 46, Char.ofNat 77, Char.ofNat 97, Char.ofNat 99, Char.ofNat 78, Char.ofNat 111, Char.ofNat 117, Char.ofNat 103, Char.ofNat 104, Char.ofNat 116, Char.ofNat 115, Char.ofNat 32, Char.ofNat 101, Char.ofNat 110, Char.ofNat 103, Char.ofNat 114, Char.ofNat 111, Char.ofNat 115, Char.ofNat 115, Char.ofNat 101, Char.ofNat 114, Char.ofNat 47, Char.ofNat 101, Char.ofNat 110, Char.ofNat 103, Char.ofNat 114, Char.ofNat 111, Char.ofNat 115, Char.ofNat 115, Char.ofNat 101, Char.ofNat 114, Char.ofNat 108, Char.ofNat 97, Char.ofNat 119, Char.ofNat 49, Char.ofNat 55, Char.ofNat 46, Char.ofNat 86, Char.ofNat 97, Char.ofNat 117, Char.ofNat 108, Char.ofNat 116, Char.ofNat 87, Char.ofNat 114, Char.ofNat 97, Char.ofNat 112, Char.ofNat 115, Char.ofNat 32, Char.ofNat 101, Char.ofNat 110, Char.ofNat 103, Char.ofNat 114, Char.ofNat 111, Char.ofNat 115, Char.ofNat 115, Char.ofNat 101, Char.ofNat 114, Char.ofNat 47, Char.ofNat 101, Char.ofNat 110, Char.ofNat 103, Char.ofNat 114, Char.ofNat 111, Char.ofNat 115, Char.ofNat 115, Char.ofNat 101, Char.ofNat 114, Char.ofNat 108, Char.ofNat 97, Char.ofNat 119, Char.ofNat 49, Char.ofNat 55, Char.ofNat 46, Char.ofNat 86, Char.ofNat 97, Char.ofNat 117, Char.ofNat 108, Char.ofNat 116, Char.ofNat 85, Char.ofNat 110, Char.ofNat 119, Char.ofNat 114, Char.ofNat 97, Char.ofNat 112, Char.ofNat 115, Char.ofNat 32, Char.ofNat 101, Char.ofNat 110, Char.ofNat 103, Char.ofNat 114, Char.ofNat 111, Char.ofNat 115, Char.ofNat 115, Char.ofNat 101, Char.ofNat 114, Char.ofNat 47, Char.ofNat 101, Char.ofNat 110, Char.ofNat 103, Char.ofNat 114, Char.ofNat 111, Char.ofNat 115, Char.ofNat 115, Char.ofNat 101, Char.ofNat 114, Char.ofNat 108, Char.ofNat 97, Char.ofNat 119, Char.ofNat 49, Char.ofNat 55, Char.ofNat 46, Char.ofNat 86, Char.ofNat 97, Char.ofNat 117, Char.ofNat 108, Char.ofNat 116, Char.ofNat 67, Char.ofNat 111, Char.ofNat 110, Char.ofNat 116, Char.ofNat 101, Char.ofNat 120, Char.ofNat 116, Char.ofNat 115, Char.ofNat 32, Char.ofNat 101, Char.ofNat 110, Char.ofNat 103, Char.ofNat 114, Char.ofNat 111, Char.ofNat 115, Char.ofNat 115, Char.ofNat 101, Char.ofNat 114, Char.ofNat 47, Char.ofNat 101, Char.ofNat 110, Char.ofNat 103, Char.ofNat 114, Char.ofNat 111, Char.ofNat 115, Char.ofNat 115, Char.ofNat 101, Char.ofNat 114, Char.ofNat 108, Char.ofNat 97, Char.ofNat 119, Char.ofNat 48, Char.ofNat 56, Char.ofNat 46, Char.ofNat 72, Char.ofNat 112, Char.ofNat 107, Char.ofNat 101, Char.ofNat 83, Char.ofNat 101, Char.ofNat 97, Char.ofNat 108, Char.ofNat 115, Char.ofNat 32, Char.ofNat 101, Char.ofNat 110, Char.ofNat 103, Char.ofNat 114, Char.ofNat 111, Char.ofNat 115, Char.ofNat 115, Char.ofNat 101, Char.ofNat 114, Char.ofNat 47, Char.ofNat 101, Char.ofNat 110, Char.ofNat 103, Char.ofNat 114, Char.ofNat 111, Char.ofNat 115, Char.ofNat 115, Char.ofNat 101, Char.ofNat 114, Char.ofNat 108, Char.ofNat 97, Char.ofNat 119, Char.ofNat 48, Char.ofNat 56, Char.ofNat 46, Char.ofNat 72, Char.ofNat 112, Char.ofNat 107, Char.ofNat 101, Char.ofNat 79, Char.ofNat 112, Char.ofNat 101, Char.ofNat 110, Char.ofNat 115, Char.ofNat 32, Char.ofNat 101, Char.ofNat 110, Char.ofNat 103, Char.ofNat 114, Char.ofNat 111, Char.ofNat 115, Char.ofNat 115, Char.ofNat 101, Char.ofNat 114, Char.ofNat 47, Char.ofNat 101, Char.ofNat 110, Char.ofNat 103, Char.ofNat 114, Char.ofNat 111, Char.ofNat 115, Char.ofNat 115, Char.ofNat 101, Char.ofNat 114, Char.ofNat 108, Char.ofNat 97, Char.ofNat 119, Char.ofNat 48, Char.ofNat 56, Char.ofNat 46, Char.ofNat 72, Char.ofNat 112, Char.ofNat 107, Char.ofNat 101, Char.ofNat 66, Char.ofNat 97, Char.ofNat 99, Char.ofNat 107, Char.ofNat 32, Char.ofNat 101, Char.ofNat 110, Char.ofNat 103, Char.ofNat 114, Char.ofNat 111, Char.ofNat 115, Char.ofNat 115, Char.ofNat 101, Char.ofNat 114, Char.ofNat 47, Char.ofNat 101, Char.ofNat 110, Char.ofNat 103, Char.ofNat 114, Char.ofNat 111, Char.ofNat 115, Char.ofNat 115, Char.ofNat 101, Char.ofNat 114, Char.ofNat 108, Char.ofNat 97, Char.ofNat 119, Char.ofNat 48, Char.ofNat 56, Char.ofNat 46, Char.ofNat 72, Char.ofNat 112, Char.ofNat 107, Char.ofNat 101, Char.ofNat 82, Char.ofNat 101, Char.ofNat 97, Char.ofNat 100, Char.ofNat 115]
def headWords : List (List Char) := [[Char.ofNat 104, Char.ofNat 97, Char.ofNat 114, Char.ofNat 110, Char.ofNat 101, Char.ofNat 115, Char.ofNat 115],
  [Char.ofNat 52, Char.ofNat 99, Char.ofNat 100, Char.ofNat 54, Char.ofNat 101, Char.ofNat 102, Char.ofNat 48, Char.ofNat 101, Char.ofNat 99, Char.ofNat 55, Char.ofNat 97, Char.ofNat 56, Char.ofNat 56, Char.ofNat 100, Char.ofNat 49, Char.ofNat 57, Char.ofNat 102, Char.ofNat 100, Char.ofNat 55, Char.ofNat 97, Char.ofNat 100, Char.ofNat 53, Char.ofNat 51, Char.ofNat 97, Char.ofNat 51, Char.ofNat 49, Char.ofNat 100, Char.ofNat 99, Char.ofNat 48, Char.ofNat 50, Char.ofNat 51, Char.ofNat 48, Char.ofNat 98, Char.ofNat 56, Char.ofNat 51, Char.ofNat 102, Char.ofNat 98, Char.ofNat 50, Char.ofNat 55, Char.ofNat 100, Char.ofNat 101, Char.ofNat 100, Char.ofNat 50, Char.ofNat 55, Char.ofNat 53, Char.ofNat 56, Char.ofNat 100, Char.ofNat 49, Char.ofNat 49, Char.ofNat 48, Char.ofNat 99, Char.ofNat 100, Char.ofNat 102, Char.ofNat 53, Char.ofNat 98, Char.ofNat 57, Char.ofNat 50, Char.ofNat 54, Char.ofNat 54, Char.ofNat 57, Char.ofNat 52, Char.ofNat 100, Char.ofNat 98, Char.ofNat 57],
  [Char.ofNat 99, Char.ofNat 117, Char.ofNat 116],
  [Char.ofNat 97, Char.ofNat 116],
  [Char.ofNat 101, Char.ofNat 110, Char.ofNat 103, Char.ofNat 114, Char.ofNat 111, Char.ofNat 115, Char.ofNat 115, Char.ofNat 101, Char.ofNat 114, Char.ofNat 47, Char.ofNat 101, Char.ofNat 110, Char.ofNat 103, Char.ofNat 114, Char.ofNat 111, Char.ofNat 115, Char.ofNat 115, Char.ofNat 101, Char.ofNat 114, Char.ofNat 108, Char.ofNat 97, Char.ofNat 119, Char.ofNat 48, Char.ofNat 51, Char.ofNat 46, Char.ofNat 77, Char.ofNat 97, Char.ofNat 99, Char.ofNat 78, Char.ofNat 111, Char.ofNat 117, Char.ofNat 103, Char.ofNat 104, Char.ofNat 116, Char.ofNat 115],
  [Char.ofNat 101, Char.ofNat 110, Char.ofNat 103, Char.ofNat 114, Char.ofNat 111, Char.ofNat 115, Char.ofNat 115, Char.ofNat 101, Char.ofNat 114, Char.ofNat 47, Char.ofNat 101, Char.ofNat 110, Char.ofNat 103, Char.ofNat 114, Char.ofNat 111, Char.ofNat 115, Char.ofNat 115, Char.ofNat 101, Char.ofNat 114, Char.ofNat 108, Char.ofNat 97, Char.ofNat 119, Char.ofNat 49, Char.ofNat 55, Char.ofNat 46, Char.ofNat 86, Char.ofNat 97, Char.ofNat 117, Char.ofNat 108, Char.ofNat 116, Char.ofNat 87, Char.ofNat 114, Char.ofNat 97, Char.ofNat 112, Char.ofNat 115],
  [Char.ofNat 101, Char.ofNat 110, Char.ofNat 103, Char.ofNat 114, Char.ofNat 111, Char.ofNat 115, Char.ofNat 115, Char.ofNat 101, Char.ofNat 114, Char.ofNat 47, Char.ofNat 101, Char.ofNat 110, Char.ofNat 103, Char.ofNat 114, Char.ofNat 111, Char.ofNat 115, Char.ofNat 115, Char.ofNat 101, Char.ofNat 114, Char.ofNat 108, Char.ofNat 97, Char.ofNat 119, Char.ofNat 49, Char.ofNat 55, Char.ofNat 46, Char.ofNat 86, Char.ofNat 97, Char.ofNat 117, Char.ofNat 108, Char.ofNat 116, Char.ofNat 85, Char.ofNat 110, Char.ofNat 119, Char.ofNat 114, Char.ofNat 97, Char.ofNat 112, Char.ofNat 115],
  [Char.ofNat 101, Char.ofNat 110, Char.ofNat 103, Char.ofNat 114, Char.ofNat 111, Char.ofNat 115, Char.ofNat 115, Char.ofNat 101, Char.ofNat 114, Char.ofNat 47, Char.ofNat 101, Char.ofNat 110, Char.ofNat 103, Char.ofNat 114, Char.ofNat 111, Char.ofNat 115, Char.ofNat 115, Char.ofNat 101, Char.ofNat 114, Char.ofNat 108, Char.ofNat 97, Char.ofNat 119, Char.ofNat 49, Char.ofNat 55, Char.ofNat 46, Char.ofNat 86, Char.ofNat 97, Char.ofNat 117, Char.ofNat 108, Char.ofNat 116, Char.ofNat 67, Char.ofNat 111, Char.ofNat 110, Char.ofNat 116, Char.ofNat 101, Char.ofNat 120, Char.ofNat 116, Char.ofNat 115],
  [Char.ofNat 101, Char.ofNat 110, Char.ofNat 103, Char.ofNat 114, Char.ofNat 111, Char.ofNat 115, Char.ofNat 115, Char.ofNat 101, Char.ofNat 114, Char.ofNat 47, Char.ofNat 101, Char.ofNat 110, Char.ofNat 103, Char.ofNat 114, Char.ofNat 111, Char.ofNat 115, Char.ofNat 115, Char.ofNat 101, Char.ofNat 114, Char.ofNat 108, Char.ofNat 97, Char.ofNat 119, Char.ofNat 48, Char.ofNat 56, Char.ofNat 46, Char.ofNat 72, Char.ofNat 112, Char.ofNat 107, Char.ofNat 101, Char.ofNat 83, Char.ofNat 101, Char.ofNat 97, Char.ofNat 108, Char.ofNat 115],
  [Char.ofNat 101, Char.ofNat 110, Char.ofNat 103, Char.ofNat 114, Char.ofNat 111, Char.ofNat 115, Char.ofNat 115, Char.ofNat 101, Char.ofNat 114, Char.ofNat 47, Char.ofNat 101, Char.ofNat 110, Char.ofNat 103, Char.ofNat 114, Char.ofNat 111, Char.ofNat 115, Char.ofNat 115, Char.ofNat 101, Char.ofNat 114, Char.ofNat 108, Char.ofNat 97, Char.ofNat 119, Char.ofNat 48, Char.ofNat 56, Char.ofNat 46, Char.ofNat 72, Char.ofNat 112, Char.ofNat 107, Char.ofNat 101, Char.ofNat 79, Char.ofNat 112, Char.ofNat 101, Char.ofNat 110, Char.ofNat 115],
  [Char.ofNat 101, Char.ofNat 110, Char.ofNat 103, Char.ofNat 114, Char.ofNat 111, Char.ofNat 115, Char.ofNat 115, Char.ofNat 101, Char.ofNat 114, Char.ofNat 47, Char.ofNat 101, Char.ofNat 110, Char.ofNat 103, Char.ofNat 114, Char.ofNat 111, Char.ofNat 115, Char.ofNat 115, Char.ofNat 101, Char.ofNat 114, Char.ofNat 108, Char.ofNat 97, Char.ofNat 119, Char.ofNat 48, Char.ofNat 56, Char.ofNat 46, Char.ofNat 72, Char.ofNat 112, Char.ofNat 107, Char.ofNat 101, Char.ofNat 66, Char.ofNat 97, Char.ofNat 99, Char.ofNat 107],
  [Char.ofNat 101, Char.ofNat 110, Char.ofNat 103, Char.ofNat 114, Char.ofNat 111, Char.ofNat 115, Char.ofNat 115, Char.ofNat 101, Char.ofNat 114, Char.ofNat 47, Char.ofNat 101, Char.ofNat 110, Char.ofNat 103, Char.ofNat 114, Char.ofNat 111, Char.ofNat 115, Char.ofNat 115, Char.ofNat 101, Char.ofNat 114, Char.ofNat 108, Char.ofNat 97, Char.ofNat 119, Char.ofNat 48, Char.ofNat 56, Char.ofNat 46, Char.ofNat 72, Char.ofNat 112, Char.ofNat 107, Char.ofNat 101, Char.ofNat 82, Char.ofNat 101, Char.ofNat 97, Char.ofNat 100, Char.ofNat 115]]
theorem initS : Tryd.prog.initOrder = String.ofList signs := by kernel_rfl
theorem words : wordsSigns Tryd.prog.initOrder.toList = headWords := by
  rw [initS, String.toList_ofList]
  kernel_rfl
theorem both {a b : Bool} (h : a = true) (k : b = true) : (a && b) = true := by rw [h, k]; rfl
theorem same_of {a b : Bool} (h : b = a) : (a == b) = true := by rw [h]; cases a <;> rfl
theorem make_of {a b : Option Make} (h : a = b) : (a == b) = true := by rw [h]; exact beq_self_eq_true _
theorem strip_cut (r : List (List Char)) : stripLifts liftWords ("cut".toList :: r) = ([], "cut".toList :: r) := by kernel_rfl
theorem lifts_cut {P : Program} {r} (h : behindMainWord (wordsSigns P.initOrder.toList) = "cut".toList :: r) : P.headLifts = [] := by
  unfold Program.headLifts
  rw [h, strip_cut]
  kernel_rfl
theorem make_cut {P : Program} {r} (h : behindMainWord (wordsSigns P.initOrder.toList) = "cut".toList :: r) : P.make = some .cut := by
  unfold Program.make
  rw [h, lifts_cut h]
  kernel_rfl
theorem final_cut {P : Program} {r} (h : behindMainWord (wordsSigns P.initOrder.toList) = "cut".toList :: r) : P.liftsFinal = false := by
  unfold Program.liftsFinal
  rw [h, lifts_cut h]
  kernel_rfl
theorem main_har {P : Program} {s r} (h : wordsSigns P.initOrder.toList = "harness".toList :: s :: r) (hs : isSumSigns s = true) : P.mainIs = some (true, s) := by
  unfold Program.mainIs
  rw [h]
  dsimp only
  rw [hs]
  kernel_rfl
theorem may_cut {P : Program} {r} (h : behindMainWord (wordsSigns P.initOrder.toList) = "cut".toList :: r) (hl : P.laysLater = false) (hr : P.bearsReflect = false) (hd : P.doorFits [] = true) : P.mayEnter = true := by
  unfold Program.mayEnter
  rw [h, hl, hr]
  dsimp only
  rw [strip_cut]
  dsimp only
  rw [hd]
  kernel_rfl
theorem behind : behindMainWord (wordsSigns Tryd.prog.initOrder.toList) = "cut".toList :: headWords.drop 3 := (congrArg behindMainWord words).trans (by kernel_rfl)
theorem headMake : Tryd.prog.make = some .cut := make_cut behind
theorem headMain : Tryd.prog.mainIs = some (true, "4cd6ef0ec7a88d19fd7ad53a31dc0230b83fb27ded2758d110cdf5b926694db9".toList) := main_har (r := headWords.drop 2) (words.trans (by kernel_rfl)) (by kernel_rfl)
theorem headMay : Tryd.prog.mayEnter = true := may_cut behind (by kernel_rfl) (by kernel_rfl) (by kernel_rfl)
theorem headFin : Tryd.prog.liftsFinal = false := final_cut behind
end Go.Proofs.YtooeklnbdgoneaaDoor


