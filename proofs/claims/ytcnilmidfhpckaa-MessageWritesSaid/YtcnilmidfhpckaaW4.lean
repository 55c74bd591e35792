/- Contracts of the program's functions, each walked once; the conditions stand in each theorem. -/
import Derived.Test.YtcnilmidfhpckaaAMp6
import Derived.Test.YtcnilmidfhpckaaW3
import Derived.Test.YtcnilmidfhpckaaW2
set_option linter.unusedSimpArgs false
set_option linter.unusedVariables false
open Nat renaming reduceLT → nLT, reduceLeDiff → nLE, reduceEqDiff → nEQ, reduceAdd → nAdd, reduceMul → nMul, reducePow → nPow, reduceSub → nSub
open Int renaming reduceLT → zLT, reduceLE → zLE, reduceToNat → zNat
open Go.AM renaming ashift → qSh, aconv → qCv, aindexAddr → qIA, aindex → qIx, aslice → qSl, abuiltin → qBu
open Go.AM.AV renaming cells → qCe, one → qOn
set_option autoImplicit false
namespace Go.Proofs.Ytcnilmidfhpckaa
open Go Go.AM Go.Proofs

theorem RMsg5103 : type_of% (And.intro (And.intro (And.intro (And.intro (And.intro (And.intro @Try.underlying3 (And.intro T.c3 T.g3)) (And.intro (And.intro T.b3 T.z3) (And.intro @Try.underlying4 T.c4))) (And.intro (And.intro T.g4 (And.intro T.b4 T.z4)) (And.intro (And.intro @Try.underlying5 T.c5) (And.intro T.g5 T.b5)))) (And.intro (And.intro (And.intro T.z5 (And.intro @Try.underlying28 T.c28)) (And.intro (And.intro T.g28 T.b28) (And.intro T.z28 T.s28))) (And.intro (And.intro @Try.underlying32 (And.intro T.c32 T.g32)) (And.intro (And.intro T.b32 T.z32) (And.intro @Try.underlying42 T.c42))))) (And.intro (And.intro (And.intro (And.intro T.g42 (And.intro T.b42 T.z42)) (And.intro (And.intro @Try.underlying85 T.c85) (And.intro T.g85 T.b85))) (And.intro (And.intro T.z85 (And.intro T.h85 @Try.underlying98)) (And.intro (And.intro T.c98 T.g98) (And.intro T.b98 T.z98)))) (And.intro (And.intro (And.intro T.p98 (And.intro @Try.underlying145 T.c145)) (And.intro (And.intro T.g145 T.b145) (And.intro T.z145 T.h145))) (And.intro (And.intro T.f85_0 (And.intro T.f85_1 T.k110)) (And.intro (And.intro T.k99 T.k57) (And.intro T.k59 T.k62)))))) Try.ntmps103) :=
  (And.intro (And.intro (And.intro (And.intro (And.intro (And.intro @Try.underlying3 (And.intro T.c3 T.g3)) (And.intro (And.intro T.b3 T.z3) (And.intro @Try.underlying4 T.c4))) (And.intro (And.intro T.g4 (And.intro T.b4 T.z4)) (And.intro (And.intro @Try.underlying5 T.c5) (And.intro T.g5 T.b5)))) (And.intro (And.intro (And.intro T.z5 (And.intro @Try.underlying28 T.c28)) (And.intro (And.intro T.g28 T.b28) (And.intro T.z28 T.s28))) (And.intro (And.intro @Try.underlying32 (And.intro T.c32 T.g32)) (And.intro (And.intro T.b32 T.z32) (And.intro @Try.underlying42 T.c42))))) (And.intro (And.intro (And.intro (And.intro T.g42 (And.intro T.b42 T.z42)) (And.intro (And.intro @Try.underlying85 T.c85) (And.intro T.g85 T.b85))) (And.intro (And.intro T.z85 (And.intro T.h85 @Try.underlying98)) (And.intro (And.intro T.c98 T.g98) (And.intro T.b98 T.z98)))) (And.intro (And.intro (And.intro T.p98 (And.intro @Try.underlying145 T.c145)) (And.intro (And.intro T.g145 T.b145) (And.intro T.z145 T.h145))) (And.intro (And.intro T.f85_0 (And.intro T.f85_1 T.k110)) (And.intro (And.intro T.k99 T.k57) (And.intro T.k59 T.k62)))))) Try.ntmps103)
theorem RMsg598 : type_of% (And.intro (And.intro (And.intro (And.intro (And.intro (And.intro @Try.underlying4 T.c4) (And.intro T.g4 (And.intro T.b4 T.z4))) (And.intro (And.intro @Try.underlying5 T.c5) (And.intro T.g5 (And.intro T.b5 T.z5)))) (And.intro (And.intro (And.intro @Try.underlying28 T.c28) (And.intro T.g28 (And.intro T.b28 T.z28))) (And.intro (And.intro T.s28 (And.intro @Try.underlying42 T.c42)) (And.intro T.g42 (And.intro T.b42 T.z42))))) (And.intro (And.intro (And.intro (And.intro @Try.underlying85 T.c85) (And.intro T.g85 (And.intro T.b85 T.z85))) (And.intro (And.intro T.h85 (And.intro @Try.underlying86 T.c86)) (And.intro T.g86 (And.intro T.b86 T.z86)))) (And.intro (And.intro (And.intro T.p86 @Try.underlying137) (And.intro T.c137 (And.intro T.g137 T.b137))) (And.intro (And.intro T.z137 (And.intro T.h137 T.f85_0)) (And.intro T.f85_1 (And.intro T.k111 T.k44)))))) Try.ntmps98) :=
  (And.intro (And.intro (And.intro (And.intro (And.intro (And.intro @Try.underlying4 T.c4) (And.intro T.g4 (And.intro T.b4 T.z4))) (And.intro (And.intro @Try.underlying5 T.c5) (And.intro T.g5 (And.intro T.b5 T.z5)))) (And.intro (And.intro (And.intro @Try.underlying28 T.c28) (And.intro T.g28 (And.intro T.b28 T.z28))) (And.intro (And.intro T.s28 (And.intro @Try.underlying42 T.c42)) (And.intro T.g42 (And.intro T.b42 T.z42))))) (And.intro (And.intro (And.intro (And.intro @Try.underlying85 T.c85) (And.intro T.g85 (And.intro T.b85 T.z85))) (And.intro (And.intro T.h85 (And.intro @Try.underlying86 T.c86)) (And.intro T.g86 (And.intro T.b86 T.z86)))) (And.intro (And.intro (And.intro T.p86 @Try.underlying137) (And.intro T.c137 (And.intro T.g137 T.b137))) (And.intro (And.intro T.z137 (And.intro T.h137 T.f85_0)) (And.intro T.f85_1 (And.intro T.k111 T.k44)))))) Try.ntmps98)
theorem RMsg5104 : type_of% (And.intro (And.intro (And.intro (And.intro (And.intro @Try.underlying3 (And.intro T.c3 T.g3)) (And.intro T.b3 (And.intro T.z3 @Try.underlying9))) (And.intro (And.intro T.c9 (And.intro T.g9 T.b9)) (And.intro T.z9 (And.intro @Try.underlying42 T.c42)))) (And.intro (And.intro (And.intro T.g42 (And.intro T.b42 T.z42)) (And.intro @Try.underlying150 (And.intro T.c150 T.g150))) (And.intro (And.intro T.b150 (And.intro T.z150 T.h150)) (And.intro (And.intro T.f150_0 T.f150_1) (And.intro T.k67 T.k65))))) Try.ntmps104) :=
  (And.intro (And.intro (And.intro (And.intro (And.intro @Try.underlying3 (And.intro T.c3 T.g3)) (And.intro T.b3 (And.intro T.z3 @Try.underlying9))) (And.intro (And.intro T.c9 (And.intro T.g9 T.b9)) (And.intro T.z9 (And.intro @Try.underlying42 T.c42)))) (And.intro (And.intro (And.intro T.g42 (And.intro T.b42 T.z42)) (And.intro @Try.underlying150 (And.intro T.c150 T.g150))) (And.intro (And.intro T.b150 (And.intro T.z150 T.h150)) (And.intro (And.intro T.f150_0 T.f150_1) (And.intro T.k67 T.k65))))) Try.ntmps104)

variable {Γ : Nat → List AV}

abbrev pubOk (n : Nat) : Prop := Pub n
theorem pub_test {n : Nat} (h : pubOk n) : (decide (2 ≤ (n : Int)) && decide ((n : Int) ≤ 2305843009213693949)) = true := by rw [pub_bool]; exact decide_eq_true h
theorem pub_testF {n : Nat} (h : ¬ pubOk n) : (decide (2 ≤ (n : Int)) && decide ((n : Int) ≤ 2305843009213693949)) = false := by rw [pub_bool]; exact decide_eq_false h

/-- What is read: the sender's number and what is sealed. -/
def hFail (a : Nat) (st : EyeSt) : EyeSt := if pubOk a then st else (st.1, if st.2 = 0 then 30 else st.2)
def hRaw (most : Int) (st : EyeSt) : (Nat × List UInt8) × EyeSt :=
  let a := eyeNum 8 st
  let b := eyeText 2 most (hFail a.1 a.2)
  ((a.1, b.1), b.2)
def hRead (most : Int) (st : EyeSt) : (Nat × List UInt8) × EyeSt :=
  let q := hRaw most st
  (if q.2.2 = 0 then q.1 else (0, []), q.2)
theorem hFail_len (a : Nat) (st : EyeSt) : (hFail a st).1 = st.1 := by unfold hFail; split <;> rfl
theorem some_neH {s : AS} {p o : Nat} {cs : List AV} (h : s.objs p = some cs) (k : s.objs o = none) : p ≠ o := by
  rintro rfl
  rw [h] at k
  cases k
set_option maxRecDepth 100000 in
set_option maxHeartbeats 4000000 in
theorem hRead_calls (s : AS) (p : Nat) (st : EyeSt) (most : Int) (hl : st.1.length ≤ 2 ^ 44) (h : s.objs p = some (eyeC st)) :
    ACalls Try.prog Γ 103 [.ptr p 0, .v (.int .i64 most)] s (fun r s' => r = .agg [.v (.int .u64 (hRead most st).1.1), bytesV (hRead most st).1.2 .any] ∧ s' = s.set p (eyeC (hRead most st).2)) := by
  refine acalls_body Try.func103 rfl Try.ntmps103 Try.results103 (by simp) ?_
  obtain ⟨q1, e1⟩ : ∃ q, q = eyeNum 8 st := ⟨_, rfl⟩
  obtain ⟨q2, e2⟩ : ∃ q, q = hFail q1.1 q1.2 := ⟨_, rfl⟩
  obtain ⟨q3, e3⟩ : ∃ q, q = eyeText 2 most q2 := ⟨_, rfl⟩
  have l1 : q1.2.1.length ≤ 2 ^ 44 := by rw [e1]; exact Nat.le_trans (eyeNum_len _ _) hl
  have l2 : q2.1.length ≤ 2 ^ 44 := by rw [e2, hFail_len]; exact l1
  have hrr : hRead most st = (if q3.2.2 = 0 then (q1.1, q3.1) else (0, []), q3.2) := by subst e3 e2 e1; rfl
  refine awp_reg_seq ?_
  intro K hK
  simp only [↓DN, UP, DF, qSh, qCv, qIA, qIx, qSl, qBu, qCe, qOn, reduceCtorEq, ↓reduceIte, nLT, nLE, nEQ, nAdd, nMul, nPow, nSub, zLT, zLE, zNat, RMsg5103]
  intro o2 ho2
  have hp2 := some_neH h ho2
  refine hK _ _ ?_
  clear hK K
  refine awp_seq_k ?_
  intro K1 hK1
  obtain ⟨z, hz⟩ : ∃ z : List AV, z = [.v (.int .u64 0), .v (.slice none 0 0)] := ⟨_, rfl⟩
  have h1 : ∀ (E : Env) (s1 : AS) (o3 : Nat), E 0 = .ptr p 0 → E 1 = .v (.int .i64 most) → E 4 = .ptr o2 0 → E 5 = .ptr o3 0 → RdS s s1 p o2 o3 (eyeC q1.2) z [.v (.int .u64 q1.1), .v (.slice none 0 0)] → K1 E s1 := by
    intro E s1 o3 g0 gm g2 g3 J
    refine hK1 _ _ ?_
    clear hK1 K1
    refine awp_seq_k ?_
    intro K2 hK2
    have h2 : ∀ (E : Env) (s1 : AS), E 0 = .ptr p 0 → E 1 = .v (.int .i64 most) → E 4 = .ptr o2 0 → E 5 = .ptr o3 0 → RdS s s1 p o2 o3 (eyeC q2) z [.v (.int .u64 q1.1), .v (.slice none 0 0)] → K2 E s1 := by
      clear J g0 gm g2 g3 E s1
      intro E s1 g0 gm g2 g3 J
      refine hK2 _ _ ?_
      clear hK2 K2
      have jv := J.var
      have jp := J.p3
      have jp2 := J.p3.symm
      refine awp_reg_seq ?_
      intro K hK
      simp only [↓DN, UP, DF, qSh, qCv, qIA, qIx, qSl, qBu, qCe, qOn, reduceCtorEq, ↓reduceIte, nLT, nLE, nEQ, nAdd, nMul, nPow, nSub, zLT, zLE, zNat, RMsg5103, g0, gm]
      refine acallk (eyeLong_set _ p _ most (by omega) J.eye) ?_
      rintro r s2 ⟨rfl, rfl⟩
      rw [← e3]
      have J3 := (J.setEye (eyeC q3.2)).setVar [.v (.int .u64 q1.1), .sl 1 q3.1.length (q3.1.map byteV) .any]
      simp only [↓AXq_nil, ↓AXq_cons, pval, DX, Nat.reduceBEq, ↓DN, UP, DF, qSh, qCv, qIA, qIx, qSl, qBu, qCe, qOn, reduceCtorEq, ↓reduceIte, nLT, nLE, nEQ, nAdd, nMul, nPow, nSub, zLT, zLE, zNat, RMsg5103, g3, jv, jp, jp2]
      refine hK _ _ ?_
      clear hK K
      clear J jv
      generalize (s1.set p (eyeC q3.2)).set o3 [.v (.int .u64 q1.1), .sl 1 q3.1.length (q3.1.map byteV) .any] = s2 at *
      have jv := J3.var
      have jr := J3.res
      have jd := J3.d
      have jd2 := J3.d.symm
      rw [hz] at jr
      refine awp_seq_k ?_
      intro K3 hK3
      have hend : ∀ (v : AV) (cs : List AV) (s4 : AS) (E : Env), True := fun _ _ _ _ => trivial
      clear hend
      refine awp_reg_seq ?_
      intro K hK
      simp only [↓DN, UP, DF, qSh, qCv, qIA, qIx, qSl, qBu, qCe, qOn, reduceCtorEq, ↓reduceIte, nLT, nLE, nEQ, nAdd, nMul, nPow, nSub, zLT, zLE, zNat, RMsg5103, g0]
      refine acallk (eyeErr_at _ p _ J3.eye) ?_
      rintro r s4 ⟨rfl, rfl⟩
      by_cases he : q3.2.2 = 0
      · rw [he]
        simp only [↓AXq_nil, ↓AXq_cons, pval, DX, Nat.reduceBEq, ↓DN, UP, DF, qSh, qCv, qIA, qIx, qSl, qBu, qCe, qOn, reduceCtorEq, ↓reduceIte, nLT, nLE, nEQ, nAdd, nMul, nPow, nSub, zLT, zLE, zNat, RMsg5103, i64_ne_false 0 rfl]
        refine hK _ _ ?_
        clear hK K
        refine awp_cond_k ?_
        intro X Y hX hY
        simp only [↓DN, UP, DF, qSh, qCv, qIA, qIx, qSl, qBu, qCe, qOn, reduceCtorEq, ↓reduceIte, nLT, nLE, nEQ, nAdd, nMul, nPow, nSub, zLT, zLE, zNat, RMsg5103, DB]
        refine hY ?_
        clear hX hY X Y
        refine awp_skip ?_
        refine hK3 _ _ ?_
        clear hK3 K3
        refine awp_reg_seq ?_
        intro K hK
        simp only [↓DN, UP, DF, qSh, qCv, qIA, qIx, qSl, qBu, qCe, qOn, reduceCtorEq, ↓reduceIte, nLT, nLE, nEQ, nAdd, nMul, nPow, nSub, zLT, zLE, zNat, RMsg5103, g3, g2, jv, jr, jd, jd2]
        refine hK _ _ ?_
        clear hK K
        refine awp_ret ?_
        refine aends_cell (o := o2) (off := 0) (by simp only [upd, g2, nEQ, ↓reduceIte]) (AS.set_objs_same _ _ _) (by rw [T.c85]; decide) (by simp only [↓DN, UP, DF, qSh, qCv, qIA, qIx, qSl, qBu, qCe, qOn, reduceCtorEq, ↓reduceIte, nLT, nLE, nEQ, nAdd, nMul, nPow, nSub, zLT, zLE, zNat, RMsg5103]; rfl) ?_
        rw [hrr, if_pos he]
        exact ⟨_, _, AV.weak.refl _, (J3.setRes _).out, rfl, rfl⟩
      · simp only [↓AXq_nil, ↓AXq_cons, pval, DX, Nat.reduceBEq, ↓DN, UP, DF, qSh, qCv, qIA, qIx, qSl, qBu, qCe, qOn, reduceCtorEq, ↓reduceIte, nLT, nLE, nEQ, nAdd, nMul, nPow, nSub, zLT, zLE, zNat, RMsg5103, i64_ne_true _ he]
        refine hK _ _ ?_
        clear hK K
        refine awp_cond_k ?_
        intro X Y hX hY
        simp only [↓DN, UP, DF, qSh, qCv, qIA, qIx, qSl, qBu, qCe, qOn, reduceCtorEq, ↓reduceIte, nLT, nLE, nEQ, nAdd, nMul, nPow, nSub, zLT, zLE, zNat, RMsg5103, DB]
        refine hX ?_
        clear hX hY X Y
        refine awp_reg_seq ?_
        intro K hK
        simp only [↓DN, UP, DF, qSh, qCv, qIA, qIx, qSl, qBu, qCe, qOn, reduceCtorEq, ↓reduceIte, nLT, nLE, nEQ, nAdd, nMul, nPow, nSub, zLT, zLE, zNat, RMsg5103, g3, g2, jv, jr, jd, jd2]
        refine hK _ _ ?_
        clear hK K
        refine awp_ret ?_
        try simp only [thenQ, blockQ]
        refine aends_cell (o := o2) (off := 0) (by simp only [upd, g2, nEQ, ↓reduceIte]) (AS.set_objs_same _ _ _) (by rw [T.c85]; decide) (by simp only [↓DN, UP, DF, qSh, qCv, qIA, qIx, qSl, qBu, qCe, qOn, reduceCtorEq, ↓reduceIte, nLT, nLE, nEQ, nAdd, nMul, nPow, nSub, zLT, zLE, zNat, RMsg5103]; rfl) ?_
        rw [hrr, if_neg he]
        exact ⟨_, _, AV.weak_agg (AVs.weak.cons (AV.weak.refl _) (AVs.weak.cons AV.weak_nil AVs.weak.nil)), (J3.setRes _).out, rfl, rfl⟩
    clear hK2
    have jv := J.var
    have jp := J.p3
    have jp2 := J.p3.symm
    refine awp_reg_seq ?_
    intro K hK
    simp only [↓DN, UP, DF, qSh, qCv, qIA, qIx, qSl, qBu, qCe, qOn, reduceCtorEq, ↓reduceIte, nLT, nLE, nEQ, nAdd, nMul, nPow, nSub, zLT, zLE, zNat, RMsg5103, g3, jv]
    refine acallk (powerRight_calls q1.1 _) ?_
    rintro r s2 ⟨rfl, rfl⟩
    by_cases hr : pubOk q1.1
    · rw [pub_test hr]
      simp only [↓AXq_nil, ↓AXq_cons, pval, DX, Nat.reduceBEq, ↓DN, UP, DF, qSh, qCv, qIA, qIx, qSl, qBu, qCe, qOn, reduceCtorEq, ↓reduceIte, nLT, nLE, nEQ, nAdd, nMul, nPow, nSub, zLT, zLE, zNat, RMsg5103]
      refine hK _ _ ?_
      clear hK K
      refine awp_cond_k ?_
      intro X Y hX hY
      simp only [↓DN, UP, DF, qSh, qCv, qIA, qIx, qSl, qBu, qCe, qOn, reduceCtorEq, ↓reduceIte, nLT, nLE, nEQ, nAdd, nMul, nPow, nSub, zLT, zLE, zNat, RMsg5103, DB]
      refine hY ?_
      clear hX hY X Y
      refine awp_skip ?_
      have hq : q2 = q1.2 := by rw [e2]; exact if_pos hr
      rw [hq] at h2
      exact h2 _ _ (by simp only [upd, g0, nEQ, ↓reduceIte]) (by simp only [upd, gm, nEQ, ↓reduceIte]) (by simp only [upd, g2, nEQ, ↓reduceIte]) (by simp only [upd, g3, nEQ, ↓reduceIte]) J
    · rw [pub_testF hr]
      simp only [↓AXq_nil, ↓AXq_cons, pval, DX, Nat.reduceBEq, ↓DN, UP, DF, qSh, qCv, qIA, qIx, qSl, qBu, qCe, qOn, reduceCtorEq, ↓reduceIte, nLT, nLE, nEQ, nAdd, nMul, nPow, nSub, zLT, zLE, zNat, RMsg5103]
      refine hK _ _ ?_
      clear hK K
      refine awp_cond_k ?_
      intro X Y hX hY
      simp only [↓DN, UP, DF, qSh, qCv, qIA, qIx, qSl, qBu, qCe, qOn, reduceCtorEq, ↓reduceIte, nLT, nLE, nEQ, nAdd, nMul, nPow, nSub, zLT, zLE, zNat, RMsg5103, DB]
      refine hX ?_
      clear hX hY X Y
      refine awp_reg_end ?_
      intro K hK
      simp only [↓DN, UP, DF, qSh, qCv, qIA, qIx, qSl, qBu, qCe, qOn, reduceCtorEq, ↓reduceIte, nLT, nLE, nEQ, nAdd, nMul, nPow, nSub, zLT, zLE, zNat, RMsg5103, g0]
      refine acallk (eyeFail_set _ p _ 30 J.eye) ?_
      rintro r s3 ⟨rfl, rfl⟩
      simp only [↓AXq_nil, ↓AXq_cons, pval, DX, Nat.reduceBEq, ↓DN, UP, DF, qSh, qCv, qIA, qIx, qSl, qBu, qCe, qOn, reduceCtorEq, ↓reduceIte, nLT, nLE, nEQ, nAdd, nMul, nPow, nSub, zLT, zLE, zNat, RMsg5103]
      refine hK _ _ ?_
      have hq : q2 = (q1.2.1, if q1.2.2 = 0 then 30 else q1.2.2) := by rw [e2]; exact if_neg hr
      rw [hq] at h2
      exact h2 _ _ (by simp only [upd, g0, nEQ, ↓reduceIte]) (by simp only [upd, gm, nEQ, ↓reduceIte]) (by simp only [upd, g2, nEQ, ↓reduceIte]) (by simp only [upd, g3, nEQ, ↓reduceIte]) (J.setEye _)
  clear hK1
  refine awp_reg_end ?_
  intro K hK
  simp only [↓DN, UP, DF, qSh, qCv, qIA, qIx, qSl, qBu, qCe, qOn, reduceCtorEq, ↓reduceIte, nLT, nLE, nEQ, nAdd, nMul, nPow, nSub, zLT, zLE, zNat, RMsg5103]
  refine acallk (eyeU64_set _ p st (by rw [AS.set_objs_ne _ hp2]; exact h)) ?_
  rintro r s1 ⟨rfl, rfl⟩
  rw [← e1]
  simp only [↓AXq_nil, ↓AXq_cons, pval, DX, Nat.reduceBEq, ↓DN, UP, DF, qSh, qCv, qIA, qIx, qSl, qBu, qCe, qOn, reduceCtorEq, ↓reduceIte, nLT, nLE, nEQ, nAdd, nMul, nPow, nSub, zLT, zLE, zNat, RMsg5103]
  intro o3 ho3
  have hp3 : o3 ≠ p := by
    rintro rfl
    simp at ho3
  have h32 : o3 ≠ o2 := by
    rintro rfl
    simp [hp2.symm] at ho3
  have ho30 : s.objs o3 = none := by simpa [hp3, h32] using ho3
  refine hK _ _ (h1 _ _ o3 (by simp only [upd, initE, nEQ, ↓reduceIte, List.getD_cons_zero]) (by simp only [upd, initE, nEQ, ↓reduceIte, List.getD_cons_zero, List.getD_cons_succ]) (by simp only [upd, nEQ, ↓reduceIte]) (by simp only [upd, nEQ, ↓reduceIte]) ?_)
  refine ⟨AS.le_set (AS.le_set (AS.le_set (AS.drop_le s p) (AS.drop_objs_none ho2) _) (AS.drop_self _ _) _) (AS.drop_objs_none ho30) _, ?_, ?_, AS.set_objs_same _ _ _, ho2, ho30, hp2, hp3.symm, h32.symm⟩
  · rw [AS.set_objs_ne _ hp3.symm, AS.set_objs_same]
  · rw [AS.set_objs_ne _ h32.symm, AS.set_objs_ne _ hp2.symm, AS.set_objs_same, hz]

set_option maxHeartbeats 400000 in
theorem hWrite_calls (s0 s : AS) (p : Nat) (st : List UInt8 × Bool) (f : Nat) (t : List UInt8) (hf : f < 2 ^ 64) (hl : st.1.length + t.length + 20 ≤ 2 ^ 45) (h : PenS s0 s p st) :
    ACalls Try.prog Γ 98 [.ptr p 0, .agg [.v (.int .u64 f), bytesV t .any]] s (fun r s' => r = .tup [] ∧ PenS s0 s' p (penText 2 t (penNum 8 f st))) := by
  refine acalls_body Try.func98 rfl Try.ntmps98 Try.results98 (by simp) ?_
  refine awp_reg_frz 3 (by simp [dsts]) ?_
  intro K hK
  simp only [↓AXq_nil, ↓AXq_cons, pval, DX, Nat.reduceBEq, ↓DN, UP, DF, qSh, qCv, qIA, qIx, qSl, qBu, qCe, qOn, reduceCtorEq, ↓reduceIte, nLT, nLE, nEQ, nAdd, nMul, nPow, nSub, zLT, zLE, zNat, RMsg598]
  intro o ho
  refine hK _ _ o _ (by simp only [upd, nEQ, ↓reduceIte]) ho ?_
  clear hK K ho
  refine awp_reg_seq ?_
  intro K hK
  simp only [↓DN, UP, DF, qSh, qCv, qIA, qIx, qSl, qBu, qCe, qOn, reduceCtorEq, ↓reduceIte, nLT, nLE, nEQ, nAdd, nMul, nPow, nSub, zLT, zLE, zNat, RMsg598]
  refine acallk (penU64_calls s0 s p st f hf (by omega) h) ?_
  rintro r s1 ⟨rfl, h1⟩
  simp only [↓AXq_nil, ↓AXq_cons, pval, DX, Nat.reduceBEq, ↓DN, UP, DF, qSh, qCv, qIA, qIx, qSl, qBu, qCe, qOn, reduceCtorEq, ↓reduceIte, nLT, nLE, nEQ, nAdd, nMul, nPow, nSub, zLT, zLE, zNat, RMsg598]
  refine hK _ _ ?_
  clear hK K
  have hl2 : (penNum 8 f st).1.length ≤ st.1.length + 8 := by
    rw [penNum_raw]; unfold penRaw; split <;> simp
  refine awp_reg_end ?_
  intro K hK
  simp only [↓DN, UP, DF, qSh, qCv, qIA, qIx, qSl, qBu, qCe, qOn, reduceCtorEq, ↓reduceIte, nLT, nLE, nEQ, nAdd, nMul, nPow, nSub, zLT, zLE, zNat, RMsg598]
  refine acallk (penLong_calls s0 s1 p _ _ t (IsB.any t) (by omega) h1) ?_
  rintro r s2 ⟨rfl, h2⟩
  simp only [↓AXq_nil, ↓AXq_cons, pval, DX, Nat.reduceBEq, ↓DN, UP, DF, qSh, qCv, qIA, qIx, qSl, qBu, qCe, qOn, reduceCtorEq, ↓reduceIte, nLT, nLE, nEQ, nAdd, nMul, nPow, nSub, zLT, zLE, zNat, RMsg598]
  refine hK _ _ ?_
  clear hK K
  simp only [retQ, AEnds, aresL, ares, List.toList_toArray, ↓upd_same]; try simp only [↓DN, UP, DF, qSh, qCv, qIA, qIx, qSl, qBu, qCe, qOn, reduceCtorEq, ↓reduceIte, nLT, nLE, nEQ, nAdd, nMul, nPow, nSub, zLT, zLE, zNat, RMsg598, DT]
  exact ⟨_, _, AV.weak.refl _, AS.le.refl _, rfl, h2⟩

def hText (f : Nat) (t : List UInt8) : List UInt8 := be 8 f ++ (be 2 t.length ++ t)
set_option maxHeartbeats 400000 in
theorem refHWrite_calls (f : Nat) (t : List UInt8) (hf : f < 2 ^ 64) (ht : t.length ≤ 1000) (s : AS) :
    ACalls Try.prog Γ 104 [.agg [.v (.int .u64 f), .v (.string ⟨t.toArray⟩)]] s (fun r s' => r = .v (.string ⟨(hText f t).toArray⟩) ∧ s' = s) := by
  refine acalls_body Try.func104 rfl Try.ntmps104 Try.results104 (by simp) ?_
  refine awp_reg_frz 1 (by simp [dsts]) ?_
  intro K hK
  simp only [↓AXq_nil, ↓AXq_cons, pval, DX, Nat.reduceBEq, ↓DN, UP, DF, qSh, qCv, qIA, qIx, qSl, qBu, qCe, qOn, reduceCtorEq, ↓reduceIte, nLT, nLE, nEQ, nAdd, nMul, nPow, nSub, zLT, zLE, zNat, RMsg5104]
  intro o ho
  refine hK _ _ o _ (by simp only [upd, nEQ, ↓reduceIte]) ho ?_
  clear hK K ho
  have hx : (be 8 f).length + (be 2 t.length ++ t).length < 2 ^ 62 := by simp; omega
  have hh : hText f t = be 8 f ++ (be 2 t.length ++ t) := rfl
  have h2 := fun s => refText_calls (Γ := Γ) t 2 (by omega) (by decide) s
  generalize be 2 t.length ++ t = u at *
  refine awp_drw_seq T.mixed [2, 5] (by kernel_rfl) ?_
  intro K hK
  simp only [↓AXq_nil, ↓AXq_cons, pval, DX, Nat.reduceBEq, ↓DN, UP, DF, qSh, qCv, qIA, qIx, qSl, qBu, qCe, qOn, reduceCtorEq, ↓reduceIte, nLT, nLE, nEQ, nAdd, nMul, nPow, nSub, zLT, zLE, zNat, RMsg5104]
  refine acallk (refNumber_calls f 8 hf (by decide) _) ?_
  rintro r s1 ⟨rfl, rfl⟩
  simp only [↓AXq_nil, ↓AXq_cons, pval, DX, Nat.reduceBEq, ↓DN, UP, DF, qSh, qCv, qIA, qIx, qSl, qBu, qCe, qOn, reduceCtorEq, ↓reduceIte, nLT, nLE, nEQ, nAdd, nMul, nPow, nSub, zLT, zLE, zNat, RMsg5104]
  refine acallk (h2 _) ?_
  rintro r s2 ⟨rfl, rfl⟩
  simp only [↓AXq_nil, ↓AXq_cons, pval, DX, Nat.reduceBEq, ↓DN, UP, DF, qSh, qCv, qIA, qIx, qSl, qBu, qCe, qOn, reduceCtorEq, ↓reduceIte, nLT, nLE, nEQ, nAdd, nMul, nPow, nSub, zLT, zLE, zNat, RMsg5104, i64_room hx]
  refine hK _ _ ?_
  clear hK K
  refine awp_ret ?_
  simp only [retQ, AEnds, aresL, ares, List.toList_toArray, ↓upd_same]; try simp only [↓DN, UP, DF, qSh, qCv, qIA, qIx, qSl, qBu, qCe, qOn, reduceCtorEq, ↓reduceIte, nLT, nLE, nEQ, nAdd, nMul, nPow, nSub, zLT, zLE, zNat, RMsg5104, DT]
  exact ⟨_, _, AV.weak.refl _, AS.le.refl _, by rw [hh], rfl⟩

end Go.Proofs.Ytcnilmidfhpckaa


set_option autoImplicit false
namespace Go.AM
open Go

def txt (k : Nat) (l : List UInt8) : List UInt8 := be k l.length ++ l
def PropV.body (p : PropV) : List UInt8 := if p.kind = 1 then txt 1 p.name ++ (be 8 p.key ++ be 8 p.init) else if p.kind = 2 then be 1 p.leaf.toNat ++ be 8 p.key else be 1 p.leaf.toNat
def PropV.text (p : PropV) : List UInt8 := be 1 p.kind.toNat ++ p.body
def SealV.wtext (x : SealV) : List UInt8 := be 8 x.frm ++ txt 2 x.text
def flatT {α : Type} (f : α → List UInt8) (l : List α) : List UInt8 := (l.map f).flatten
def StepV.text (x : StepV) : List UInt8 := be 8 x.key ++ (be 1 x.seals.length ++ flatT SealV.wtext x.seals)
def PathV.text (x : PathV) : List UInt8 := be 8 x.key ++ (txt 1 x.parent ++ (be 1 x.steps.length ++ flatT StepV.text x.steps))
def CommitV.tail (c : CommitV) : List UInt8 := if c.hasPath then be 1 1 ++ c.path.text else be 1 0
def CommitV.content (c : CommitV) : List UInt8 :=
  be 1 1 ++ (txt 1 c.group ++ (be 8 c.epoch.toNat ++ (be 1 c.sender.toNat ++ (be 1 c.props.length ++ (flatT PropV.text c.props ++ c.tail)))))
def CommitV.text (c : CommitV) : List UInt8 := c.content ++ (txt 1 c.confirm ++ txt 1 c.member)

theorem flatT_take {α : Type} (f : α → List UInt8) {l : List α} {i : Nat} (h : i < l.length) : flatT f (l.take (i + 1)) = flatT f (l.take i) ++ f l[i] := by
  unfold flatT
  rw [List.take_succ_eq_append_getElem h, List.map_append, List.flatten_append]
  simp only [List.map_cons, List.map_nil, List.flatten_cons, List.flatten_nil, List.append_nil]
theorem flatT_len {α : Type} {f : α → List UInt8} {n : Nat} : ∀ {l : List α}, (∀ x ∈ l, (f x).length ≤ n) → (flatT f l).length ≤ l.length * n
  | [], _ => by simp [flatT]
  | a :: l, h => by
    have ih := flatT_len (l := l) fun x hx => h x (by simp [hx])
    have h1 := h a (by simp)
    have : flatT f (a :: l) = f a ++ flatT f l := rfl
    rw [this, List.length_append, List.length_cons, Nat.succ_mul]
    omega
theorem txt_len (k : Nat) (l : List UInt8) : (txt k l).length = k + l.length := by simp [txt]
theorem SealV.wtext_len {x : SealV} (h : x.right) : x.wtext.length ≤ 58 := by
  have := h.2
  simp [SealV.wtext, txt_len]; omega
theorem StepV.text_len {x : StepV} (h : x.right) : x.text.length ≤ 1865 := by
  have h1 := flatT_len (f := SealV.wtext) (n := 58) fun y hy => SealV.wtext_len (h.1 y hy)
  have h2 := h.2.2
  have h3 : x.seals.length * 58 ≤ 32 * 58 := Nat.mul_le_mul_right _ h2
  simp [StepV.text]; omega
theorem PathV.text_len {x : PathV} (h : x.right) : x.text.length ≤ 9400 := by
  have h1 := flatT_len (f := StepV.text) (n := 1865) fun y hy => StepV.text_len (h.1 y hy)
  have h2 := h.2.2.2
  have h4 := h.2.2.1
  have h3 : x.steps.length * 1865 ≤ 5 * 1865 := Nat.mul_le_mul_right _ h2
  simp [PathV.text, txt_len]; omega
theorem PropV.text_len {x : PropV} (h : x.right) : x.text.length ≤ 40 := by
  unfold PropV.text PropV.body
  rcases h with ⟨h1, h2, h3, h4, _⟩ | ⟨h1, h2, h3, h4, _⟩ | ⟨h1, h2, h3, h4, _⟩
  · rw [if_pos h1]; simp [txt_len]; omega
  · rw [if_neg (by omega), if_pos h1]; simp
  · rw [if_neg (by omega), if_neg (by omega)]; simp
theorem CommitV.content_len {c : CommitV} (h : c.right) : c.content.length ≤ 12000 := by
  obtain ⟨h1, h2, h3, h4, h5, h6, h7, h8⟩ := h
  have q1 := flatT_len (f := PropV.text) (n := 40) fun y hy => PropV.text_len (h1 y hy)
  have q2 : c.props.length * 40 ≤ 16 * 40 := Nat.mul_le_mul_right _ h5
  have q3 : c.tail.length ≤ 9401 := by
    unfold CommitV.tail
    split
    · rename_i hp
      have := PathV.text_len (h6.1 hp)
      simp; omega
    · simp
  simp [CommitV.content, txt_len]; omega
theorem CommitV.text_len {c : CommitV} (h : c.right) : c.text.length ≤ 13000 := by
  have h1 := CommitV.content_len h
  have h7 := h.2.2.2.2.2.2
  simp [CommitV.text, txt_len]; omega
end Go.AM


set_option autoImplicit false
namespace Go.Proofs.Ytcnilmidfhpckaa
open Go Go.AM Go.Proofs

theorem RMsg645 : type_of% (And.intro (And.intro (And.intro (And.intro (And.intro (And.intro @Try.underlying3 (And.intro T.c3 T.g3)) (And.intro T.b3 (And.intro T.z3 @Try.underlying4))) (And.intro (And.intro T.c4 (And.intro T.g4 T.b4)) (And.intro (And.intro T.z4 @Try.underlying5) (And.intro T.c5 T.g5)))) (And.intro (And.intro (And.intro T.b5 (And.intro T.z5 @Try.underlying28)) (And.intro T.c28 (And.intro T.g28 T.b28))) (And.intro (And.intro T.z28 (And.intro T.s28 @Try.underlying42)) (And.intro (And.intro T.c42 T.g42) (And.intro T.b42 T.z42))))) (And.intro (And.intro (And.intro (And.intro @Try.underlying80 (And.intro T.c80 T.g80)) (And.intro T.b80 (And.intro T.z80 T.h80))) (And.intro (And.intro @Try.underlying86 (And.intro T.c86 T.g86)) (And.intro (And.intro T.b86 T.z86) (And.intro T.p86 @Try.underlying137)))) (And.intro (And.intro (And.intro T.c137 (And.intro T.g137 T.b137)) (And.intro T.z137 (And.intro T.h137 T.f80_0))) (And.intro (And.intro T.f80_1 (And.intro T.f80_2 T.f80_3)) (And.intro (And.intro T.f80_4 T.k44) (And.intro T.k41 T.k43)))))) Try.ntmps45) :=
  (And.intro (And.intro (And.intro (And.intro (And.intro (And.intro @Try.underlying3 (And.intro T.c3 T.g3)) (And.intro T.b3 (And.intro T.z3 @Try.underlying4))) (And.intro (And.intro T.c4 (And.intro T.g4 T.b4)) (And.intro (And.intro T.z4 @Try.underlying5) (And.intro T.c5 T.g5)))) (And.intro (And.intro (And.intro T.b5 (And.intro T.z5 @Try.underlying28)) (And.intro T.c28 (And.intro T.g28 T.b28))) (And.intro (And.intro T.z28 (And.intro T.s28 @Try.underlying42)) (And.intro (And.intro T.c42 T.g42) (And.intro T.b42 T.z42))))) (And.intro (And.intro (And.intro (And.intro @Try.underlying80 (And.intro T.c80 T.g80)) (And.intro T.b80 (And.intro T.z80 T.h80))) (And.intro (And.intro @Try.underlying86 (And.intro T.c86 T.g86)) (And.intro (And.intro T.b86 T.z86) (And.intro T.p86 @Try.underlying137)))) (And.intro (And.intro (And.intro T.c137 (And.intro T.g137 T.b137)) (And.intro T.z137 (And.intro T.h137 T.f80_0))) (And.intro (And.intro T.f80_1 (And.intro T.f80_2 T.f80_3)) (And.intro (And.intro T.f80_4 T.k44) (And.intro T.k41 T.k43)))))) Try.ntmps45)

variable {Γ : Nat → List AV}

theorem small_nat {n : Int} (h : 0 ≤ n) (k : n < 256) (st : List UInt8 × Bool) : penSmall 1 n st = penRaw (be 1 n.toNat) st := by
  obtain ⟨m, rfl⟩ : ∃ m : Nat, n = (m : Int) := ⟨n.toNat, by omega⟩
  exact penSmall_raw (by omega) st
theorem text_raw {k : Nat} {m : List UInt8} (h : m.length < 256 ^ k) (st : List UInt8 × Bool) : penText k m st = penRaw (txt k m) st := penText_raw h st

set_option maxHeartbeats 2000000 in
theorem writeProp_calls (s0 s : AS) (p : Nat) (st : List UInt8 × Bool) (x : PropV) (hw : x.wf) (hx : x.right) (hl : st.1.length + 100 ≤ 2 ^ 45) (h : PenS s0 s p st) :
    ACalls Try.prog Γ 45 [.ptr p 0, .agg x.cells] s (fun r s' => r = .tup [] ∧ PenS s0 s' p (penRaw x.text st)) := by
  refine acalls_body Try.func45 rfl Try.ntmps45 Try.results45 (by simp) ?_
  obtain ⟨k, l, nm, key, ini⟩ := x
  obtain ⟨w1, w2⟩ := hw
  simp only at w1 w2
  unfold PropV.cells
  have hk : 0 ≤ k ∧ k < 256 := by rcases hx with h | h | h <;> (have := h.1; simp only at this; omega)
  refine awp_reg_frz 3 (by simp [dsts]) ?_
  intro K hK
  simp only [↓AXq_nil, ↓AXq_cons, pval, DX, Nat.reduceBEq, ↓DN, UP, DF, qSh, qCv, qIA, qIx, qSl, qBu, qCe, qOn, reduceCtorEq, ↓reduceIte, nLT, nLE, nEQ, nAdd, nMul, nPow, nSub, zLT, zLE, zNat, RMsg645]
  intro o ho
  refine hK _ _ o _ (by simp only [upd, nEQ, ↓reduceIte]) ho ?_
  clear hK K ho
  refine awp_reg_seq ?_
  intro K hK
  simp only [↓DN, UP, DF, qSh, qCv, qIA, qIx, qSl, qBu, qCe, qOn, reduceCtorEq, ↓reduceIte, nLT, nLE, nEQ, nAdd, nMul, nPow, nSub, zLT, zLE, zNat, RMsg645]
  refine acallk (penU8_calls s0 s p st k (by omega) (by omega) h) ?_
  rintro r s1 ⟨rfl, h1⟩
  rw [small_nat hk.1 hk.2] at h1
  have l1 := penRaw_len (be 1 k.toNat) st
  rw [length_be] at l1
  simp only [↓AXq_nil, ↓AXq_cons, pval, DX, Nat.reduceBEq, ↓DN, UP, DF, qSh, qCv, qIA, qIx, qSl, qBu, qCe, qOn, reduceCtorEq, ↓reduceIte, nLT, nLE, nEQ, nAdd, nMul, nPow, nSub, zLT, zLE, zNat, RMsg645]
  refine hK _ _ ?_
  clear hK K
  refine awp_reg_seq ?_
  intro K hK
  simp only [↓DN, UP, DF, qSh, qCv, qIA, qIx, qSl, qBu, qCe, qOn, reduceCtorEq, ↓reduceIte, nLT, nLE, nEQ, nAdd, nMul, nPow, nSub, zLT, zLE, zNat, RMsg645]
  refine hK _ _ ?_
  clear hK K
  refine awp_block ?_
  rcases hx with ⟨e1, e2, e3, e4, e5, e6⟩ | ⟨e1, e2, e3, e4, e5, e6⟩ | ⟨e1, e2, e3, e4, e5, e6⟩
  · simp only at e1 e2 e3 e4 e5 e6
    refine awp_reg_seq ?_
    intro K hK
    simp only [↓DN, UP, DF, qSh, qCv, qIA, qIx, qSl, qBu, qCe, qOn, reduceCtorEq, ↓reduceIte, nLT, nLE, nEQ, nAdd, nMul, nPow, nSub, zLT, zLE, zNat, RMsg645, yesI e1]
    refine hK _ _ ?_
    clear hK K
    refine awp_cond_k ?_
    intro X Y hX hY
    simp only [↓DN, UP, DF, qSh, qCv, qIA, qIx, qSl, qBu, qCe, qOn, reduceCtorEq, ↓reduceIte, nLT, nLE, nEQ, nAdd, nMul, nPow, nSub, zLT, zLE, zNat, RMsg645, DB]
    refine hX ?_
    clear hX hY X Y
    refine awp_reg_seq ?_
    intro K hK
    simp only [↓DN, UP, DF, qSh, qCv, qIA, qIx, qSl, qBu, qCe, qOn, reduceCtorEq, ↓reduceIte, nLT, nLE, nEQ, nAdd, nMul, nPow, nSub, zLT, zLE, zNat, RMsg645]
    refine acallk (penShort_calls s0 s1 p _ _ nm (IsB.any nm) (by omega) h1) ?_
    rintro r s2 ⟨rfl, h2⟩
    rw [text_raw (by omega), penRaw_raw] at h2
    have l2 := penRaw_len (be 1 k.toNat ++ txt 1 nm) st
    rw [List.length_append, length_be, txt_len] at l2
    simp only [↓AXq_nil, ↓AXq_cons, pval, DX, Nat.reduceBEq, ↓DN, UP, DF, qSh, qCv, qIA, qIx, qSl, qBu, qCe, qOn, reduceCtorEq, ↓reduceIte, nLT, nLE, nEQ, nAdd, nMul, nPow, nSub, zLT, zLE, zNat, RMsg645]
    refine hK _ _ ?_
    clear hK K
    refine awp_reg_seq ?_
    intro K hK
    simp only [↓DN, UP, DF, qSh, qCv, qIA, qIx, qSl, qBu, qCe, qOn, reduceCtorEq, ↓reduceIte, nLT, nLE, nEQ, nAdd, nMul, nPow, nSub, zLT, zLE, zNat, RMsg645]
    refine acallk (penU64_calls s0 s2 p _ key w1 (by omega) h2) ?_
    rintro r s3 ⟨rfl, h3⟩
    rw [penNum_raw, penRaw_raw] at h3
    have l3 := penRaw_len (be 1 k.toNat ++ txt 1 nm ++ be 8 key) st
    rw [List.length_append, List.length_append, length_be, length_be, txt_len] at l3
    simp only [↓AXq_nil, ↓AXq_cons, pval, DX, Nat.reduceBEq, ↓DN, UP, DF, qSh, qCv, qIA, qIx, qSl, qBu, qCe, qOn, reduceCtorEq, ↓reduceIte, nLT, nLE, nEQ, nAdd, nMul, nPow, nSub, zLT, zLE, zNat, RMsg645]
    refine hK _ _ ?_
    clear hK K
    refine awp_reg_end ?_
    intro K hK
    simp only [↓DN, UP, DF, qSh, qCv, qIA, qIx, qSl, qBu, qCe, qOn, reduceCtorEq, ↓reduceIte, nLT, nLE, nEQ, nAdd, nMul, nPow, nSub, zLT, zLE, zNat, RMsg645]
    refine acallk (penU64_calls s0 s3 p _ ini w2 (by omega) h3) ?_
    rintro r s4 ⟨rfl, h4⟩
    rw [penNum_raw, penRaw_raw] at h4
    simp only [↓AXq_nil, ↓AXq_cons, pval, DX, Nat.reduceBEq, ↓DN, UP, DF, qSh, qCv, qIA, qIx, qSl, qBu, qCe, qOn, reduceCtorEq, ↓reduceIte, nLT, nLE, nEQ, nAdd, nMul, nPow, nSub, zLT, zLE, zNat, RMsg645]
    refine hK _ _ ?_
    clear hK K
    try simp only [thenQ, blockQ]
    simp only [retQ, AEnds, aresL, ares, List.toList_toArray, ↓upd_same]; try simp only [↓DN, UP, DF, qSh, qCv, qIA, qIx, qSl, qBu, qCe, qOn, reduceCtorEq, ↓reduceIte, nLT, nLE, nEQ, nAdd, nMul, nPow, nSub, zLT, zLE, zNat, RMsg645, DT]
    refine ⟨_, _, AV.weak.refl _, AS.le.refl _, rfl, ?_⟩
    have : PropV.text ⟨k, l, nm, key, ini⟩ = be 1 k.toNat ++ txt 1 nm ++ be 8 key ++ be 8 ini := by
      unfold PropV.text PropV.body
      rw [if_pos e1]
      simp
    rw [this]
    exact h4
  · simp only at e1 e2 e3 e4 e5 e6
    refine awp_reg_seq ?_
    intro K hK
    simp only [↓DN, UP, DF, qSh, qCv, qIA, qIx, qSl, qBu, qCe, qOn, reduceCtorEq, ↓reduceIte, nLT, nLE, nEQ, nAdd, nMul, nPow, nSub, zLT, zLE, zNat, RMsg645, notI (show k ≠ 1 by omega)]
    refine hK _ _ ?_
    clear hK K
    refine awp_cond_k ?_
    intro X Y hX hY
    simp only [↓DN, UP, DF, qSh, qCv, qIA, qIx, qSl, qBu, qCe, qOn, reduceCtorEq, ↓reduceIte, nLT, nLE, nEQ, nAdd, nMul, nPow, nSub, zLT, zLE, zNat, RMsg645, DB]
    refine hY ?_
    clear hX hY X Y
    refine awp_reg_seq ?_
    intro K hK
    simp only [↓DN, UP, DF, qSh, qCv, qIA, qIx, qSl, qBu, qCe, qOn, reduceCtorEq, ↓reduceIte, nLT, nLE, nEQ, nAdd, nMul, nPow, nSub, zLT, zLE, zNat, RMsg645, yesI e1]
    refine hK _ _ ?_
    clear hK K
    refine awp_cond_k ?_
    intro X Y hX hY
    simp only [↓DN, UP, DF, qSh, qCv, qIA, qIx, qSl, qBu, qCe, qOn, reduceCtorEq, ↓reduceIte, nLT, nLE, nEQ, nAdd, nMul, nPow, nSub, zLT, zLE, zNat, RMsg645, DB]
    refine hX ?_
    clear hX hY X Y
    refine awp_reg_seq ?_
    intro K hK
    simp only [↓DN, UP, DF, qSh, qCv, qIA, qIx, qSl, qBu, qCe, qOn, reduceCtorEq, ↓reduceIte, nLT, nLE, nEQ, nAdd, nMul, nPow, nSub, zLT, zLE, zNat, RMsg645]
    refine acallk (penU8_calls s0 s1 p _ l (by omega) (by omega) h1) ?_
    rintro r s2 ⟨rfl, h2⟩
    rw [small_nat e2 (by omega), penRaw_raw] at h2
    have l2 := penRaw_len (be 1 k.toNat ++ be 1 l.toNat) st
    rw [List.length_append, length_be, length_be] at l2
    simp only [↓AXq_nil, ↓AXq_cons, pval, DX, Nat.reduceBEq, ↓DN, UP, DF, qSh, qCv, qIA, qIx, qSl, qBu, qCe, qOn, reduceCtorEq, ↓reduceIte, nLT, nLE, nEQ, nAdd, nMul, nPow, nSub, zLT, zLE, zNat, RMsg645]
    refine hK _ _ ?_
    clear hK K
    refine awp_reg_end ?_
    intro K hK
    simp only [↓DN, UP, DF, qSh, qCv, qIA, qIx, qSl, qBu, qCe, qOn, reduceCtorEq, ↓reduceIte, nLT, nLE, nEQ, nAdd, nMul, nPow, nSub, zLT, zLE, zNat, RMsg645]
    refine acallk (penU64_calls s0 s2 p _ key w1 (by omega) h2) ?_
    rintro r s3 ⟨rfl, h3⟩
    rw [penNum_raw, penRaw_raw] at h3
    simp only [↓AXq_nil, ↓AXq_cons, pval, DX, Nat.reduceBEq, ↓DN, UP, DF, qSh, qCv, qIA, qIx, qSl, qBu, qCe, qOn, reduceCtorEq, ↓reduceIte, nLT, nLE, nEQ, nAdd, nMul, nPow, nSub, zLT, zLE, zNat, RMsg645]
    refine hK _ _ ?_
    clear hK K
    try simp only [thenQ, blockQ]
    simp only [retQ, AEnds, aresL, ares, List.toList_toArray, ↓upd_same]; try simp only [↓DN, UP, DF, qSh, qCv, qIA, qIx, qSl, qBu, qCe, qOn, reduceCtorEq, ↓reduceIte, nLT, nLE, nEQ, nAdd, nMul, nPow, nSub, zLT, zLE, zNat, RMsg645, DT]
    refine ⟨_, _, AV.weak.refl _, AS.le.refl _, rfl, ?_⟩
    have : PropV.text ⟨k, l, nm, key, ini⟩ = be 1 k.toNat ++ be 1 l.toNat ++ be 8 key := by
      unfold PropV.text PropV.body
      rw [if_neg (show ¬ k = 1 by omega), if_pos e1]
      simp
    rw [this]
    exact h3
  · simp only at e1 e2 e3 e4 e5 e6
    refine awp_reg_seq ?_
    intro K hK
    simp only [↓DN, UP, DF, qSh, qCv, qIA, qIx, qSl, qBu, qCe, qOn, reduceCtorEq, ↓reduceIte, nLT, nLE, nEQ, nAdd, nMul, nPow, nSub, zLT, zLE, zNat, RMsg645, notI (show k ≠ 1 by omega)]
    refine hK _ _ ?_
    clear hK K
    refine awp_cond_k ?_
    intro X Y hX hY
    simp only [↓DN, UP, DF, qSh, qCv, qIA, qIx, qSl, qBu, qCe, qOn, reduceCtorEq, ↓reduceIte, nLT, nLE, nEQ, nAdd, nMul, nPow, nSub, zLT, zLE, zNat, RMsg645, DB]
    refine hY ?_
    clear hX hY X Y
    refine awp_reg_seq ?_
    intro K hK
    simp only [↓DN, UP, DF, qSh, qCv, qIA, qIx, qSl, qBu, qCe, qOn, reduceCtorEq, ↓reduceIte, nLT, nLE, nEQ, nAdd, nMul, nPow, nSub, zLT, zLE, zNat, RMsg645, notI (show k ≠ 2 by omega)]
    refine hK _ _ ?_
    clear hK K
    refine awp_cond_k ?_
    intro X Y hX hY
    simp only [↓DN, UP, DF, qSh, qCv, qIA, qIx, qSl, qBu, qCe, qOn, reduceCtorEq, ↓reduceIte, nLT, nLE, nEQ, nAdd, nMul, nPow, nSub, zLT, zLE, zNat, RMsg645, DB]
    refine hY ?_
    clear hX hY X Y
    refine awp_reg_seq ?_
    intro K hK
    simp only [↓DN, UP, DF, qSh, qCv, qIA, qIx, qSl, qBu, qCe, qOn, reduceCtorEq, ↓reduceIte, nLT, nLE, nEQ, nAdd, nMul, nPow, nSub, zLT, zLE, zNat, RMsg645, yesI e1]
    refine hK _ _ ?_
    clear hK K
    refine awp_cond_k ?_
    intro X Y hX hY
    simp only [↓DN, UP, DF, qSh, qCv, qIA, qIx, qSl, qBu, qCe, qOn, reduceCtorEq, ↓reduceIte, nLT, nLE, nEQ, nAdd, nMul, nPow, nSub, zLT, zLE, zNat, RMsg645, DB]
    refine hX ?_
    clear hX hY X Y
    refine awp_reg_end ?_
    intro K hK
    simp only [↓DN, UP, DF, qSh, qCv, qIA, qIx, qSl, qBu, qCe, qOn, reduceCtorEq, ↓reduceIte, nLT, nLE, nEQ, nAdd, nMul, nPow, nSub, zLT, zLE, zNat, RMsg645]
    refine acallk (penU8_calls s0 s1 p _ l (by omega) (by omega) h1) ?_
    rintro r s2 ⟨rfl, h2⟩
    rw [small_nat e2 (by omega), penRaw_raw] at h2
    simp only [↓AXq_nil, ↓AXq_cons, pval, DX, Nat.reduceBEq, ↓DN, UP, DF, qSh, qCv, qIA, qIx, qSl, qBu, qCe, qOn, reduceCtorEq, ↓reduceIte, nLT, nLE, nEQ, nAdd, nMul, nPow, nSub, zLT, zLE, zNat, RMsg645]
    refine hK _ _ ?_
    clear hK K
    try simp only [thenQ, blockQ]
    simp only [retQ, AEnds, aresL, ares, List.toList_toArray, ↓upd_same]; try simp only [↓DN, UP, DF, qSh, qCv, qIA, qIx, qSl, qBu, qCe, qOn, reduceCtorEq, ↓reduceIte, nLT, nLE, nEQ, nAdd, nMul, nPow, nSub, zLT, zLE, zNat, RMsg645, DT]
    refine ⟨_, _, AV.weak.refl _, AS.le.refl _, rfl, ?_⟩
    have : PropV.text ⟨k, l, nm, key, ini⟩ = be 1 k.toNat ++ be 1 l.toNat := by
      unfold PropV.text PropV.body
      rw [if_neg (show ¬ k = 1 by omega), if_neg (show ¬ k = 2 by omega)]
    rw [this]
    exact h2

theorem bit_calls (b : Bool) (s : AS) : ACalls Try.prog Γ 46 [.v (.bool b)] s (fun r s' => r = .v (.int .i64 (if b then 1 else 0)) ∧ s' = s) := by
  refine acalls_body Try.func46 rfl Try.ntmps46 Try.results46 (by simp) ?_
  refine awp_reg_seq ?_
  intro K hK
  simp only [↓DN, UP, DF, qSh, qCv, qIA, qIx, qSl, qBu, qCe, qOn, reduceCtorEq, ↓reduceIte, nLT, nLE, nEQ, nAdd, nMul, nPow, nSub, zLT, zLE, zNat, Try.ntmps46]
  refine hK _ _ ?_
  clear hK K
  refine awp_seq_k ?_
  intro K hK
  cases b with
  | true =>
    refine awp_reg_seq ?_
    intro K hK
    simp only [↓DN, UP, DF, qSh, qCv, qIA, qIx, qSl, qBu, qCe, qOn, reduceCtorEq, ↓reduceIte, nLT, nLE, nEQ, nAdd, nMul, nPow, nSub, zLT, zLE, zNat, Try.ntmps46]
    refine hK _ _ ?_
    clear hK K
    refine awp_cond_k ?_
    intro X Y hX hY
    simp only [↓DN, UP, DF, qSh, qCv, qIA, qIx, qSl, qBu, qCe, qOn, reduceCtorEq, ↓reduceIte, nLT, nLE, nEQ, nAdd, nMul, nPow, nSub, zLT, zLE, zNat, Try.ntmps46, DB]
    refine hX ?_
    clear hX hY X Y
    refine awp_reg_seq ?_
    intro K hK
    simp only [↓DN, UP, DF, qSh, qCv, qIA, qIx, qSl, qBu, qCe, qOn, reduceCtorEq, ↓reduceIte, nLT, nLE, nEQ, nAdd, nMul, nPow, nSub, zLT, zLE, zNat, Try.ntmps46]
    refine hK _ _ ?_
    clear hK K
    refine awp_ret ?_
    try simp only [thenQ, blockQ]
    simp only [retQ, AEnds, aresL, ares, List.toList_toArray, ↓upd_same]; try simp only [↓DN, UP, DF, qSh, qCv, qIA, qIx, qSl, qBu, qCe, qOn, reduceCtorEq, ↓reduceIte, nLT, nLE, nEQ, nAdd, nMul, nPow, nSub, zLT, zLE, zNat, Try.ntmps46, DT]
    exact ⟨_, _, AV.weak.refl _, AS.le.refl _, rfl, rfl⟩
  | false =>
    refine awp_reg_seq ?_
    intro K hK
    simp only [↓DN, UP, DF, qSh, qCv, qIA, qIx, qSl, qBu, qCe, qOn, reduceCtorEq, ↓reduceIte, nLT, nLE, nEQ, nAdd, nMul, nPow, nSub, zLT, zLE, zNat, Try.ntmps46]
    refine hK _ _ ?_
    clear hK K
    refine awp_cond_k ?_
    intro X Y hX hY
    simp only [↓DN, UP, DF, qSh, qCv, qIA, qIx, qSl, qBu, qCe, qOn, reduceCtorEq, ↓reduceIte, nLT, nLE, nEQ, nAdd, nMul, nPow, nSub, zLT, zLE, zNat, Try.ntmps46, DB]
    refine hY ?_
    clear hX hY X Y
    refine awp_skip ?_
    refine hK _ _ ?_
    clear hK K
    refine awp_reg_seq ?_
    intro K hK
    simp only [↓DN, UP, DF, qSh, qCv, qIA, qIx, qSl, qBu, qCe, qOn, reduceCtorEq, ↓reduceIte, nLT, nLE, nEQ, nAdd, nMul, nPow, nSub, zLT, zLE, zNat, Try.ntmps46]
    refine hK _ _ ?_
    clear hK K
    refine awp_ret ?_
    simp only [retQ, AEnds, aresL, ares, List.toList_toArray, ↓upd_same]; try simp only [↓DN, UP, DF, qSh, qCv, qIA, qIx, qSl, qBu, qCe, qOn, reduceCtorEq, ↓reduceIte, nLT, nLE, nEQ, nAdd, nMul, nPow, nSub, zLT, zLE, zNat, Try.ntmps46, DT]
    exact ⟨_, _, AV.weak.refl _, AS.le.refl _, rfl, rfl⟩

end Go.Proofs.Ytcnilmidfhpckaa


set_option autoImplicit false
namespace Go.Proofs.Ytcnilmidfhpckaa
open Go Go.AM Go.Proofs

theorem RMsg747 : type_of% (And.intro (And.intro (And.intro (And.intro (And.intro (And.intro (And.intro @Try.underlying3 T.c3) (And.intro T.g3 T.b3)) (And.intro (And.intro T.z3 @Try.underlying4) (And.intro T.c4 (And.intro T.g4 T.b4)))) (And.intro (And.intro (And.intro T.z4 @Try.underlying5) (And.intro T.c5 (And.intro T.g5 T.b5))) (And.intro (And.intro T.z5 @Try.underlying28) (And.intro T.c28 (And.intro T.g28 T.b28))))) (And.intro (And.intro (And.intro (And.intro T.z28 T.s28) (And.intro @Try.underlying42 T.c42)) (And.intro (And.intro T.g42 T.b42) (And.intro T.z42 (And.intro @Try.underlying43 T.c43)))) (And.intro (And.intro (And.intro T.g43 T.b43) (And.intro T.z43 (And.intro T.s43 @Try.underlying45))) (And.intro (And.intro T.c45 T.g45) (And.intro T.b45 (And.intro T.z45 T.h45)))))) (And.intro (And.intro (And.intro (And.intro (And.intro @Try.underlying81 T.c81) (And.intro T.g81 T.b81)) (And.intro (And.intro T.z81 T.s81) (And.intro @Try.underlying83 (And.intro T.c83 T.g83)))) (And.intro (And.intro (And.intro T.b83 T.z83) (And.intro T.h83 (And.intro @Try.underlying85 T.c85))) (And.intro (And.intro T.g85 T.b85) (And.intro T.z85 (And.intro T.h85 @Try.underlying86))))) (And.intro (And.intro (And.intro (And.intro T.c86 T.g86) (And.intro T.b86 (And.intro T.z86 T.p86))) (And.intro (And.intro @Try.underlying137 T.c137) (And.intro T.g137 (And.intro T.b137 T.z137)))) (And.intro (And.intro (And.intro T.h137 T.f45_0) (And.intro T.f45_1 (And.intro T.f45_2 T.f83_0))) (And.intro (And.intro T.f83_1 T.k41) (And.intro T.k44 (And.intro T.k43 T.k98))))))) Try.ntmps47) :=
  (And.intro (And.intro (And.intro (And.intro (And.intro (And.intro (And.intro @Try.underlying3 T.c3) (And.intro T.g3 T.b3)) (And.intro (And.intro T.z3 @Try.underlying4) (And.intro T.c4 (And.intro T.g4 T.b4)))) (And.intro (And.intro (And.intro T.z4 @Try.underlying5) (And.intro T.c5 (And.intro T.g5 T.b5))) (And.intro (And.intro T.z5 @Try.underlying28) (And.intro T.c28 (And.intro T.g28 T.b28))))) (And.intro (And.intro (And.intro (And.intro T.z28 T.s28) (And.intro @Try.underlying42 T.c42)) (And.intro (And.intro T.g42 T.b42) (And.intro T.z42 (And.intro @Try.underlying43 T.c43)))) (And.intro (And.intro (And.intro T.g43 T.b43) (And.intro T.z43 (And.intro T.s43 @Try.underlying45))) (And.intro (And.intro T.c45 T.g45) (And.intro T.b45 (And.intro T.z45 T.h45)))))) (And.intro (And.intro (And.intro (And.intro (And.intro @Try.underlying81 T.c81) (And.intro T.g81 T.b81)) (And.intro (And.intro T.z81 T.s81) (And.intro @Try.underlying83 (And.intro T.c83 T.g83)))) (And.intro (And.intro (And.intro T.b83 T.z83) (And.intro T.h83 (And.intro @Try.underlying85 T.c85))) (And.intro (And.intro T.g85 T.b85) (And.intro T.z85 (And.intro T.h85 @Try.underlying86))))) (And.intro (And.intro (And.intro (And.intro T.c86 T.g86) (And.intro T.b86 (And.intro T.z86 T.p86))) (And.intro (And.intro @Try.underlying137 T.c137) (And.intro T.g137 (And.intro T.b137 T.z137)))) (And.intro (And.intro (And.intro T.h137 T.f45_0) (And.intro T.f45_1 (And.intro T.f45_2 T.f83_0))) (And.intro (And.intro T.f83_1 T.k41) (And.intro T.k44 (And.intro T.k43 T.k98))))))) Try.ntmps47)

variable {Γ : Nat → List AV}

set_option maxHeartbeats 8000000 in
set_option maxRecDepth 100000 in
theorem pathWrite_calls (s0 s : AS) (p : Nat) (st : List UInt8 × Bool) (x : PathV) (hw : x.wf) (hx : x.right) (hl : st.1.length + 20000 ≤ 2 ^ 45) (h : PenS s0 s p st) :
    ACalls Try.prog Γ 47 [.ptr p 0, .agg x.cells] s (fun r s' => r = .tup [] ∧ PenS s0 s' p (penRaw x.text st)) := by
  refine acalls_body Try.func47 rfl Try.ntmps47 Try.results47 (by simp) ?_
  obtain ⟨key, pa, ps⟩ := x
  obtain ⟨w1, w2, w3⟩ := hw
  obtain ⟨x1, x2, x3, x4⟩ := hx
  simp only at w1 w2 w3 x1 x2 x3 x4
  unfold PathV.cells
  have htx : PathV.text ⟨key, pa, ps⟩ = be 8 key ++ (txt 1 pa ++ (be 1 ps.length ++ flatT StepV.text ps)) := rfl
  rw [htx]
  clear htx
  have hfl : ∀ i, (flatT StepV.text (ps.take i)).length ≤ 9400 := by
    intro i
    have h1 := flatT_len (f := StepV.text) (n := 1865) (l := ps.take i) fun y hy => StepV.text_len (x1 y (List.mem_of_mem_take hy))
    have h2 : (ps.take i).length ≤ 5 := by rw [List.length_take]; omega
    have h3 : (ps.take i).length * 1865 ≤ 5 * 1865 := Nat.mul_le_mul_right _ h2
    omega
  have hrow := fun i (h : i < ps.length) => row_at (c := StepV.cells) (k := 2) (fun _ => rfl) h
  generalize hXX : rowC StepV.cells ps = XX at *
  refine awp_reg_frz 3 (by simp [dsts]) ?_
  intro K hK
  simp only [↓AXq_nil, ↓AXq_cons, pval, DX, Nat.reduceBEq, ↓DN, UP, DF, qSh, qCv, qIA, qIx, qSl, qBu, qCe, qOn, reduceCtorEq, ↓reduceIte, nLT, nLE, nEQ, nAdd, nMul, nPow, nSub, zLT, zLE, zNat, RMsg747]
  intro o ho
  refine hK _ _ o _ (by simp only [upd, nEQ, ↓reduceIte]) ho ?_
  clear hK K ho
  refine awp_reg_seq ?_
  intro K hK
  simp only [↓DN, UP, DF, qSh, qCv, qIA, qIx, qSl, qBu, qCe, qOn, reduceCtorEq, ↓reduceIte, nLT, nLE, nEQ, nAdd, nMul, nPow, nSub, zLT, zLE, zNat, RMsg747]
  refine acallk (penU64_calls s0 s p st key w1 (by omega) h) ?_
  rintro r s1 ⟨rfl, h1⟩
  rw [penNum_raw] at h1
  have l1 := penRaw_len (be 8 key) st
  rw [length_be] at l1
  simp only [↓AXq_nil, ↓AXq_cons, pval, DX, Nat.reduceBEq, ↓DN, UP, DF, qSh, qCv, qIA, qIx, qSl, qBu, qCe, qOn, reduceCtorEq, ↓reduceIte, nLT, nLE, nEQ, nAdd, nMul, nPow, nSub, zLT, zLE, zNat, RMsg747]
  refine hK _ _ ?_
  clear hK K
  refine awp_reg_seq ?_
  intro K hK
  simp only [↓DN, UP, DF, qSh, qCv, qIA, qIx, qSl, qBu, qCe, qOn, reduceCtorEq, ↓reduceIte, nLT, nLE, nEQ, nAdd, nMul, nPow, nSub, zLT, zLE, zNat, RMsg747]
  refine acallk (penShort_calls s0 s1 p _ _ pa (IsB.any pa) (by omega) h1) ?_
  rintro r s2 ⟨rfl, h2⟩
  rw [text_raw (by omega), penRaw_raw] at h2
  have l2 := penRaw_len (be 8 key ++ txt 1 pa) st
  rw [List.length_append, length_be, txt_len] at l2
  simp only [↓AXq_nil, ↓AXq_cons, pval, DX, Nat.reduceBEq, ↓DN, UP, DF, qSh, qCv, qIA, qIx, qSl, qBu, qCe, qOn, reduceCtorEq, ↓reduceIte, nLT, nLE, nEQ, nAdd, nMul, nPow, nSub, zLT, zLE, zNat, RMsg747]
  refine hK _ _ ?_
  clear hK K
  refine awp_reg_seq ?_
  intro K hK
  simp only [↓DN, UP, DF, qSh, qCv, qIA, qIx, qSl, qBu, qCe, qOn, reduceCtorEq, ↓reduceIte, nLT, nLE, nEQ, nAdd, nMul, nPow, nSub, zLT, zLE, zNat, RMsg747]
  refine acallk (penU8_calls s0 s2 p _ (ps.length : Int) (by omega) (by omega) h2) ?_
  rintro r s3 ⟨rfl, h3⟩
  rw [penSmall_raw (by omega), penRaw_raw] at h3
  obtain ⟨st3, hst3⟩ : ∃ q, q = penRaw (be 8 key ++ txt 1 pa ++ be 1 ps.length) st := ⟨_, rfl⟩
  have l3 := penRaw_len (be 8 key ++ txt 1 pa ++ be 1 ps.length) st
  rw [List.length_append, List.length_append, length_be, length_be, txt_len, ← hst3] at l3
  rw [← hst3] at h3
  clear h1 h2 l1 l2
  simp only [↓AXq_nil, ↓AXq_cons, pval, DX, Nat.reduceBEq, ↓DN, UP, DF, qSh, qCv, qIA, qIx, qSl, qBu, qCe, qOn, reduceCtorEq, ↓reduceIte, nLT, nLE, nEQ, nAdd, nMul, nPow, nSub, zLT, zLE, zNat, RMsg747]
  refine hK _ _ ?_
  clear hK K
  refine awp_reg_seq ?_
  intro K hK
  simp only [↓DN, UP, DF, qSh, qCv, qIA, qIx, qSl, qBu, qCe, qOn, reduceCtorEq, ↓reduceIte, nLT, nLE, nEQ, nAdd, nMul, nPow, nSub, zLT, zLE, zNat, RMsg747]
  refine hK _ _ ?_
  clear hK K
  refine awp_block ?_
  refine awp_loop (fun E s1 => ∃ i : Nat, i ≤ ps.length ∧ E 24 = .v (.int .i64 i) ∧ E 23 = .v (.int .i64 ps.length) ∧ E 22 = .sl 2 ps.length XX .any ∧ E 0 = .ptr p 0 ∧ PenS s0 s1 p (penRaw (flatT StepV.text (ps.take i)) st3))
    (fun E _ => match E 24 with | .v (.int _ i) => ps.length - i.toNat | _ => 0) ?_ ?_
  · exact ⟨0, Nat.zero_le _, by simp only [upd, ↓reduceIte]; rfl, by simp only [upd, nEQ, ↓reduceIte], by simp only [upd, nEQ, ↓reduceIte], by simp only [upd, initE, nEQ, ↓reduceIte, List.getD_cons_zero], by simpa [flatT, penRaw_nil] using h3⟩
  · clear h3 h
    rintro E1 s1 ⟨i, hi, g24, g23, g22, g0, h⟩ -
    by_cases hi' : i < ps.length
    · refine awp_reg_seq ?_
      intro K hK
      simp only [↓DN, UP, DF, qSh, qCv, qIA, qIx, qSl, qBu, qCe, qOn, reduceCtorEq, ↓reduceIte, nLT, nLE, nEQ, nAdd, nMul, nPow, nSub, zLT, zLE, zNat, RMsg747, g24, g23, eye_lt_nat, decide_eq_true hi']
      refine hK _ _ ?_
      clear hK K
      refine awp_seq_k ?_
      intro K3 hK3
      refine awp_cond_k ?_
      intro X Y hX hY
      simp only [↓DN, UP, DF, qSh, qCv, qIA, qIx, qSl, qBu, qCe, qOn, reduceCtorEq, ↓reduceIte, nLT, nLE, nEQ, nAdd, nMul, nPow, nSub, zLT, zLE, zNat, RMsg747, DB]
      refine hX ?_
      clear hX hY X Y
      refine awp_skip ?_
      refine hK3 _ _ ?_
      clear hK3 K3
      refine awp_seq_k ?_
      intro K3 hK3
      refine awp_block ?_
      have hat := hrow i hi'
      have hge : (0 : Int) ≤ (i : Int) := by omega
      have hft := flatT_take StepV.text hi'
      have hfl1 := hfl i
      have lst := penRaw_len (flatT StepV.text (ps.take i)) st3
      obtain ⟨y, hy⟩ : ∃ y, y = ps[i] := ⟨_, rfl⟩
      rw [← hy] at hat hft
      have hym : y ∈ ps := by rw [hy]; exact List.getElem_mem hi'
      have hyw := w2 y hym
      have hyr := x1 y hym
      clear hy
      obtain ⟨f, t⟩ := y
      obtain ⟨yw1, yw2, yw3⟩ := hyw
      obtain ⟨yr1, yr2, yr3⟩ := hyr
      simp only at yw1 yw2 yw3 yr1 yr2 yr3
      rw [show StepV.text ⟨f, t⟩ = be 8 f ++ (be 1 t.length ++ flatT SealV.wtext t) from rfl] at hft
      unfold StepV.cells at hat
      have hfl2 : ∀ i, (flatT SealV.wtext (t.take i)).length ≤ 1856 := by
        intro i
        have h1 := flatT_len (f := SealV.wtext) (n := 58) (l := t.take i) fun y hy => SealV.wtext_len (yr1 y (List.mem_of_mem_take hy))
        have h2 : (t.take i).length ≤ 32 := by rw [List.length_take]; omega
        have h3 : (t.take i).length * 58 ≤ 32 * 58 := Nat.mul_le_mul_right _ h2
        omega
      have hrow2 := fun i (h : i < t.length) => row_at (c := SealV.cells) (k := 2) (fun _ => rfl) h
      generalize rowC SealV.cells t = T at *
      refine awp_reg_frz 5 (by simp [dsts]) ?_
      intro K2 hK2
      simp only [↓AXq_nil, ↓AXq_cons, pval, DX, Nat.reduceBEq, ↓DN, UP, DF, qSh, qCv, qIA, qIx, qSl, qBu, qCe, qOn, reduceCtorEq, ↓reduceIte, nLT, nLE, nEQ, nAdd, nMul, nPow, nSub, zLT, zLE, zNat, RMsg747, g24, g22, eye_lt_nat, hi', hge, hat]
      intro o ho
      refine hK2 _ _ o _ (by simp only [upd, nEQ, ↓reduceIte]) ho ?_
      clear hK2 K2 ho
      refine awp_reg_seq ?_
      intro K hK
      simp only [↓DN, UP, DF, qSh, qCv, qIA, qIx, qSl, qBu, qCe, qOn, reduceCtorEq, ↓reduceIte, nLT, nLE, nEQ, nAdd, nMul, nPow, nSub, zLT, zLE, zNat, RMsg747, g0]
      refine acallk (penU64_calls s0 s1 p _ f yw1 (by omega) h) ?_
      rintro r s4 ⟨rfl, h4⟩
      rw [penNum_raw, penRaw_raw] at h4
      have l4 := penRaw_len (flatT StepV.text (ps.take i) ++ be 8 f) st3
      rw [List.length_append, length_be] at l4
      simp only [↓AXq_nil, ↓AXq_cons, pval, DX, Nat.reduceBEq, ↓DN, UP, DF, qSh, qCv, qIA, qIx, qSl, qBu, qCe, qOn, reduceCtorEq, ↓reduceIte, nLT, nLE, nEQ, nAdd, nMul, nPow, nSub, zLT, zLE, zNat, RMsg747]
      refine hK _ _ ?_
      clear hK K
      refine awp_reg_seq ?_
      intro K hK
      simp only [↓DN, UP, DF, qSh, qCv, qIA, qIx, qSl, qBu, qCe, qOn, reduceCtorEq, ↓reduceIte, nLT, nLE, nEQ, nAdd, nMul, nPow, nSub, zLT, zLE, zNat, RMsg747, g0]
      refine acallk (penU8_calls s0 s4 p _ (t.length : Int) (by omega) (by omega) h4) ?_
      rintro r s5 ⟨rfl, h5⟩
      rw [penSmall_raw (by omega), penRaw_raw] at h5
      obtain ⟨st5, hst5⟩ : ∃ q, q = penRaw (flatT StepV.text (ps.take i) ++ be 8 f ++ be 1 t.length) st3 := ⟨_, rfl⟩
      have l5 := penRaw_len (flatT StepV.text (ps.take i) ++ be 8 f ++ be 1 t.length) st3
      rw [List.length_append, List.length_append, length_be, length_be, ← hst5] at l5
      rw [← hst5] at h5
      simp only [↓AXq_nil, ↓AXq_cons, pval, DX, Nat.reduceBEq, ↓DN, UP, DF, qSh, qCv, qIA, qIx, qSl, qBu, qCe, qOn, reduceCtorEq, ↓reduceIte, nLT, nLE, nEQ, nAdd, nMul, nPow, nSub, zLT, zLE, zNat, RMsg747]
      refine hK _ _ ?_
      clear hK K
      refine awp_reg_seq ?_
      intro K hK
      simp only [↓DN, UP, DF, qSh, qCv, qIA, qIx, qSl, qBu, qCe, qOn, reduceCtorEq, ↓reduceIte, nLT, nLE, nEQ, nAdd, nMul, nPow, nSub, zLT, zLE, zNat, RMsg747]
      refine hK _ _ ?_
      clear hK K
      refine awp_block ?_
      refine awp_loop (fun E s1 => ∃ k : Nat, k ≤ t.length ∧ E 40 = .v (.int .i64 k) ∧ E 39 = .v (.int .i64 t.length) ∧ E 38 = .sl 2 t.length T .any ∧ E 24 = .v (.int .i64 i) ∧ E 23 = .v (.int .i64 ps.length) ∧ E 22 = .sl 2 ps.length XX .any ∧ E 0 = .ptr p 0 ∧ PenS s0 s1 p (penRaw (flatT SealV.wtext (t.take k)) st5))
        (fun E _ => match E 40 with | .v (.int _ i) => t.length - i.toNat | _ => 0) ?_ ?_
      · exact ⟨0, Nat.zero_le _, by simp only [upd, ↓reduceIte]; rfl, by simp only [upd, nEQ, ↓reduceIte], by simp only [upd, nEQ, ↓reduceIte], by simp only [upd, g24, nEQ, ↓reduceIte], by simp only [upd, g23, nEQ, ↓reduceIte], by simp only [upd, g22, nEQ, ↓reduceIte], by simp only [upd, g0, nEQ, ↓reduceIte], by simpa [flatT, penRaw_nil] using h5⟩
      · have G24 := g24
        clear h5 h4 h hat g24 g23 g22 g0
        rintro E2 s6 ⟨k, hk, g40, g39, g38, g24, g23, g22, g0, h⟩ -
        by_cases hk' : k < t.length
        · refine awp_reg_seq ?_
          intro K hK
          simp only [↓DN, UP, DF, qSh, qCv, qIA, qIx, qSl, qBu, qCe, qOn, reduceCtorEq, ↓reduceIte, nLT, nLE, nEQ, nAdd, nMul, nPow, nSub, zLT, zLE, zNat, RMsg747, g40, g39, eye_lt_nat, decide_eq_true hk']
          refine hK _ _ ?_
          clear hK K
          refine awp_seq_k ?_
          intro K4 hK4
          refine awp_cond_k ?_
          intro X Y hX hY
          simp only [↓DN, UP, DF, qSh, qCv, qIA, qIx, qSl, qBu, qCe, qOn, reduceCtorEq, ↓reduceIte, nLT, nLE, nEQ, nAdd, nMul, nPow, nSub, zLT, zLE, zNat, RMsg747, DB]
          refine hX ?_
          clear hX hY X Y
          refine awp_skip ?_
          refine hK4 _ _ ?_
          clear hK4 K4
          refine awp_seq_k ?_
          intro K4 hK4
          refine awp_block ?_
          have hat := hrow2 k hk'
          have hge : (0 : Int) ≤ (k : Int) := by omega
          have hft2 := flatT_take SealV.wtext hk'
          have hfl3 := hfl2 k
          have lst2 := penRaw_len (flatT SealV.wtext (t.take k)) st5
          obtain ⟨z, hz⟩ : ∃ z, z = t[k] := ⟨_, rfl⟩
          rw [← hz] at hat hft2
          have hzm : z ∈ t := by rw [hz]; exact List.getElem_mem hk'
          have hzw := yw2 z hzm
          have hzr := yr1 z hzm
          clear hz
          obtain ⟨fz, tz⟩ := z
          obtain ⟨zr1, zr2⟩ := hzr
          simp only at zr1 zr2
          have hzw : fz < 2 ^ 64 := hzw
          rw [show SealV.wtext ⟨fz, tz⟩ = be 8 fz ++ txt 2 tz from rfl] at hft2
          unfold SealV.cells at hat
          refine awp_reg_frz 7 (by simp [dsts]) ?_
          intro K2 hK2
          simp only [↓AXq_nil, ↓AXq_cons, pval, DX, Nat.reduceBEq, ↓DN, UP, DF, qSh, qCv, qIA, qIx, qSl, qBu, qCe, qOn, reduceCtorEq, ↓reduceIte, nLT, nLE, nEQ, nAdd, nMul, nPow, nSub, zLT, zLE, zNat, RMsg747, g40, g38, eye_lt_nat, hk', hge, hat]
          intro o ho
          refine hK2 _ _ o _ (by simp only [upd, nEQ, ↓reduceIte]) ho ?_
          clear hK2 K2 ho
          refine awp_reg_end ?_
          intro K hK
          simp only [↓DN, UP, DF, qSh, qCv, qIA, qIx, qSl, qBu, qCe, qOn, reduceCtorEq, ↓reduceIte, nLT, nLE, nEQ, nAdd, nMul, nPow, nSub, zLT, zLE, zNat, RMsg747, g0]
          refine acallk (hWrite_calls s0 s6 p _ fz tz hzw (by omega) h) ?_
          rintro r s7 ⟨rfl, h7⟩
          rw [text_raw (by omega), penNum_raw, penRaw_raw, penRaw_raw, ← hft2] at h7
          simp only [↓AXq_nil, ↓AXq_cons, pval, DX, Nat.reduceBEq, ↓DN, UP, DF, qSh, qCv, qIA, qIx, qSl, qBu, qCe, qOn, reduceCtorEq, ↓reduceIte, nLT, nLE, nEQ, nAdd, nMul, nPow, nSub, zLT, zLE, zNat, RMsg747]
          refine hK _ _ ?_
          clear hK K
          simp only [blockQ, thenQ, if_true, if_false]
          refine hK4 _ _ ?_
          clear hK4 K4
          refine awp_reg_end ?_
          intro K hK
          simp only [↓DN, UP, DF, qSh, qCv, qIA, qIx, qSl, qBu, qCe, qOn, reduceCtorEq, ↓reduceIte, nLT, nLE, nEQ, nAdd, nMul, nPow, nSub, zLT, zLE, zNat, RMsg747, g40, eye_succ k (by omega)]
          refine hK _ _ ?_
          clear hK K
          refine ⟨⟨k + 1, by omega, by simp only [upd, ↓reduceIte], by simp only [upd, g39, nEQ, ↓reduceIte], by simp only [upd, g38, nEQ, ↓reduceIte], by simp only [upd, g24, nEQ, ↓reduceIte], by simp only [upd, g23, nEQ, ↓reduceIte], by simp only [upd, g22, nEQ, ↓reduceIte], by simp only [upd, g0, nEQ, ↓reduceIte], h7⟩, ?_⟩
          simp only [g40, upd, ↓reduceIte]
          omega
        · refine awp_reg_seq ?_
          intro K hK
          simp only [↓DN, UP, DF, qSh, qCv, qIA, qIx, qSl, qBu, qCe, qOn, reduceCtorEq, ↓reduceIte, nLT, nLE, nEQ, nAdd, nMul, nPow, nSub, zLT, zLE, zNat, RMsg747, g40, g39, eye_lt_nat, decide_eq_false hk']
          refine hK _ _ ?_
          clear hK K
          refine awp_seq_k ?_
          intro K4 hK4
          refine awp_cond_k ?_
          intro X Y hX hY
          simp only [↓DN, UP, DF, qSh, qCv, qIA, qIx, qSl, qBu, qCe, qOn, reduceCtorEq, ↓reduceIte, nLT, nLE, nEQ, nAdd, nMul, nPow, nSub, zLT, zLE, zNat, RMsg747, DB]
          refine hY ?_
          clear hX hY X Y
          refine awp_exit ?_
          simp only [thenQ, blockQ, if_true, if_false]
          rw [List.take_of_length_le (by omega), hst5, penRaw_raw, List.append_assoc, List.append_assoc, ← hft] at h
          refine hK3 _ _ ?_
          clear hK3 hK4 K4 K3
          refine awp_reg_end ?_
          intro K hK
          simp only [↓DN, UP, DF, qSh, qCv, qIA, qIx, qSl, qBu, qCe, qOn, reduceCtorEq, ↓reduceIte, nLT, nLE, nEQ, nAdd, nMul, nPow, nSub, zLT, zLE, zNat, RMsg747, g24, eye_succ i (by omega)]
          refine hK _ _ ?_
          clear hK K
          refine ⟨⟨i + 1, by omega, by simp only [upd, ↓reduceIte], by simp only [upd, g23, nEQ, ↓reduceIte], by simp only [upd, g22, nEQ, ↓reduceIte], by simp only [upd, g0, nEQ, ↓reduceIte], h⟩, ?_⟩
          simp only [G24, upd, ↓reduceIte]
          omega
    · refine awp_reg_seq ?_
      intro K hK
      simp only [↓DN, UP, DF, qSh, qCv, qIA, qIx, qSl, qBu, qCe, qOn, reduceCtorEq, ↓reduceIte, nLT, nLE, nEQ, nAdd, nMul, nPow, nSub, zLT, zLE, zNat, RMsg747, g24, g23, eye_lt_nat, decide_eq_false hi']
      refine hK _ _ ?_
      clear hK K
      refine awp_seq_k ?_
      intro K3 hK3
      refine awp_cond_k ?_
      intro X Y hX hY
      simp only [↓DN, UP, DF, qSh, qCv, qIA, qIx, qSl, qBu, qCe, qOn, reduceCtorEq, ↓reduceIte, nLT, nLE, nEQ, nAdd, nMul, nPow, nSub, zLT, zLE, zNat, RMsg747, DB]
      refine hY ?_
      clear hX hY X Y
      refine awp_exit ?_
      simp only [thenQ, blockQ, if_true]
      simp only [retQ, AEnds, aresL, ares, List.toList_toArray, ↓upd_same]; try simp only [↓DN, UP, DF, qSh, qCv, qIA, qIx, qSl, qBu, qCe, qOn, reduceCtorEq, ↓reduceIte, nLT, nLE, nEQ, nAdd, nMul, nPow, nSub, zLT, zLE, zNat, RMsg747, DT]
      refine ⟨_, _, AV.weak.refl _, AS.le.refl _, rfl, ?_⟩
      rw [List.take_of_length_le (by omega), hst3, penRaw_raw] at h
      simpa using h

end Go.Proofs.Ytcnilmidfhpckaa


set_option autoImplicit false
namespace Go.Proofs.Ytcnilmidfhpckaa
open Go Go.AM Go.Proofs

theorem RMsg819 : type_of% (And.intro (And.intro (And.intro (And.intro (And.intro (And.intro (And.intro @Try.underlying3 T.c3) (And.intro T.g3 (And.intro T.b3 T.z3))) (And.intro (And.intro @Try.underlying4 (And.intro T.c4 T.g4)) (And.intro T.b4 (And.intro T.z4 @Try.underlying5)))) (And.intro (And.intro (And.intro T.c5 T.g5) (And.intro T.b5 (And.intro T.z5 @Try.underlying28))) (And.intro (And.intro T.c28 (And.intro T.g28 T.b28)) (And.intro T.z28 (And.intro T.s28 @Try.underlying41))))) (And.intro (And.intro (And.intro (And.intro T.c41 T.g41) (And.intro T.b41 (And.intro T.z41 T.s41))) (And.intro (And.intro @Try.underlying42 (And.intro T.c42 T.g42)) (And.intro T.b42 (And.intro T.z42 @Try.underlying43)))) (And.intro (And.intro (And.intro T.c43 T.g43) (And.intro T.b43 (And.intro T.z43 T.s43))) (And.intro (And.intro @Try.underlying45 (And.intro T.c45 T.g45)) (And.intro T.b45 (And.intro T.z45 T.h45)))))) (And.intro (And.intro (And.intro (And.intro (And.intro @Try.underlying47 T.c47) (And.intro T.g47 (And.intro T.b47 T.z47))) (And.intro (And.intro T.h47 (And.intro @Try.underlying80 T.c80)) (And.intro T.g80 (And.intro T.b80 T.z80)))) (And.intro (And.intro (And.intro T.h80 @Try.underlying83) (And.intro T.c83 (And.intro T.g83 T.b83))) (And.intro (And.intro T.z83 (And.intro T.h83 @Try.underlying86)) (And.intro T.c86 (And.intro T.g86 T.b86))))) (And.intro (And.intro (And.intro (And.intro T.z86 T.p86) (And.intro @Try.underlying137 (And.intro T.c137 T.g137))) (And.intro (And.intro T.b137 (And.intro T.z137 T.h137)) (And.intro T.f47_0 (And.intro T.f47_1 T.f47_2)))) (And.intro (And.intro (And.intro T.f47_3 (And.intro T.f47_4 T.f47_5)) (And.intro T.k44 (And.intro T.k41 T.k46))) (And.intro (And.intro T.k20 (And.intro T.k43 T.k42)) (And.intro T.k39 (And.intro T.k45 T.k47))))))) Try.ntmps19) :=
  (And.intro (And.intro (And.intro (And.intro (And.intro (And.intro (And.intro @Try.underlying3 T.c3) (And.intro T.g3 (And.intro T.b3 T.z3))) (And.intro (And.intro @Try.underlying4 (And.intro T.c4 T.g4)) (And.intro T.b4 (And.intro T.z4 @Try.underlying5)))) (And.intro (And.intro (And.intro T.c5 T.g5) (And.intro T.b5 (And.intro T.z5 @Try.underlying28))) (And.intro (And.intro T.c28 (And.intro T.g28 T.b28)) (And.intro T.z28 (And.intro T.s28 @Try.underlying41))))) (And.intro (And.intro (And.intro (And.intro T.c41 T.g41) (And.intro T.b41 (And.intro T.z41 T.s41))) (And.intro (And.intro @Try.underlying42 (And.intro T.c42 T.g42)) (And.intro T.b42 (And.intro T.z42 @Try.underlying43)))) (And.intro (And.intro (And.intro T.c43 T.g43) (And.intro T.b43 (And.intro T.z43 T.s43))) (And.intro (And.intro @Try.underlying45 (And.intro T.c45 T.g45)) (And.intro T.b45 (And.intro T.z45 T.h45)))))) (And.intro (And.intro (And.intro (And.intro (And.intro @Try.underlying47 T.c47) (And.intro T.g47 (And.intro T.b47 T.z47))) (And.intro (And.intro T.h47 (And.intro @Try.underlying80 T.c80)) (And.intro T.g80 (And.intro T.b80 T.z80)))) (And.intro (And.intro (And.intro T.h80 @Try.underlying83) (And.intro T.c83 (And.intro T.g83 T.b83))) (And.intro (And.intro T.z83 (And.intro T.h83 @Try.underlying86)) (And.intro T.c86 (And.intro T.g86 T.b86))))) (And.intro (And.intro (And.intro (And.intro T.z86 T.p86) (And.intro @Try.underlying137 (And.intro T.c137 T.g137))) (And.intro (And.intro T.b137 (And.intro T.z137 T.h137)) (And.intro T.f47_0 (And.intro T.f47_1 T.f47_2)))) (And.intro (And.intro (And.intro T.f47_3 (And.intro T.f47_4 T.f47_5)) (And.intro T.k44 (And.intro T.k41 T.k46))) (And.intro (And.intro T.k20 (And.intro T.k43 T.k42)) (And.intro T.k39 (And.intro T.k45 T.k47))))))) Try.ntmps19)
theorem RMsg827 : type_of% (And.intro (And.intro (And.intro (And.intro (And.intro @Try.underlying5 (And.intro T.c5 T.g5)) (And.intro (And.intro T.b5 T.z5) (And.intro @Try.underlying28 T.c28))) (And.intro (And.intro (And.intro T.g28 T.b28) (And.intro T.z28 T.s28)) (And.intro (And.intro @Try.underlying32 T.c32) (And.intro T.g32 T.b32)))) (And.intro (And.intro (And.intro T.z32 (And.intro @Try.underlying98 T.c98)) (And.intro (And.intro T.g98 T.b98) (And.intro T.z98 T.p98))) (And.intro (And.intro (And.intro @Try.underlying145 T.c145) (And.intro T.g145 T.b145)) (And.intro (And.intro T.z145 T.h145) (And.intro T.k55 T.k56))))) Try.ntmps27) :=
  (And.intro (And.intro (And.intro (And.intro (And.intro @Try.underlying5 (And.intro T.c5 T.g5)) (And.intro (And.intro T.b5 T.z5) (And.intro @Try.underlying28 T.c28))) (And.intro (And.intro (And.intro T.g28 T.b28) (And.intro T.z28 T.s28)) (And.intro (And.intro @Try.underlying32 T.c32) (And.intro T.g32 T.b32)))) (And.intro (And.intro (And.intro T.z32 (And.intro @Try.underlying98 T.c98)) (And.intro (And.intro T.g98 T.b98) (And.intro T.z98 T.p98))) (And.intro (And.intro (And.intro @Try.underlying145 T.c145) (And.intro T.g145 T.b145)) (And.intro (And.intro T.z145 T.h145) (And.intro T.k55 T.k56))))) Try.ntmps27)

variable {Γ : Nat → List AV}

def CommitV.octets (c : CommitV) : List UInt8 := if c.right then c.text else []
def CommitV.contents (c : CommitV) : List UInt8 := if c.right then c.content else []

set_option maxHeartbeats 8000000 in
set_option maxRecDepth 100000 in
theorem content_calls (c : CommitV) (hf : CommitV.fits c) (hw : c.wf) (s : AS) : ACalls Try.prog Γ 19 [.agg c.cells] s (fun r s' => r = .tup [bytesV (CommitV.contents c) .any, .v (.bool (decide c.right))] ∧ s' = s) := by
  refine acalls_body Try.func19 rfl Try.ntmps19 Try.results19 (by simp) ?_
  have hri := fun s => mright_calls (Γ := Γ) c hf s
  by_cases hr : c.right
  · rw [show CommitV.contents c = c.content from if_pos hr]
    rw [decide_eq_true hr] at hri ⊢
    have hcl := CommitV.content_len hr
    obtain ⟨w1, w2, w3⟩ := hw
    obtain ⟨r1, r2, r3, r4, r5, r6, r7, r8⟩ := hr
    obtain ⟨g, e, sd, ps, hp, pa, cf, mb⟩ := c
    simp only at w1 w2 w3 r1 r2 r3 r4 r5 r6 r7 r8
    have hpath : hp = true → pa.right := r6.1
    clear r6
    have htail : CommitV.tail ⟨g, e, sd, ps, hp, pa, cf, mb⟩ = if hp then be 1 1 ++ pa.text else be 1 0 := rfl
    obtain ⟨C, hC⟩ : ∃ C, C = CommitV.content ⟨g, e, sd, ps, hp, pa, cf, mb⟩ := ⟨_, rfl⟩
    rw [← hC] at hcl ⊢
    have hCe : C = be 1 1 ++ (txt 1 g ++ (be 8 e.toNat ++ (be 1 sd.toNat ++ (be 1 ps.length ++ (flatT PropV.text ps ++ CommitV.tail ⟨g, e, sd, ps, hp, pa, cf, mb⟩))))) := hC
    clear hC
    rw [htail] at hCe
    clear htail
    have hfl : ∀ i, (flatT PropV.text (ps.take i)).length ≤ 640 := by
      intro i
      have h1 := flatT_len (f := PropV.text) (n := 40) (l := ps.take i) fun y hy => PropV.text_len (r1 y (List.mem_of_mem_take hy))
      have h2 : (ps.take i).length ≤ 16 := by rw [List.length_take]; omega
      have h3 : (ps.take i).length * 40 ≤ 16 * 40 := Nat.mul_le_mul_right _ h2
      omega
    obtain ⟨pa2, hpa2⟩ : ∃ q, q = pa := ⟨_, rfl⟩
    obtain ⟨pk, pp, pst⟩ := pa
    have hu : iconv .u64 e = ((e.toNat : Nat) : Int) := by rw [← u64_conv (n := e.toNat) (by omega)]; congr 1; omega
    have hrow := fun i (h : i < ps.length) => row_at (c := PropV.cells) (k := 5) (fun _ => rfl) h
    have hpc : PathV.cells pa2 = [.v (.int .u64 pk), .sl 1 pp.length (pp.map byteV) .any, .sl 2 pst.length (rowC StepV.cells pst) .any] := by rw [hpa2]; rfl
    unfold CommitV.cells at hri ⊢
    simp only at hri ⊢
    rw [← hpa2] at w2 hpath hCe
    clear hpa2
    generalize hX : rowC StepV.cells pst = X at *
    generalize hZ : rowC PropV.cells ps = Z at *
    refine awp_reg_frz 1 (by simp [dsts]) ?_
    intro K hK
    simp only [↓AXq_nil, ↓AXq_cons, pval, DX, Nat.reduceBEq, ↓DN, UP, DF, qSh, qCv, qIA, qIx, qSl, qBu, qCe, qOn, reduceCtorEq, ↓reduceIte, nLT, nLE, nEQ, nAdd, nMul, nPow, nSub, zLT, zLE, zNat, RMsg819]
    intro o ho
    refine hK _ _ o _ (by simp only [upd, nEQ, ↓reduceIte]) ho ?_
    clear hK K ho
    refine awp_seq_k ?_
    intro K hK
    refine awp_reg_seq ?_
    intro K hK
    simp only [↓DN, UP, DF, qSh, qCv, qIA, qIx, qSl, qBu, qCe, qOn, reduceCtorEq, ↓reduceIte, nLT, nLE, nEQ, nAdd, nMul, nPow, nSub, zLT, zLE, zNat, RMsg819]
    refine acallk (hri _) ?_
    rintro r s1 ⟨rfl, rfl⟩
    simp only [↓AXq_nil, ↓AXq_cons, pval, DX, Nat.reduceBEq, ↓DN, UP, DF, qSh, qCv, qIA, qIx, qSl, qBu, qCe, qOn, reduceCtorEq, ↓reduceIte, nLT, nLE, nEQ, nAdd, nMul, nPow, nSub, zLT, zLE, zNat, RMsg819]
    refine hK _ _ ?_
    clear hK K
    refine awp_cond_k ?_
    intro X Y hX hY
    simp only [↓DN, UP, DF, qSh, qCv, qIA, qIx, qSl, qBu, qCe, qOn, reduceCtorEq, ↓reduceIte, nLT, nLE, nEQ, nAdd, nMul, nPow, nSub, zLT, zLE, zNat, RMsg819, DB]
    refine hY ?_
    clear hX hY X Y
    refine awp_skip ?_
    refine hK _ _ ?_
    clear hK K
    refine awp_reg_seq ?_
    intro K hK
    simp only [↓DN, UP, DF, qSh, qCv, qIA, qIx, qSl, qBu, qCe, qOn, reduceCtorEq, ↓reduceIte, nLT, nLE, nEQ, nAdd, nMul, nPow, nSub, zLT, zLE, zNat, RMsg819]
    refine acallk (new_calls s1) ?_
    rintro r s2 ⟨p, rfl, h0⟩
    simp only [↓AXq_nil, ↓AXq_cons, pval, DX, Nat.reduceBEq, ↓DN, UP, DF, qSh, qCv, qIA, qIx, qSl, qBu, qCe, qOn, reduceCtorEq, ↓reduceIte, nLT, nLE, nEQ, nAdd, nMul, nPow, nSub, zLT, zLE, zNat, RMsg819]
    refine hK _ _ ?_
    clear hK K
    refine awp_reg_seq ?_
    intro K hK
    simp only [↓DN, UP, DF, qSh, qCv, qIA, qIx, qSl, qBu, qCe, qOn, reduceCtorEq, ↓reduceIte, nLT, nLE, nEQ, nAdd, nMul, nPow, nSub, zLT, zLE, zNat, RMsg819]
    refine acallk (penU8_calls s1 s2 p _ 1 (by omega) (by simp) h0) ?_
    rintro r s3 ⟨rfl, h1⟩
    rw [small_nat (by omega) (by omega)] at h1
    simp only [↓AXq_nil, ↓AXq_cons, pval, DX, Nat.reduceBEq, ↓DN, UP, DF, qSh, qCv, qIA, qIx, qSl, qBu, qCe, qOn, reduceCtorEq, ↓reduceIte, nLT, nLE, nEQ, nAdd, nMul, nPow, nSub, zLT, zLE, zNat, RMsg819]
    refine hK _ _ ?_
    clear hK K
    refine awp_reg_seq ?_
    intro K hK
    simp only [↓DN, UP, DF, qSh, qCv, qIA, qIx, qSl, qBu, qCe, qOn, reduceCtorEq, ↓reduceIte, nLT, nLE, nEQ, nAdd, nMul, nPow, nSub, zLT, zLE, zNat, RMsg819]
    refine acallk (penShort_calls s1 s3 p _ _ g (IsB.any g) (by have := penRaw_len (be 1 (1 : Int).toNat) ([], false); simp at this ⊢; omega) h1) ?_
    rintro r s4 ⟨rfl, h2⟩
    rw [text_raw (by omega), penRaw_raw] at h2
    have l2 := penRaw_len (be 1 (1 : Int).toNat ++ txt 1 g) ([], false)
    rw [List.length_append, length_be, txt_len] at l2
    simp only [List.length_nil] at l2
    simp only [↓AXq_nil, ↓AXq_cons, pval, DX, Nat.reduceBEq, ↓DN, UP, DF, qSh, qCv, qIA, qIx, qSl, qBu, qCe, qOn, reduceCtorEq, ↓reduceIte, nLT, nLE, nEQ, nAdd, nMul, nPow, nSub, zLT, zLE, zNat, RMsg819]
    refine hK _ _ ?_
    clear hK K
    refine awp_reg_seq ?_
    intro K hK
    simp only [↓DN, UP, DF, qSh, qCv, qIA, qIx, qSl, qBu, qCe, qOn, reduceCtorEq, ↓reduceIte, nLT, nLE, nEQ, nAdd, nMul, nPow, nSub, zLT, zLE, zNat, RMsg819, hu]
    refine acallk (penU64_calls s1 s4 p _ e.toNat (by omega) (by omega) h2) ?_
    rintro r s5 ⟨rfl, h3⟩
    rw [penNum_raw, penRaw_raw] at h3
    have l3 := penRaw_len (be 1 (1 : Int).toNat ++ txt 1 g ++ be 8 e.toNat) ([], false)
    rw [List.length_append, List.length_append, length_be, length_be, txt_len] at l3
    simp only [List.length_nil] at l3
    simp only [↓AXq_nil, ↓AXq_cons, pval, DX, Nat.reduceBEq, ↓DN, UP, DF, qSh, qCv, qIA, qIx, qSl, qBu, qCe, qOn, reduceCtorEq, ↓reduceIte, nLT, nLE, nEQ, nAdd, nMul, nPow, nSub, zLT, zLE, zNat, RMsg819]
    refine hK _ _ ?_
    clear hK K
    refine awp_reg_seq ?_
    intro K hK
    simp only [↓DN, UP, DF, qSh, qCv, qIA, qIx, qSl, qBu, qCe, qOn, reduceCtorEq, ↓reduceIte, nLT, nLE, nEQ, nAdd, nMul, nPow, nSub, zLT, zLE, zNat, RMsg819]
    refine acallk (penU8_calls s1 s5 p _ sd (by omega) (by omega) h3) ?_
    rintro r s6 ⟨rfl, h4⟩
    rw [small_nat r4.1 (by omega), penRaw_raw] at h4
    have l4 := penRaw_len (be 1 (1 : Int).toNat ++ txt 1 g ++ be 8 e.toNat ++ be 1 sd.toNat) ([], false)
    rw [List.length_append, List.length_append, List.length_append, length_be, length_be, length_be, txt_len] at l4
    simp only [List.length_nil] at l4
    simp only [↓AXq_nil, ↓AXq_cons, pval, DX, Nat.reduceBEq, ↓DN, UP, DF, qSh, qCv, qIA, qIx, qSl, qBu, qCe, qOn, reduceCtorEq, ↓reduceIte, nLT, nLE, nEQ, nAdd, nMul, nPow, nSub, zLT, zLE, zNat, RMsg819]
    refine hK _ _ ?_
    clear hK K
    refine awp_reg_seq ?_
    intro K hK
    simp only [↓DN, UP, DF, qSh, qCv, qIA, qIx, qSl, qBu, qCe, qOn, reduceCtorEq, ↓reduceIte, nLT, nLE, nEQ, nAdd, nMul, nPow, nSub, zLT, zLE, zNat, RMsg819]
    refine acallk (penU8_calls s1 s6 p _ (ps.length : Int) (by omega) (by omega) h4) ?_
    rintro r s7 ⟨rfl, h5⟩
    rw [penSmall_raw (by omega), penRaw_raw] at h5
    obtain ⟨st5, hst5⟩ : ∃ q, q = penRaw (be 1 (1 : Int).toNat ++ txt 1 g ++ be 8 e.toNat ++ be 1 sd.toNat ++ be 1 ps.length) ([], false) := ⟨_, rfl⟩
    have l5 := penRaw_len (be 1 (1 : Int).toNat ++ txt 1 g ++ be 8 e.toNat ++ be 1 sd.toNat ++ be 1 ps.length) ([], false)
    rw [List.length_append, List.length_append, List.length_append, List.length_append, length_be, length_be, length_be, length_be, txt_len, ← hst5] at l5
    simp only [List.length_nil] at l5
    rw [← hst5] at h5
    clear h1 h2 h3 h4 l2 l3 l4 h0
    simp only [↓AXq_nil, ↓AXq_cons, pval, DX, Nat.reduceBEq, ↓DN, UP, DF, qSh, qCv, qIA, qIx, qSl, qBu, qCe, qOn, reduceCtorEq, ↓reduceIte, nLT, nLE, nEQ, nAdd, nMul, nPow, nSub, zLT, zLE, zNat, RMsg819]
    refine hK _ _ ?_
    clear hK K
    refine awp_seq_k ?_
    intro K hK
    refine awp_reg_seq ?_
    intro K hK
    simp only [↓DN, UP, DF, qSh, qCv, qIA, qIx, qSl, qBu, qCe, qOn, reduceCtorEq, ↓reduceIte, nLT, nLE, nEQ, nAdd, nMul, nPow, nSub, zLT, zLE, zNat, RMsg819]
    refine hK _ _ ?_
    clear hK K
    refine awp_block ?_
    refine awp_loop (fun E s8 => ∃ i : Nat, i ≤ ps.length ∧ E 34 = .v (.int .i64 i) ∧ E 33 = .v (.int .i64 ps.length) ∧ E 32 = .sl 5 ps.length Z .any ∧ E 4 = .ptr p 0 ∧ E 1 = .rop [.sl 1 g.length (g.map byteV) .any, .v (.int .i64 e), .v (.int .i64 sd), .sl 5 ps.length Z .any, .v (.bool hp), .v (.int .u64 pk), .sl 1 pp.length (pp.map byteV) .any, .sl 2 pst.length X .any, .sl 1 cf.length (cf.map byteV) .any, .sl 1 mb.length (mb.map byteV) .any] ∧ PenS s1 s8 p (penRaw (flatT PropV.text (ps.take i)) st5))
      (fun E _ => match E 34 with | .v (.int _ i) => ps.length - i.toNat | _ => 0) ?_ ?_
    · exact ⟨0, Nat.zero_le _, by simp only [upd, ↓reduceIte]; rfl, by simp only [upd, nEQ, ↓reduceIte], by simp only [upd, nEQ, ↓reduceIte], by simp only [upd, nEQ, ↓reduceIte], by simp only [upd, nEQ, ↓reduceIte], by simpa [flatT, penRaw_nil] using h5⟩
    · clear h5
      rintro E1 s8 ⟨i, hi, g8, g7, g6, g4, g1, h⟩ -
      by_cases hi' : i < ps.length
      · refine awp_reg_seq ?_
        intro K hK
        simp only [↓DN, UP, DF, qSh, qCv, qIA, qIx, qSl, qBu, qCe, qOn, reduceCtorEq, ↓reduceIte, nLT, nLE, nEQ, nAdd, nMul, nPow, nSub, zLT, zLE, zNat, RMsg819, g8, g7, eye_lt_nat, decide_eq_true hi']
        refine hK _ _ ?_
        clear hK K
        refine awp_seq_k ?_
        intro K3 hK3
        refine awp_cond_k ?_
        intro X Y hX hY
        simp only [↓DN, UP, DF, qSh, qCv, qIA, qIx, qSl, qBu, qCe, qOn, reduceCtorEq, ↓reduceIte, nLT, nLE, nEQ, nAdd, nMul, nPow, nSub, zLT, zLE, zNat, RMsg819, DB]
        refine hX ?_
        clear hX hY X Y
        refine awp_skip ?_
        refine hK3 _ _ ?_
        clear hK3 K3
        refine awp_seq_k ?_
        intro K3 hK3
        refine awp_block ?_
        have hat := hrow i hi'
        have hge : (0 : Int) ≤ (i : Int) := by omega
        have hft := flatT_take PropV.text hi'
        have hfl1 := hfl i
        have lst := penRaw_len (flatT PropV.text (ps.take i)) st5
        obtain ⟨y, hy⟩ : ∃ y, y = ps[i] := ⟨_, rfl⟩
        rw [← hy] at hat hft
        have hym : y ∈ ps := by rw [hy]; exact List.getElem_mem hi'
        have hst := fun s => writeProp_calls (Γ := Γ) s1 s p (penRaw (flatT PropV.text (ps.take i)) st5) y (w1 y hym) (r1 y hym) (by omega)
        clear hy
        obtain ⟨pk1, pk2, pk3, pk4, pk5⟩ := y
        unfold PropV.cells at hat hst
        refine awp_reg_frz 6 (by simp [dsts]) ?_
        intro K2 hK2
        simp only [↓AXq_nil, ↓AXq_cons, pval, DX, Nat.reduceBEq, ↓DN, UP, DF, qSh, qCv, qIA, qIx, qSl, qBu, qCe, qOn, reduceCtorEq, ↓reduceIte, nLT, nLE, nEQ, nAdd, nMul, nPow, nSub, zLT, zLE, zNat, RMsg819, g8, g6, eye_lt_nat, hi', hge, hat]
        intro o ho
        refine hK2 _ _ o _ (by simp only [upd, nEQ, ↓reduceIte]) ho ?_
        clear hK2 K2 ho
        refine awp_reg_end ?_
        intro K hK
        simp only [↓DN, UP, DF, qSh, qCv, qIA, qIx, qSl, qBu, qCe, qOn, reduceCtorEq, ↓reduceIte, nLT, nLE, nEQ, nAdd, nMul, nPow, nSub, zLT, zLE, zNat, RMsg819, g4]
        refine acallk (hst _ h) ?_
        rintro r s9 ⟨rfl, h9⟩
        rw [penRaw_raw, ← hft] at h9
        simp only [↓AXq_nil, ↓AXq_cons, pval, DX, Nat.reduceBEq, ↓DN, UP, DF, qSh, qCv, qIA, qIx, qSl, qBu, qCe, qOn, reduceCtorEq, ↓reduceIte, nLT, nLE, nEQ, nAdd, nMul, nPow, nSub, zLT, zLE, zNat, RMsg819]
        refine hK _ _ ?_
        clear hK K
        simp only [blockQ, thenQ, if_true, if_false]
        refine hK3 _ _ ?_
        clear hK3 K3
        refine awp_reg_end ?_
        intro K hK
        simp only [↓DN, UP, DF, qSh, qCv, qIA, qIx, qSl, qBu, qCe, qOn, reduceCtorEq, ↓reduceIte, nLT, nLE, nEQ, nAdd, nMul, nPow, nSub, zLT, zLE, zNat, RMsg819, g8, eye_succ i (by omega)]
        refine hK _ _ ?_
        clear hK K
        refine ⟨⟨i + 1, by omega, by simp only [upd, ↓reduceIte], by simp only [upd, g7, nEQ, ↓reduceIte], by simp only [upd, g6, nEQ, ↓reduceIte], by simp only [upd, g4, nEQ, ↓reduceIte], by simp only [upd, g1, nEQ, ↓reduceIte], h9⟩, ?_⟩
        simp only [g8, upd, ↓reduceIte]
        omega
      · refine awp_reg_seq ?_
        intro K hK
        simp only [↓DN, UP, DF, qSh, qCv, qIA, qIx, qSl, qBu, qCe, qOn, reduceCtorEq, ↓reduceIte, nLT, nLE, nEQ, nAdd, nMul, nPow, nSub, zLT, zLE, zNat, RMsg819, g8, g7, eye_lt_nat, decide_eq_false hi']
        refine hK _ _ ?_
        clear hK K
        refine awp_seq_k ?_
        intro K3 hK3
        refine awp_cond_k ?_
        intro X Y hX hY
        simp only [↓DN, UP, DF, qSh, qCv, qIA, qIx, qSl, qBu, qCe, qOn, reduceCtorEq, ↓reduceIte, nLT, nLE, nEQ, nAdd, nMul, nPow, nSub, zLT, zLE, zNat, RMsg819, DB]
        refine hY ?_
        clear hX hY X Y
        refine awp_exit ?_
        simp only [thenQ, blockQ, if_true]
        refine hK _ _ ?_
        clear hK K hK3 K3
        have hfl1 := hfl ps.length
        have lst := penRaw_len (flatT PropV.text (ps.take ps.length)) st5
        rw [List.take_of_length_le (by omega)] at h
        rw [List.take_of_length_le (by omega)] at hfl1 lst
        refine awp_reg_seq ?_
        intro K hK
        simp only [↓DN, UP, DF, qSh, qCv, qIA, qIx, qSl, qBu, qCe, qOn, reduceCtorEq, ↓reduceIte, nLT, nLE, nEQ, nAdd, nMul, nPow, nSub, zLT, zLE, zNat, RMsg819, g4, g1]
        refine acallk (bit_calls hp _) ?_
        rintro r s9 ⟨rfl, rfl⟩
        simp only [↓AXq_nil, ↓AXq_cons, pval, DX, Nat.reduceBEq, ↓DN, UP, DF, qSh, qCv, qIA, qIx, qSl, qBu, qCe, qOn, reduceCtorEq, ↓reduceIte, nLT, nLE, nEQ, nAdd, nMul, nPow, nSub, zLT, zLE, zNat, RMsg819]
        refine acallk (penU8_calls s1 _ p _ _ (by split <;> omega) (by omega) h) ?_
        rintro r s10 ⟨rfl, h10⟩
        rw [small_nat (by split <;> omega) (by split <;> omega), penRaw_raw] at h10
        simp only [↓AXq_nil, ↓AXq_cons, pval, DX, Nat.reduceBEq, ↓DN, UP, DF, qSh, qCv, qIA, qIx, qSl, qBu, qCe, qOn, reduceCtorEq, ↓reduceIte, nLT, nLE, nEQ, nAdd, nMul, nPow, nSub, zLT, zLE, zNat, RMsg819]
        refine hK _ _ ?_
        clear hK K
        refine awp_seq_k ?_
        intro K hK
        cases hp with
        | false =>
          have hfin : penRaw (flatT PropV.text ps ++ be 1 (if false = true then (1 : Int) else 0).toNat) st5 = (C, false) := by
            rw [hst5, penRaw_raw, hCe]
            simp [penRaw]
          rw [hfin] at h10
          refine awp_reg_seq ?_
          intro K hK
          simp only [↓DN, UP, DF, qSh, qCv, qIA, qIx, qSl, qBu, qCe, qOn, reduceCtorEq, ↓reduceIte, nLT, nLE, nEQ, nAdd, nMul, nPow, nSub, zLT, zLE, zNat, RMsg819, g1]
          refine hK _ _ ?_
          clear hK K
          refine awp_cond_k ?_
          intro X Y hX hY
          simp only [↓DN, UP, DF, qSh, qCv, qIA, qIx, qSl, qBu, qCe, qOn, reduceCtorEq, ↓reduceIte, nLT, nLE, nEQ, nAdd, nMul, nPow, nSub, zLT, zLE, zNat, RMsg819, DB]
          refine hY ?_
          clear hX hY X Y
          refine awp_skip ?_
          refine hK _ _ ?_
          clear hK K
          refine awp_reg_seq ?_
          intro K hK
          simp only [↓DN, UP, DF, qSh, qCv, qIA, qIx, qSl, qBu, qCe, qOn, reduceCtorEq, ↓reduceIte, nLT, nLE, nEQ, nAdd, nMul, nPow, nSub, zLT, zLE, zNat, RMsg819, g4]
          refine acallk (penBytes_calls s1 s10 p _ (by simp only; omega) h10) ?_
          rintro r s11 ⟨rfl, rfl⟩
          simp only [↓AXq_nil, ↓AXq_cons, pval, DX, Nat.reduceBEq, ↓DN, UP, DF, qSh, qCv, qIA, qIx, qSl, qBu, qCe, qOn, reduceCtorEq, ↓reduceIte, nLT, nLE, nEQ, nAdd, nMul, nPow, nSub, zLT, zLE, zNat, RMsg819]
          refine hK _ _ ?_
          clear hK K
          refine awp_ret ?_
          simp only [retQ, AEnds, aresL, ares, List.toList_toArray, ↓upd_same]; try simp only [↓DN, UP, DF, qSh, qCv, qIA, qIx, qSl, qBu, qCe, qOn, reduceCtorEq, ↓reduceIte, nLT, nLE, nEQ, nAdd, nMul, nPow, nSub, zLT, zLE, zNat, RMsg819, DT]
          exact ⟨_, s1, AV.weak.refl _, h10.le, rfl, rfl⟩
        | true =>
          have l10 := penRaw_len (flatT PropV.text ps ++ be 1 (if true = true then (1 : Int) else 0).toNat) st5
          rw [List.length_append, length_be] at l10
          have hpw := pathWrite_calls (Γ := Γ) s1 s10 p _ pa2 w2 (hpath rfl) (by omega) h10
          rw [hpc] at hpw
          have hfin : penRaw pa2.text (penRaw (flatT PropV.text ps ++ be 1 (if true = true then (1 : Int) else 0).toNat) st5) = (C, false) := by
            rw [hst5, penRaw_raw, penRaw_raw, hCe]
            simp [penRaw]
          rw [hfin] at hpw
          refine awp_reg_seq ?_
          intro K hK
          simp only [↓DN, UP, DF, qSh, qCv, qIA, qIx, qSl, qBu, qCe, qOn, reduceCtorEq, ↓reduceIte, nLT, nLE, nEQ, nAdd, nMul, nPow, nSub, zLT, zLE, zNat, RMsg819, g1]
          refine hK _ _ ?_
          clear hK K
          refine awp_cond_k ?_
          intro X Y hX hY
          simp only [↓DN, UP, DF, qSh, qCv, qIA, qIx, qSl, qBu, qCe, qOn, reduceCtorEq, ↓reduceIte, nLT, nLE, nEQ, nAdd, nMul, nPow, nSub, zLT, zLE, zNat, RMsg819, DB]
          refine hX ?_
          clear hX hY X Y
          refine awp_reg_end ?_
          intro K hK
          simp only [↓DN, UP, DF, qSh, qCv, qIA, qIx, qSl, qBu, qCe, qOn, reduceCtorEq, ↓reduceIte, nLT, nLE, nEQ, nAdd, nMul, nPow, nSub, zLT, zLE, zNat, RMsg819, g4, g1]
          refine acallk hpw ?_
          rintro r s11 ⟨rfl, h11⟩
          simp only [↓AXq_nil, ↓AXq_cons, pval, DX, Nat.reduceBEq, ↓DN, UP, DF, qSh, qCv, qIA, qIx, qSl, qBu, qCe, qOn, reduceCtorEq, ↓reduceIte, nLT, nLE, nEQ, nAdd, nMul, nPow, nSub, zLT, zLE, zNat, RMsg819]
          refine hK _ _ ?_
          clear hK K
          simp only [thenQ]
          refine hK _ _ ?_
          clear hK K
          refine awp_reg_seq ?_
          intro K hK
          simp only [↓DN, UP, DF, qSh, qCv, qIA, qIx, qSl, qBu, qCe, qOn, reduceCtorEq, ↓reduceIte, nLT, nLE, nEQ, nAdd, nMul, nPow, nSub, zLT, zLE, zNat, RMsg819, g4]
          refine acallk (penBytes_calls s1 s11 p _ (by simp only; omega) h11) ?_
          rintro r s12 ⟨rfl, rfl⟩
          simp only [↓AXq_nil, ↓AXq_cons, pval, DX, Nat.reduceBEq, ↓DN, UP, DF, qSh, qCv, qIA, qIx, qSl, qBu, qCe, qOn, reduceCtorEq, ↓reduceIte, nLT, nLE, nEQ, nAdd, nMul, nPow, nSub, zLT, zLE, zNat, RMsg819]
          refine hK _ _ ?_
          clear hK K
          refine awp_ret ?_
          simp only [retQ, AEnds, aresL, ares, List.toList_toArray, ↓upd_same]; try simp only [↓DN, UP, DF, qSh, qCv, qIA, qIx, qSl, qBu, qCe, qOn, reduceCtorEq, ↓reduceIte, nLT, nLE, nEQ, nAdd, nMul, nPow, nSub, zLT, zLE, zNat, RMsg819, DT]
          exact ⟨_, s1, AV.weak.refl _, h11.le, rfl, rfl⟩
  · rw [show CommitV.contents c = [] from if_neg hr]
    rw [decide_eq_false hr] at hri ⊢
    obtain ⟨g, e, sd, ps, hp, ⟨pk, pp, pst⟩, cf, mb⟩ := c
    unfold CommitV.cells at hri ⊢
    refine awp_reg_frz 1 (by simp [dsts]) ?_
    intro K hK
    simp only [↓AXq_nil, ↓AXq_cons, pval, DX, Nat.reduceBEq, ↓DN, UP, DF, qSh, qCv, qIA, qIx, qSl, qBu, qCe, qOn, reduceCtorEq, ↓reduceIte, nLT, nLE, nEQ, nAdd, nMul, nPow, nSub, zLT, zLE, zNat, RMsg819]
    intro o ho
    refine hK _ _ o _ (by simp only [upd, nEQ, ↓reduceIte]) ho ?_
    clear hK K ho
    refine awp_seq_k ?_
    intro K hK
    refine awp_reg_seq ?_
    intro K hK
    simp only [↓DN, UP, DF, qSh, qCv, qIA, qIx, qSl, qBu, qCe, qOn, reduceCtorEq, ↓reduceIte, nLT, nLE, nEQ, nAdd, nMul, nPow, nSub, zLT, zLE, zNat, RMsg819]
    refine acallk (hri _) ?_
    rintro r s1 ⟨rfl, rfl⟩
    simp only [↓AXq_nil, ↓AXq_cons, pval, DX, Nat.reduceBEq, ↓DN, UP, DF, qSh, qCv, qIA, qIx, qSl, qBu, qCe, qOn, reduceCtorEq, ↓reduceIte, nLT, nLE, nEQ, nAdd, nMul, nPow, nSub, zLT, zLE, zNat, RMsg819]
    refine hK _ _ ?_
    clear hK K
    refine awp_cond_k ?_
    intro X Y hX hY
    simp only [↓DN, UP, DF, qSh, qCv, qIA, qIx, qSl, qBu, qCe, qOn, reduceCtorEq, ↓reduceIte, nLT, nLE, nEQ, nAdd, nMul, nPow, nSub, zLT, zLE, zNat, RMsg819, DB]
    refine hX ?_
    clear hX hY X Y
    refine awp_reg_seq ?_
    intro K hK
    simp only [↓DN, UP, DF, qSh, qCv, qIA, qIx, qSl, qBu, qCe, qOn, reduceCtorEq, ↓reduceIte, nLT, nLE, nEQ, nAdd, nMul, nPow, nSub, zLT, zLE, zNat, RMsg819]
    refine hK _ _ ?_
    clear hK K
    refine awp_ret ?_
    try simp only [thenQ, blockQ]
    simp only [retQ, AEnds, aresL, ares, List.toList_toArray, ↓upd_same]; try simp only [↓DN, UP, DF, qSh, qCv, qIA, qIx, qSl, qBu, qCe, qOn, reduceCtorEq, ↓reduceIte, nLT, nLE, nEQ, nAdd, nMul, nPow, nSub, zLT, zLE, zNat, RMsg819, DT]
    exact ⟨_, _, AV.weak_tup2 AV.weak_nil (AV.weak.refl _), AS.le.refl _, rfl, rfl⟩

theorem kind_calls (b : List UInt8) (hb : b.length ≤ 2 ^ 44) (s : AS) : ACalls Try.prog Γ 27 [bytesV b .any] s (fun r s' => r = .v (.int .i64 (eyeNum 1 (b, 0)).1) ∧ s' = s) := by
  refine acalls_body Try.func27 rfl Try.ntmps27 Try.results27 (by simp) ?_
  refine awp_reg_seq ?_
  intro K hK
  simp only [↓DN, UP, DF, qSh, qCv, qIA, qIx, qSl, qBu, qCe, qOn, reduceCtorEq, ↓reduceIte, nLT, nLE, nEQ, nAdd, nMul, nPow, nSub, zLT, zLE, zNat, RMsg827]
  refine hK _ _ ?_
  clear hK K
  refine awp_reg_seq ?_
  intro K hK
  simp only [↓DN, UP, DF, qSh, qCv, qIA, qIx, qSl, qBu, qCe, qOn, reduceCtorEq, ↓reduceIte, nLT, nLE, nEQ, nAdd, nMul, nPow, nSub, zLT, zLE, zNat, RMsg827]
  refine acallk (open_set b _ (by omega)) ?_
  rintro r s1 ⟨p, hp, rfl, rfl⟩
  simp only [↓AXq_nil, ↓AXq_cons, pval, DX, Nat.reduceBEq, ↓DN, UP, DF, qSh, qCv, qIA, qIx, qSl, qBu, qCe, qOn, reduceCtorEq, ↓reduceIte, nLT, nLE, nEQ, nAdd, nMul, nPow, nSub, zLT, zLE, zNat, RMsg827]
  refine acallk (eyeU8_set _ p (b, 0) (AS.set_objs_same _ _ _)) ?_
  rintro r s' ⟨rfl, rfl⟩
  simp only [↓AXq_nil, ↓AXq_cons, pval, DX, Nat.reduceBEq, ↓DN, UP, DF, qSh, qCv, qIA, qIx, qSl, qBu, qCe, qOn, reduceCtorEq, ↓reduceIte, nLT, nLE, nEQ, nAdd, nMul, nPow, nSub, zLT, zLE, zNat, RMsg827]
  refine hK _ _ ?_
  clear hK K
  refine awp_ret ?_
  simp only [retQ, AEnds, aresL, ares, List.toList_toArray, ↓upd_same]; try simp only [↓DN, UP, DF, qSh, qCv, qIA, qIx, qSl, qBu, qCe, qOn, reduceCtorEq, ↓reduceIte, nLT, nLE, nEQ, nAdd, nMul, nPow, nSub, zLT, zLE, zNat, RMsg827, DT]
  exact ⟨_, s, AV.weak.refl _, AS.le_set (AS.le.refl s) hp _, rfl, rfl⟩

end Go.Proofs.Ytcnilmidfhpckaa


