/- Contracts of the program's functions, each walked once; the conditions stand in each theorem. -/
import Derived.Test.YtcnilmidfhpckaaAMp6
import Derived.Test.YtcnilmidfhpckaaW4
set_option linter.unusedSimpArgs false
set_option linter.unusedVariables false
open Nat renaming reduceLT → nLT, reduceLeDiff → nLE, reduceEqDiff → nEQ, reduceAdd → nAdd, reduceMul → nMul, reducePow → nPow, reduceSub → nSub
open Int renaming reduceLT → zLT, reduceLE → zLE, reduceToNat → zNat
open Go.AM renaming ashift → qSh, aconv → qCv, aindexAddr → qIA, aindex → qIx, aslice → qSl, abuiltin → qBu
open Go.AM.AV renaming cells → qCe, one → qOn
set_option autoImplicit false
namespace Go.Proofs.Ytcnilmidfhpckaa
open Go Go.AM Go.Proofs

theorem RMsg918 : type_of% (And.intro (And.intro (And.intro (And.intro (And.intro (And.intro (And.intro @Try.underlying3 T.c3) (And.intro T.g3 T.b3)) (And.intro (And.intro T.z3 @Try.underlying4) (And.intro T.c4 (And.intro T.g4 T.b4)))) (And.intro (And.intro (And.intro T.z4 @Try.underlying5) (And.intro T.c5 T.g5)) (And.intro (And.intro T.b5 T.z5) (And.intro @Try.underlying28 (And.intro T.c28 T.g28))))) (And.intro (And.intro (And.intro (And.intro T.b28 T.z28) (And.intro T.s28 @Try.underlying41)) (And.intro (And.intro T.c41 T.g41) (And.intro T.b41 (And.intro T.z41 T.s41)))) (And.intro (And.intro (And.intro @Try.underlying42 T.c42) (And.intro T.g42 (And.intro T.b42 T.z42))) (And.intro (And.intro @Try.underlying43 T.c43) (And.intro T.g43 (And.intro T.b43 T.z43)))))) (And.intro (And.intro (And.intro (And.intro (And.intro T.s43 @Try.underlying45) (And.intro T.c45 T.g45)) (And.intro (And.intro T.b45 T.z45) (And.intro T.h45 (And.intro @Try.underlying47 T.c47)))) (And.intro (And.intro (And.intro T.g47 T.b47) (And.intro T.z47 (And.intro T.h47 @Try.underlying80))) (And.intro (And.intro T.c80 T.g80) (And.intro T.b80 (And.intro T.z80 T.h80))))) (And.intro (And.intro (And.intro (And.intro @Try.underlying86 T.c86) (And.intro T.g86 T.b86)) (And.intro (And.intro T.z86 T.p86) (And.intro @Try.underlying137 (And.intro T.c137 T.g137)))) (And.intro (And.intro (And.intro T.b137 T.z137) (And.intro T.h137 (And.intro T.f47_6 T.f47_7))) (And.intro (And.intro T.k40 T.k19) (And.intro T.k41 (And.intro T.k42 T.k39))))))) Try.ntmps18) :=
  (And.intro (And.intro (And.intro (And.intro (And.intro (And.intro (And.intro @Try.underlying3 T.c3) (And.intro T.g3 T.b3)) (And.intro (And.intro T.z3 @Try.underlying4) (And.intro T.c4 (And.intro T.g4 T.b4)))) (And.intro (And.intro (And.intro T.z4 @Try.underlying5) (And.intro T.c5 T.g5)) (And.intro (And.intro T.b5 T.z5) (And.intro @Try.underlying28 (And.intro T.c28 T.g28))))) (And.intro (And.intro (And.intro (And.intro T.b28 T.z28) (And.intro T.s28 @Try.underlying41)) (And.intro (And.intro T.c41 T.g41) (And.intro T.b41 (And.intro T.z41 T.s41)))) (And.intro (And.intro (And.intro @Try.underlying42 T.c42) (And.intro T.g42 (And.intro T.b42 T.z42))) (And.intro (And.intro @Try.underlying43 T.c43) (And.intro T.g43 (And.intro T.b43 T.z43)))))) (And.intro (And.intro (And.intro (And.intro (And.intro T.s43 @Try.underlying45) (And.intro T.c45 T.g45)) (And.intro (And.intro T.b45 T.z45) (And.intro T.h45 (And.intro @Try.underlying47 T.c47)))) (And.intro (And.intro (And.intro T.g47 T.b47) (And.intro T.z47 (And.intro T.h47 @Try.underlying80))) (And.intro (And.intro T.c80 T.g80) (And.intro T.b80 (And.intro T.z80 T.h80))))) (And.intro (And.intro (And.intro (And.intro @Try.underlying86 T.c86) (And.intro T.g86 T.b86)) (And.intro (And.intro T.z86 T.p86) (And.intro @Try.underlying137 (And.intro T.c137 T.g137)))) (And.intro (And.intro (And.intro T.b137 T.z137) (And.intro T.h137 (And.intro T.f47_6 T.f47_7))) (And.intro (And.intro T.k40 T.k19) (And.intro T.k41 (And.intro T.k42 T.k39))))))) Try.ntmps18)

variable {Γ : Nat → List AV}

set_option maxHeartbeats 4000000 in
set_option maxRecDepth 100000 in
theorem mwrite_calls (c : CommitV) (hf : CommitV.fits c) (hw : c.wf) (s : AS) : ACalls Try.prog Γ 18 [.agg c.cells] s (fun r s' => r = .tup [bytesV (CommitV.octets c) .any, .v (.bool (decide c.right))] ∧ s' = s) := by
  refine acalls_body Try.func18 rfl Try.ntmps18 Try.results18 (by simp) ?_
  have hcon := fun s => content_calls (Γ := Γ) c hf hw s
  by_cases hr : c.right
  · rw [show CommitV.octets c = c.text from if_pos hr]
    rw [decide_eq_true hr, show CommitV.contents c = c.content from if_pos hr] at hcon
    rw [decide_eq_true hr]
    have hcl := CommitV.content_len hr
    have htx : c.text = c.content ++ (txt 1 c.confirm ++ txt 1 c.member) := rfl
    generalize c.content = C at *
    generalize c.text = T at *
    obtain ⟨_, _, _, _, _, _, r7, r8⟩ := hr
    obtain ⟨g, e, sd, ps, hp, ⟨pk, pp, pst⟩, cf, mb⟩ := c
    simp only at r7 r8 htx
    unfold CommitV.cells at hcon ⊢
    refine awp_reg_frz 1 (by simp [dsts]) ?_
    intro K hK
    simp only [↓AXq_nil, ↓AXq_cons, pval, DX, Nat.reduceBEq, ↓DN, UP, DF, qSh, qCv, qIA, qIx, qSl, qBu, qCe, qOn, reduceCtorEq, ↓reduceIte, nLT, nLE, nEQ, nAdd, nMul, nPow, nSub, zLT, zLE, zNat, RMsg918]
    intro o ho
    refine hK _ _ o _ (by simp only [upd, nEQ, ↓reduceIte]) ho ?_
    clear hK K ho
    refine awp_reg_seq ?_
    intro K hK
    simp only [↓DN, UP, DF, qSh, qCv, qIA, qIx, qSl, qBu, qCe, qOn, reduceCtorEq, ↓reduceIte, nLT, nLE, nEQ, nAdd, nMul, nPow, nSub, zLT, zLE, zNat, RMsg918]
    refine acallk (hcon _) ?_
    rintro r s1 ⟨rfl, rfl⟩
    simp only [↓AXq_nil, ↓AXq_cons, pval, DX, Nat.reduceBEq, ↓DN, UP, DF, qSh, qCv, qIA, qIx, qSl, qBu, qCe, qOn, reduceCtorEq, ↓reduceIte, nLT, nLE, nEQ, nAdd, nMul, nPow, nSub, zLT, zLE, zNat, RMsg918]
    refine hK _ _ ?_
    clear hK K
    refine awp_seq_k ?_
    intro K hK
    refine awp_reg_seq ?_
    intro K hK
    simp only [↓DN, UP, DF, qSh, qCv, qIA, qIx, qSl, qBu, qCe, qOn, reduceCtorEq, ↓reduceIte, nLT, nLE, nEQ, nAdd, nMul, nPow, nSub, zLT, zLE, zNat, RMsg918]
    refine hK _ _ ?_
    clear hK K
    refine awp_cond_k ?_
    intro X Y hX hY
    simp only [↓DN, UP, DF, qSh, qCv, qIA, qIx, qSl, qBu, qCe, qOn, reduceCtorEq, ↓reduceIte, nLT, nLE, nEQ, nAdd, nMul, nPow, nSub, zLT, zLE, zNat, RMsg918, DB]
    refine hY ?_
    clear hX hY X Y
    refine awp_skip ?_
    refine hK _ _ ?_
    clear hK K
    refine awp_reg_seq ?_
    intro K hK
    simp only [↓DN, UP, DF, qSh, qCv, qIA, qIx, qSl, qBu, qCe, qOn, reduceCtorEq, ↓reduceIte, nLT, nLE, nEQ, nAdd, nMul, nPow, nSub, zLT, zLE, zNat, RMsg918]
    refine acallk (new_calls s1) ?_
    rintro r s2 ⟨p, rfl, h0⟩
    simp only [↓AXq_nil, ↓AXq_cons, pval, DX, Nat.reduceBEq, ↓DN, UP, DF, qSh, qCv, qIA, qIx, qSl, qBu, qCe, qOn, reduceCtorEq, ↓reduceIte, nLT, nLE, nEQ, nAdd, nMul, nPow, nSub, zLT, zLE, zNat, RMsg918]
    refine hK _ _ ?_
    clear hK K
    refine awp_reg_seq ?_
    intro K hK
    simp only [↓DN, UP, DF, qSh, qCv, qIA, qIx, qSl, qBu, qCe, qOn, reduceCtorEq, ↓reduceIte, nLT, nLE, nEQ, nAdd, nMul, nPow, nSub, zLT, zLE, zNat, RMsg918]
    refine acallk (penRaw_calls s1 s2 p _ _ C (IsB.any C) (by simp; omega) h0) ?_
    rintro r s3 ⟨rfl, h1⟩
    have l1 := penRaw_len C ([], false)
    simp only [List.length_nil] at l1
    simp only [↓AXq_nil, ↓AXq_cons, pval, DX, Nat.reduceBEq, ↓DN, UP, DF, qSh, qCv, qIA, qIx, qSl, qBu, qCe, qOn, reduceCtorEq, ↓reduceIte, nLT, nLE, nEQ, nAdd, nMul, nPow, nSub, zLT, zLE, zNat, RMsg918]
    refine hK _ _ ?_
    clear hK K
    refine awp_reg_seq ?_
    intro K hK
    simp only [↓DN, UP, DF, qSh, qCv, qIA, qIx, qSl, qBu, qCe, qOn, reduceCtorEq, ↓reduceIte, nLT, nLE, nEQ, nAdd, nMul, nPow, nSub, zLT, zLE, zNat, RMsg918]
    refine acallk (penShort_calls s1 s3 p _ _ cf (IsB.any cf) (by omega) h1) ?_
    rintro r s4 ⟨rfl, h2⟩
    rw [text_raw (by omega), penRaw_raw] at h2
    have l2 := penRaw_len (C ++ txt 1 cf) ([], false)
    rw [List.length_append, txt_len] at l2
    simp only [List.length_nil] at l2
    simp only [↓AXq_nil, ↓AXq_cons, pval, DX, Nat.reduceBEq, ↓DN, UP, DF, qSh, qCv, qIA, qIx, qSl, qBu, qCe, qOn, reduceCtorEq, ↓reduceIte, nLT, nLE, nEQ, nAdd, nMul, nPow, nSub, zLT, zLE, zNat, RMsg918]
    refine hK _ _ ?_
    clear hK K
    refine awp_reg_seq ?_
    intro K hK
    simp only [↓DN, UP, DF, qSh, qCv, qIA, qIx, qSl, qBu, qCe, qOn, reduceCtorEq, ↓reduceIte, nLT, nLE, nEQ, nAdd, nMul, nPow, nSub, zLT, zLE, zNat, RMsg918]
    refine acallk (penShort_calls s1 s4 p _ _ mb (IsB.any mb) (by omega) h2) ?_
    rintro r s5 ⟨rfl, h3⟩
    rw [text_raw (by omega), penRaw_raw] at h3
    have hfin : penRaw (C ++ txt 1 cf ++ txt 1 mb) ([], false) = (T, false) := by
      rw [htx]
      simp [penRaw]
    have hTl : T.length ≤ 13000 := by rw [htx]; simp [txt_len]; omega
    rw [hfin] at h3
    simp only [↓AXq_nil, ↓AXq_cons, pval, DX, Nat.reduceBEq, ↓DN, UP, DF, qSh, qCv, qIA, qIx, qSl, qBu, qCe, qOn, reduceCtorEq, ↓reduceIte, nLT, nLE, nEQ, nAdd, nMul, nPow, nSub, zLT, zLE, zNat, RMsg918]
    refine hK _ _ ?_
    clear hK K
    refine awp_reg_seq ?_
    intro K hK
    simp only [↓DN, UP, DF, qSh, qCv, qIA, qIx, qSl, qBu, qCe, qOn, reduceCtorEq, ↓reduceIte, nLT, nLE, nEQ, nAdd, nMul, nPow, nSub, zLT, zLE, zNat, RMsg918]
    refine acallk (penBytes_calls s1 s5 p _ (by simp only; omega) h3) ?_
    rintro r s6 ⟨rfl, rfl⟩
    simp only [↓AXq_nil, ↓AXq_cons, pval, DX, Nat.reduceBEq, ↓DN, UP, DF, qSh, qCv, qIA, qIx, qSl, qBu, qCe, qOn, reduceCtorEq, ↓reduceIte, nLT, nLE, nEQ, nAdd, nMul, nPow, nSub, zLT, zLE, zNat, RMsg918]
    refine hK _ _ ?_
    clear hK K
    refine awp_ret ?_
    simp only [retQ, AEnds, aresL, ares, List.toList_toArray, ↓upd_same]; try simp only [↓DN, UP, DF, qSh, qCv, qIA, qIx, qSl, qBu, qCe, qOn, reduceCtorEq, ↓reduceIte, nLT, nLE, nEQ, nAdd, nMul, nPow, nSub, zLT, zLE, zNat, RMsg918, DT]
    exact ⟨_, s1, AV.weak.refl _, h3.le, rfl, rfl⟩
  · rw [show CommitV.octets c = [] from if_neg hr]
    rw [decide_eq_false hr] at hcon ⊢
    obtain ⟨g, e, sd, ps, hp, ⟨pk, pp, pst⟩, cf, mb⟩ := c
    unfold CommitV.cells at hcon ⊢
    refine awp_reg_frz 1 (by simp [dsts]) ?_
    intro K hK
    simp only [↓AXq_nil, ↓AXq_cons, pval, DX, Nat.reduceBEq, ↓DN, UP, DF, qSh, qCv, qIA, qIx, qSl, qBu, qCe, qOn, reduceCtorEq, ↓reduceIte, nLT, nLE, nEQ, nAdd, nMul, nPow, nSub, zLT, zLE, zNat, RMsg918]
    intro o ho
    refine hK _ _ o _ (by simp only [upd, nEQ, ↓reduceIte]) ho ?_
    clear hK K ho
    refine awp_reg_seq ?_
    intro K hK
    simp only [↓DN, UP, DF, qSh, qCv, qIA, qIx, qSl, qBu, qCe, qOn, reduceCtorEq, ↓reduceIte, nLT, nLE, nEQ, nAdd, nMul, nPow, nSub, zLT, zLE, zNat, RMsg918]
    refine acallk (hcon _) ?_
    rintro r s1 ⟨rfl, rfl⟩
    simp only [↓AXq_nil, ↓AXq_cons, pval, DX, Nat.reduceBEq, ↓DN, UP, DF, qSh, qCv, qIA, qIx, qSl, qBu, qCe, qOn, reduceCtorEq, ↓reduceIte, nLT, nLE, nEQ, nAdd, nMul, nPow, nSub, zLT, zLE, zNat, RMsg918]
    refine hK _ _ ?_
    clear hK K
    refine awp_seq_k ?_
    intro K hK
    refine awp_reg_seq ?_
    intro K hK
    simp only [↓DN, UP, DF, qSh, qCv, qIA, qIx, qSl, qBu, qCe, qOn, reduceCtorEq, ↓reduceIte, nLT, nLE, nEQ, nAdd, nMul, nPow, nSub, zLT, zLE, zNat, RMsg918]
    refine hK _ _ ?_
    clear hK K
    refine awp_cond_k ?_
    intro X Y hX hY
    simp only [↓DN, UP, DF, qSh, qCv, qIA, qIx, qSl, qBu, qCe, qOn, reduceCtorEq, ↓reduceIte, nLT, nLE, nEQ, nAdd, nMul, nPow, nSub, zLT, zLE, zNat, RMsg918, DB]
    refine hX ?_
    clear hX hY X Y
    refine awp_reg_seq ?_
    intro K hK
    simp only [↓DN, UP, DF, qSh, qCv, qIA, qIx, qSl, qBu, qCe, qOn, reduceCtorEq, ↓reduceIte, nLT, nLE, nEQ, nAdd, nMul, nPow, nSub, zLT, zLE, zNat, RMsg918]
    refine hK _ _ ?_
    clear hK K
    refine awp_ret ?_
    try simp only [thenQ, blockQ]
    simp only [retQ, AEnds, aresL, ares, List.toList_toArray, ↓upd_same]; try simp only [↓DN, UP, DF, qSh, qCv, qIA, qIx, qSl, qBu, qCe, qOn, reduceCtorEq, ↓reduceIte, nLT, nLE, nEQ, nAdd, nMul, nPow, nSub, zLT, zLE, zNat, RMsg918, DT]
    exact ⟨_, _, AV.weak_tup2 AV.weak_nil (AV.weak.refl _), AS.le.refl _, rfl, rfl⟩

end Go.Proofs.Ytcnilmidfhpckaa


set_option autoImplicit false
namespace Go.Proofs.Ytcnilmidfhpckaa
open Go Go.AM Go.Proofs

theorem RMsg1016 : type_of% (And.intro (And.intro (And.intro (And.intro (And.intro (And.intro (And.intro @Try.underlying3 T.c3) (And.intro T.g3 T.b3)) (And.intro (And.intro T.z3 @Try.underlying4) (And.intro T.c4 T.g4))) (And.intro (And.intro (And.intro T.b4 T.z4) (And.intro @Try.underlying5 T.c5)) (And.intro (And.intro T.g5 T.b5) (And.intro T.z5 @Try.underlying28)))) (And.intro (And.intro (And.intro (And.intro T.c28 T.g28) (And.intro T.b28 T.z28)) (And.intro (And.intro T.s28 @Try.underlying41) (And.intro T.c41 T.g41))) (And.intro (And.intro (And.intro T.b41 T.z41) (And.intro T.s41 @Try.underlying42)) (And.intro (And.intro T.c42 T.g42) (And.intro T.b42 (And.intro T.z42 @Try.underlying43)))))) (And.intro (And.intro (And.intro (And.intro (And.intro T.c43 T.g43) (And.intro T.b43 T.z43)) (And.intro (And.intro T.s43 @Try.underlying45) (And.intro T.c45 T.g45))) (And.intro (And.intro (And.intro T.b45 T.z45) (And.intro T.h45 @Try.underlying47)) (And.intro (And.intro T.c47 T.g47) (And.intro T.b47 T.z47)))) (And.intro (And.intro (And.intro (And.intro T.h47 @Try.underlying80) (And.intro T.c80 T.g80)) (And.intro (And.intro T.b80 T.z80) (And.intro T.h80 T.f47_0))) (And.intro (And.intro (And.intro T.f47_1 T.f47_2) (And.intro T.f47_3 T.f47_4)) (And.intro (And.intro T.f47_5 T.f47_6) (And.intro T.f47_7 (And.intro T.k18 T.k27))))))) Try.ntmps16) :=
  (And.intro (And.intro (And.intro (And.intro (And.intro (And.intro (And.intro @Try.underlying3 T.c3) (And.intro T.g3 T.b3)) (And.intro (And.intro T.z3 @Try.underlying4) (And.intro T.c4 T.g4))) (And.intro (And.intro (And.intro T.b4 T.z4) (And.intro @Try.underlying5 T.c5)) (And.intro (And.intro T.g5 T.b5) (And.intro T.z5 @Try.underlying28)))) (And.intro (And.intro (And.intro (And.intro T.c28 T.g28) (And.intro T.b28 T.z28)) (And.intro (And.intro T.s28 @Try.underlying41) (And.intro T.c41 T.g41))) (And.intro (And.intro (And.intro T.b41 T.z41) (And.intro T.s41 @Try.underlying42)) (And.intro (And.intro T.c42 T.g42) (And.intro T.b42 (And.intro T.z42 @Try.underlying43)))))) (And.intro (And.intro (And.intro (And.intro (And.intro T.c43 T.g43) (And.intro T.b43 T.z43)) (And.intro (And.intro T.s43 @Try.underlying45) (And.intro T.c45 T.g45))) (And.intro (And.intro (And.intro T.b45 T.z45) (And.intro T.h45 @Try.underlying47)) (And.intro (And.intro T.c47 T.g47) (And.intro T.b47 T.z47)))) (And.intro (And.intro (And.intro (And.intro T.h47 @Try.underlying80) (And.intro T.c80 T.g80)) (And.intro (And.intro T.b80 T.z80) (And.intro T.h80 T.f47_0))) (And.intro (And.intro (And.intro T.f47_1 T.f47_2) (And.intro T.f47_3 T.f47_4)) (And.intro (And.intro T.f47_5 T.f47_6) (And.intro T.f47_7 (And.intro T.k18 T.k27))))))) Try.ntmps16)

variable {Γ : Nat → List AV}



def zero32 : List UInt8 := List.replicate 32 0
def c0 : CommitV := ⟨[103], 0, 0, [], false, ⟨0, [], []⟩, zero32, zero32⟩
theorem c0_right : c0.right := by decide +kernel
theorem c0_len : (CommitV.octets c0).length = 80 := by
  unfold CommitV.octets
  rw [if_pos c0_right]
  decide +kernel
theorem c0_kind : (eyeNum 1 (CommitV.octets c0, 0)).1 = 1 := by
  unfold CommitV.octets
  rw [if_pos c0_right]
  decide +kernel
theorem c0_fits : CommitV.fits c0 := ⟨by decide, by decide, (by intro x hx; cases hx)⟩
theorem c0_wf : c0.wf := ⟨(by intro x hx; cases hx), ⟨by decide, (by intro x hx; cases hx), by decide⟩, by decide⟩
theorem commit_weak {e sd : Int} {b : Bool} {k : Nat} {cs cm : List AV} {n m : Nat} {s1 s2 s3 : Sp} {ps : AV} (hp : ps.weak (.sl 5 m cm .any)) :
    (AV.agg [.sl 1 n cs s1, .v (.int .i64 e), .v (.int .i64 sd), ps, .v (.bool b), .v (.int .u64 k), .v (.slice none 0 0), .v (.slice none 0 0), .sl 1 32 (zero32.map byteV) s2, .sl 1 32 (zero32.map byteV) s3]).weak
      (.agg [.sl 1 n cs .any, .v (.int .i64 e), .v (.int .i64 sd), .sl 5 m cm .any, .v (.bool b), .v (.int .u64 k), .sl 1 0 [] .any, .sl 2 0 [] .any, .sl 1 32 (zero32.map byteV) .any, .sl 1 32 (zero32.map byteV) .any]) :=
  AV.weak_agg (.cons AV.weak_any (.cons (AV.weak.refl _) (.cons (AV.weak.refl _) (.cons hp (.cons (AV.weak.refl _) (.cons (AV.weak.refl _) (.cons AV.weak_nil (.cons AV.weak_nil (.cons AV.weak_any (.cons AV.weak_any .nil))))))))))

set_option maxHeartbeats 4000000 in
set_option maxRecDepth 100000 in
theorem awake23_calls (s : AS) : ACalls Try.prog Γ 16 [] s (fun r s' => r = .v (.bool true) ∧ s' = s) := by
  refine acalls_body Try.func16 rfl Try.ntmps16 Try.results16 (by simp) ?_
  have hc := fun s => mwrite_calls (Γ := Γ) c0 c0_fits c0_wf s
  rw [decide_eq_true c0_right] at hc
  have hk := fun s => kind_calls (Γ := Γ) (CommitV.octets c0) (by rw [c0_len]; decide) s
  rw [c0_kind] at hk
  have hl := c0_len
  generalize CommitV.octets c0 = tx at *
  unfold bytesV at hk
  rw [hl] at hk
  have hz : (List.replicate 32 (AV.v (.int .u8 0))) = zero32.map byteV := by rw [zero32, List.map_replicate]; rfl
  have hrep1 : ∀ x : AV, List.replicate 1 x = [x] := fun _ => rfl
  refine awp_reg_seq ?_
  intro K hK
  simp only [↓DN, UP, DF, qSh, qCv, qIA, qIx, qSl, qBu, qCe, qOn, reduceCtorEq, ↓reduceIte, nLT, nLE, nEQ, nAdd, nMul, nPow, nSub, zLT, zLE, zNat, RMsg1016]
  refine hK _ _ ?_
  clear hK K
  refine awp_drf_seq T.mixed [] [(2, 32), (3, 32)] [(5, .tup [bytesV tx .any, .v (.bool true)])] [] (by kernel_rfl) ?_
  intro K hK
  simp only [↓AXz_nil, ↓AXz_cons, ↓AGiv_call, glook_nil, glook_cons, glookN_nil, glookN_cons, noughtV, pval, DX, Nat.reduceBEq, List.toList_toArray, List.map_cons, List.map_nil, aeval, ↓DN, UP, DF, qSh, qCv, qIA, qIx, qSl, qBu, qCe, qOn, reduceCtorEq, ↓reduceIte, nLT, nLE, nEQ, nAdd, nMul, nPow, nSub, zLT, zLE, zNat, RMsg1016, hrep1, hz]
  refine agivk (fun s => ACalls.weaks (.cons (commit_weak (m := 0) (cm := []) AV.weak_nil) .nil) (hc s)) ?_
  refine hK _ _ ?_
  clear hK K
  refine awp_reg_seq ?_
  intro K hK
  simp only [↓DN, UP, DF, qSh, qCv, qIA, qIx, qSl, qBu, qCe, qOn, reduceCtorEq, ↓reduceIte, nLT, nLE, nEQ, nAdd, nMul, nPow, nSub, zLT, zLE, zNat, RMsg1016, hl, show (((80 : Nat) : Int) == 80) = true from rfl]
  refine acallk (hk _) ?_
  rintro r s1 ⟨rfl, rfl⟩
  simp only [↓AXq_nil, ↓AXq_cons, pval, ↓AXz_nil, ↓AXz_cons, ↓AGiv_call, glook_nil, glook_cons, glookN_nil, glookN_cons, noughtV, pval, DX, Nat.reduceBEq, List.toList_toArray, List.map_cons, List.map_nil, aeval, DX, Nat.reduceBEq, ↓DN, UP, DF, qSh, qCv, qIA, qIx, qSl, qBu, qCe, qOn, reduceCtorEq, ↓reduceIte, nLT, nLE, nEQ, nAdd, nMul, nPow, nSub, zLT, zLE, zNat, RMsg1016, show (((1 : Nat) : Int) == 1) = true from rfl]
  refine hK _ _ ?_
  clear hK K
  refine awp_ret ?_
  simp only [retQ, AEnds, aresL, ares, List.toList_toArray, ↓upd_same]; try simp only [↓DN, UP, DF, qSh, qCv, qIA, qIx, qSl, qBu, qCe, qOn, reduceCtorEq, ↓reduceIte, nLT, nLE, nEQ, nAdd, nMul, nPow, nSub, zLT, zLE, zNat, RMsg1016, DT]
  exact ⟨_, _, AV.weak.refl _, AS.le.refl _, rfl, rfl⟩

end Go.Proofs.Ytcnilmidfhpckaa


set_option autoImplicit false
namespace Go.Proofs.Ytcnilmidfhpckaa
open Go Go.AM Go.Proofs

theorem RMsg1153 : type_of% (And.intro (And.intro (And.intro (And.intro (And.intro (And.intro @Try.underlying3 (And.intro T.c3 T.g3)) (And.intro (And.intro T.b3 T.z3) (And.intro @Try.underlying5 T.c5))) (And.intro (And.intro (And.intro T.g5 T.b5) (And.intro T.z5 @Try.underlying9)) (And.intro (And.intro T.c9 T.g9) (And.intro T.b9 T.z9)))) (And.intro (And.intro (And.intro (And.intro @Try.underlying28 T.c28) (And.intro T.g28 T.b28)) (And.intro (And.intro T.z28 T.s28) (And.intro @Try.underlying42 T.c42))) (And.intro (And.intro (And.intro T.g42 T.b42) (And.intro T.z42 @Try.underlying43)) (And.intro (And.intro T.c43 T.g43) (And.intro T.b43 T.z43))))) (And.intro (And.intro (And.intro (And.intro (And.intro T.s43 @Try.underlying45) (And.intro T.c45 T.g45)) (And.intro (And.intro T.b45 T.z45) (And.intro T.h45 @Try.underlying81))) (And.intro (And.intro (And.intro T.c81 T.g81) (And.intro T.b81 T.z81)) (And.intro (And.intro T.s81 @Try.underlying83) (And.intro T.c83 T.g83)))) (And.intro (And.intro (And.intro (And.intro T.b83 T.z83) (And.intro T.h83 @Try.underlying85)) (And.intro (And.intro T.c85 T.g85) (And.intro T.b85 T.z85))) (And.intro (And.intro (And.intro T.h85 T.f45_0) (And.intro T.f45_1 T.f45_2)) (And.intro (And.intro T.f83_0 T.f83_1) (And.intro T.f85_0 T.f85_1)))))) Try.ntmps53) :=
  (And.intro (And.intro (And.intro (And.intro (And.intro (And.intro @Try.underlying3 (And.intro T.c3 T.g3)) (And.intro (And.intro T.b3 T.z3) (And.intro @Try.underlying5 T.c5))) (And.intro (And.intro (And.intro T.g5 T.b5) (And.intro T.z5 @Try.underlying9)) (And.intro (And.intro T.c9 T.g9) (And.intro T.b9 T.z9)))) (And.intro (And.intro (And.intro (And.intro @Try.underlying28 T.c28) (And.intro T.g28 T.b28)) (And.intro (And.intro T.z28 T.s28) (And.intro @Try.underlying42 T.c42))) (And.intro (And.intro (And.intro T.g42 T.b42) (And.intro T.z42 @Try.underlying43)) (And.intro (And.intro T.c43 T.g43) (And.intro T.b43 T.z43))))) (And.intro (And.intro (And.intro (And.intro (And.intro T.s43 @Try.underlying45) (And.intro T.c45 T.g45)) (And.intro (And.intro T.b45 T.z45) (And.intro T.h45 @Try.underlying81))) (And.intro (And.intro (And.intro T.c81 T.g81) (And.intro T.b81 T.z81)) (And.intro (And.intro T.s81 @Try.underlying83) (And.intro T.c83 T.g83)))) (And.intro (And.intro (And.intro (And.intro T.b83 T.z83) (And.intro T.h83 @Try.underlying85)) (And.intro (And.intro T.c85 T.g85) (And.intro T.b85 T.z85))) (And.intro (And.intro (And.intro T.h85 T.f45_0) (And.intro T.f45_1 T.f45_2)) (And.intro (And.intro T.f83_0 T.f83_1) (And.intro T.f85_0 T.f85_1)))))) Try.ntmps53)

variable {Γ : Nat → List AV}

theorem natNe {a b : Nat} (h : a ≠ b) : ((a : Int) != (b : Int)) = true := by simp only [bne_iff_ne, ne_eq]; omega
theorem natEq {a b : Nat} (h : a = b) : ((a : Int) != (b : Int)) = false := by subst h; simp
theorem listNe {a b : List UInt8} (h : a ≠ b) : (a != b) = true ∧ (!a == b) = true := ⟨by simpa using h, by simpa using h⟩
theorem listEq {a b : List UInt8} (h : a = b) : (a != b) = false ∧ (!a == b) = false := by subst h; simp
/-- Two rows are the same as far as they were looked at. -/
theorem take_eq {α : Type} {a b : List α} {i : Nat} (ha : i < a.length) (hb : i < b.length) (h : a.take i = b.take i) (he : a[i] = b[i]) : a.take (i + 1) = b.take (i + 1) := by
  rw [List.take_succ_eq_append_getElem ha, List.take_succ_eq_append_getElem hb, h, he]
theorem take_eq_full {α : Type} {a b : List α} {i : Nat} (hl : a.length = b.length) (ha : ¬ i < a.length) (h : a.take i = b.take i) : a = b := by
  rwa [List.take_of_length_le (by omega), List.take_of_length_le (by omega)] at h

set_option maxHeartbeats 8000000 in
set_option maxRecDepth 100000 in
theorem same21_calls (a b : PathV) (ha : a.wf) (s : AS) : ACalls Try.prog Γ 53 [.agg a.cells, .agg b.cells] s (fun r s' => r = .v (.bool (decide (a = b))) ∧ s' = s) := by
  refine acalls_body Try.func53 rfl Try.ntmps53 Try.results53 (by simp) ?_
  obtain ⟨k1, p1, l1⟩ := a
  obtain ⟨k2, p2, l2⟩ := b
  obtain ⟨_, hw, hl⟩ := ha
  simp only at hw hl
  unfold maxLen at hl
  unfold PathV.cells
  simp only
  have hrow1 := fun i (h : i < l1.length) => row_at (c := StepV.cells) (k := 2) (fun _ => rfl) h
  have hrow2 := fun i (h : i < l2.length) => row_at (c := StepV.cells) (k := 2) (fun _ => rfl) h
  generalize rowC StepV.cells l1 = X1 at *
  generalize rowC StepV.cells l2 = X2 at *
  refine awp_reg_frz2 2 3 (by decide) (by decide) (by decide) ?_
  intro K hK
  simp only [↓AXq_nil, ↓AXq_cons, pval, DX, Nat.reduceBEq, ↓DN, UP, DF, qSh, qCv, qIA, qIx, qSl, qBu, qCe, qOn, reduceCtorEq, ↓reduceIte, nLT, nLE, nEQ, nAdd, nMul, nPow, nSub, zLT, zLE, zNat, RMsg1153]
  intro o1 h1 o2 h2
  refine hK _ _ o1 o2 _ _ (by simp only [upd, nEQ, ↓reduceIte]) (by simp only [upd, nEQ, ↓reduceIte]) h1 (by rw [AS.set_objs_eq]; exact h2) ?_
  clear hK K h1 h2
  refine awp_seq_k ?_
  intro K hK
  by_cases hh : k1 = k2 ∧ p1 = p2 ∧ l1.length = l2.length
  · obtain ⟨rfl, rfl, hll⟩ := hh
    refine awp_reg_seq ?_
    intro K hK
    simp only [↓DN, UP, DF, qSh, qCv, qIA, qIx, qSl, qBu, qCe, qOn, reduceCtorEq, ↓reduceIte, nLT, nLE, nEQ, nAdd, nMul, nPow, nSub, zLT, zLE, zNat, RMsg1153, natEq (show k1 = k1 from rfl), listEq (show p1 = p1 from rfl), natEq hll]
    refine hK _ _ ?_
    clear hK K
    refine awp_cond_k ?_
    intro X Y hX hY
    simp only [↓DN, UP, DF, qSh, qCv, qIA, qIx, qSl, qBu, qCe, qOn, reduceCtorEq, ↓reduceIte, nLT, nLE, nEQ, nAdd, nMul, nPow, nSub, zLT, zLE, zNat, RMsg1153, DB]
    refine hY ?_
    clear hX hY X Y
    refine awp_skip ?_
    refine hK _ _ ?_
    clear hK K
    refine awp_seq_k ?_
    intro K hK
    refine awp_reg_seq ?_
    intro K hK
    simp only [↓DN, UP, DF, qSh, qCv, qIA, qIx, qSl, qBu, qCe, qOn, reduceCtorEq, ↓reduceIte, nLT, nLE, nEQ, nAdd, nMul, nPow, nSub, zLT, zLE, zNat, RMsg1153]
    refine hK _ _ ?_
    clear hK K
    refine awp_block ?_
    refine awp_loop (fun E s1 => ∃ i : Nat, i ≤ l1.length ∧ E 5 = .v (.int .i64 i) ∧ E 2 = .rop [.v (.int .u64 k1), .sl 1 p1.length (p1.map byteV) .any, .sl 2 l1.length X1 .any] ∧ E 3 = .rop [.v (.int .u64 k1), .sl 1 p1.length (p1.map byteV) .any, .sl 2 l2.length X2 .any] ∧ l1.take i = l2.take i ∧ s1 = s)
      (fun E _ => match E 5 with | .v (.int _ i) => l1.length - i.toNat | _ => 0) ?_ ?_
    · exact ⟨0, Nat.zero_le _, by simp only [upd, ↓reduceIte]; rfl, by simp only [upd, nEQ, ↓reduceIte], by simp only [upd, nEQ, ↓reduceIte], by simp, rfl⟩
    · rintro E1 s1 ⟨i, hi, g5, g2, g3, hall, rfl⟩ -
      refine awp_seq_k ?_
      intro K2 hK2
      by_cases hi' : i < l1.length
      · refine awp_reg_seq ?_
        intro K hK
        simp only [↓DN, UP, DF, qSh, qCv, qIA, qIx, qSl, qBu, qCe, qOn, reduceCtorEq, ↓reduceIte, nLT, nLE, nEQ, nAdd, nMul, nPow, nSub, zLT, zLE, zNat, RMsg1153, g5, g2, eye_lt_nat, decide_eq_true hi']
        refine hK _ _ ?_
        clear hK K
        refine awp_cond_k ?_
        intro X Y hX hY
        simp only [↓DN, UP, DF, qSh, qCv, qIA, qIx, qSl, qBu, qCe, qOn, reduceCtorEq, ↓reduceIte, nLT, nLE, nEQ, nAdd, nMul, nPow, nSub, zLT, zLE, zNat, RMsg1153, DB]
        refine hX ?_
        clear hX hY X Y
        refine awp_skip ?_
        refine hK2 _ _ ?_
        clear hK2 K2
        refine awp_seq_k ?_
        intro K3 hK3
        refine awp_block ?_
        have hi2 : i < l2.length := by omega
        have hat1 := hrow1 i hi'
        have hat2 := hrow2 i hi2
        have hge : (0 : Int) ≤ (i : Int) := by omega
        have hyes : l1[i] = l2[i] → l1.take (i + 1) = l2.take (i + 1) := take_eq hi' hi2 hall
        have hno : l1[i] ≠ l2[i] → decide ((⟨k1, p1, l1⟩ : PathV) = ⟨k1, p1, l2⟩) = false := fun h => decide_eq_false fun q => h (by simp only [PathV.mk.injEq, true_and] at q; subst q; rfl)
        have hsw := hw l1[i] (List.getElem_mem hi')
        generalize l1[i] = y1 at *
        generalize l2[i] = y2 at *
        obtain ⟨f1, t1⟩ := y1
        obtain ⟨f2, t2⟩ := y2
        obtain ⟨_, _, htl⟩ := hsw
        simp only at htl
        unfold maxLen at htl
        unfold StepV.cells at hat1 hat2
        simp only at hat1 hat2
        have hrw1 := fun i (h : i < t1.length) => row_at (c := SealV.cells) (k := 2) (fun _ => rfl) h
        have hrw2 := fun i (h : i < t2.length) => row_at (c := SealV.cells) (k := 2) (fun _ => rfl) h
        generalize rowC SealV.cells t1 = T1 at *
        generalize rowC SealV.cells t2 = T2 at *
        refine awp_drf_frz2 T.mixed 6 7 [10, 11, 12, 13] [] [] [10, 11] (by kernel_rfl) (by decide) (by decide) (by decide) ?_
        intro K hK
        simp only [↓AXz_nil, ↓AXz_cons, ↓AGiv_call, glook_nil, glook_cons, glookN_nil, glookN_cons, noughtV, pval, DX, Nat.reduceBEq, List.toList_toArray, List.map_cons, List.map_nil, aeval, ↓DN, UP, DF, qSh, qCv, qIA, qIx, qSl, qBu, qCe, qOn, reduceCtorEq, ↓reduceIte, nLT, nLE, nEQ, nAdd, nMul, nPow, nSub, zLT, zLE, zNat, RMsg1153, g5, g2, g3, eye_lt_nat, hi', hi2, hge, hat1, hat2]
        intro o1 ho1 o2 ho2
        have hne : o1 ≠ o2 := by rintro rfl; simp at ho2
        have hne2 := hne.symm
        simp only [hne, hne2, if_true, if_false, ↓reduceIte, List.set_cons_zero, List.set_cons_succ, List.length_cons, List.length_nil, Nat.reduceAdd, Nat.le_refl, true_and]
        rw [set_four hne]
        refine hK _ _ o1 o2 _ _ (by simp only [upd, nEQ, ↓reduceIte]) (by simp only [upd, nEQ, ↓reduceIte]) ho1 (by rw [AS.set_objs_ne _ hne2]; simpa [hne2] using ho2) ?_
        clear hK K ho1 ho2 hne hne2
        refine awp_seq_k ?_
        intro K hK
        by_cases hh2 : f1 = f2 ∧ t1.length = t2.length
        · obtain ⟨rfl, htt⟩ := hh2
          refine awp_reg_seq ?_
          intro K hK
          simp only [↓DN, UP, DF, qSh, qCv, qIA, qIx, qSl, qBu, qCe, qOn, reduceCtorEq, ↓reduceIte, nLT, nLE, nEQ, nAdd, nMul, nPow, nSub, zLT, zLE, zNat, RMsg1153, natEq (show f1 = f1 from rfl), natEq htt]
          refine hK _ _ ?_
          clear hK K
          refine awp_cond_k ?_
          intro X Y hX hY
          simp only [↓DN, UP, DF, qSh, qCv, qIA, qIx, qSl, qBu, qCe, qOn, reduceCtorEq, ↓reduceIte, nLT, nLE, nEQ, nAdd, nMul, nPow, nSub, zLT, zLE, zNat, RMsg1153, DB]
          refine hY ?_
          clear hX hY X Y
          refine awp_skip ?_
          refine hK _ _ ?_
          clear hK K
          refine awp_reg_seq ?_
          intro K hK
          simp only [↓DN, UP, DF, qSh, qCv, qIA, qIx, qSl, qBu, qCe, qOn, reduceCtorEq, ↓reduceIte, nLT, nLE, nEQ, nAdd, nMul, nPow, nSub, zLT, zLE, zNat, RMsg1153]
          refine hK _ _ ?_
          clear hK K
          refine awp_block ?_
          refine awp_loop (fun E s2 => ∃ j : Nat, j ≤ t1.length ∧ E 8 = .v (.int .i64 j) ∧ E 6 = .rop [.v (.int .u64 f1), .sl 2 t1.length T1 .any] ∧ E 7 = .rop [.v (.int .u64 f1), .sl 2 t2.length T2 .any] ∧ t1.take j = t2.take j ∧ E 5 = .v (.int .i64 i) ∧ E 2 = .rop [.v (.int .u64 k1), .sl 1 p1.length (p1.map byteV) .any, .sl 2 l1.length X1 .any] ∧ E 3 = .rop [.v (.int .u64 k1), .sl 1 p1.length (p1.map byteV) .any, .sl 2 l2.length X2 .any] ∧ s2 = s1)
            (fun E _ => match E 8 with | .v (.int _ i) => t1.length - i.toNat | _ => 0) ?_ ?_
          · exact ⟨0, Nat.zero_le _, by simp only [upd, ↓reduceIte]; rfl, by simp only [upd, nEQ, ↓reduceIte], by simp only [upd, nEQ, ↓reduceIte], by simp, by simp only [upd, g5, nEQ, ↓reduceIte], by simp only [upd, g2, nEQ, ↓reduceIte], by simp only [upd, g3, nEQ, ↓reduceIte], rfl⟩
          · have G5 := g5
            clear g5 g2 g3
            rintro E2 s2 ⟨j, hj, g8, g6, g7, hallj, g5, g2, g3, rfl⟩ -
            refine awp_seq_k ?_
            intro K2 hK2
            by_cases hj' : j < t1.length
            · refine awp_reg_seq ?_
              intro K hK
              simp only [↓DN, UP, DF, qSh, qCv, qIA, qIx, qSl, qBu, qCe, qOn, reduceCtorEq, ↓reduceIte, nLT, nLE, nEQ, nAdd, nMul, nPow, nSub, zLT, zLE, zNat, RMsg1153, g8, g6, eye_lt_nat, decide_eq_true hj']
              refine hK _ _ ?_
              clear hK K
              refine awp_cond_k ?_
              intro X Y hX hY
              simp only [↓DN, UP, DF, qSh, qCv, qIA, qIx, qSl, qBu, qCe, qOn, reduceCtorEq, ↓reduceIte, nLT, nLE, nEQ, nAdd, nMul, nPow, nSub, zLT, zLE, zNat, RMsg1153, DB]
              refine hX ?_
              clear hX hY X Y
              refine awp_skip ?_
              refine hK2 _ _ ?_
              clear hK2 K2
              refine awp_seq_k ?_
              intro K4 hK4
              refine awp_block ?_
              have hj2 : j < t2.length := by omega
              have hbt1 := hrw1 j hj'
              have hbt2 := hrw2 j hj2
              have hgj : (0 : Int) ≤ (j : Int) := by omega
              have hyes2 : t1[j] = t2[j] → t1.take (j + 1) = t2.take (j + 1) := take_eq hj' hj2 hallj
              have hno2 : t1[j] ≠ t2[j] → decide ((⟨k1, p1, l1⟩ : PathV) = ⟨k1, p1, l2⟩) = false := fun h => hno fun q => h (by simp only [StepV.mk.injEq, true_and] at q; subst q; rfl)
              generalize t1[j] = z1 at *
              generalize t2[j] = z2 at *
              obtain ⟨u1, v1⟩ := z1
              obtain ⟨u2, v2⟩ := z2
              unfold SealV.cells at hbt1 hbt2
              simp only at hbt1 hbt2
              by_cases hu : u1 = u2
              · subst hu
                by_cases hv : v1 = v2
                · subst hv
                  refine awp_drw_seq T.mixed [] (by kernel_rfl) ?_
                  intro K hK
                  simp only [↓AXq_nil, ↓AXq_cons, pval, ↓AXz_nil, ↓AXz_cons, ↓AGiv_call, glook_nil, glook_cons, glookN_nil, glookN_cons, noughtV, pval, DX, Nat.reduceBEq, List.toList_toArray, List.map_cons, List.map_nil, aeval, DX, Nat.reduceBEq, ↓DN, UP, DF, qSh, qCv, qIA, qIx, qSl, qBu, qCe, qOn, reduceCtorEq, ↓reduceIte, nLT, nLE, nEQ, nAdd, nMul, nPow, nSub, zLT, zLE, zNat, RMsg1153, g8, g6, g7, eye_lt_nat, hj', hj2, hgj, hbt1, hbt2, natEq (show u1 = u1 from rfl), listEq (show v1 = v1 from rfl)]
                  refine hK _ _ ?_
                  clear hK K
                  refine awp_cond_k ?_
                  intro X Y hX hY
                  simp only [↓DN, UP, DF, qSh, qCv, qIA, qIx, qSl, qBu, qCe, qOn, reduceCtorEq, ↓reduceIte, nLT, nLE, nEQ, nAdd, nMul, nPow, nSub, zLT, zLE, zNat, RMsg1153, DB]
                  refine hY ?_
                  clear hX hY X Y
                  refine awp_skip ?_
                  simp only [blockQ, thenQ, if_true, if_false]
                  refine hK4 _ _ ?_
                  clear hK4 K4
                  refine awp_reg_end ?_
                  intro K hK
                  simp only [↓DN, UP, DF, qSh, qCv, qIA, qIx, qSl, qBu, qCe, qOn, reduceCtorEq, ↓reduceIte, nLT, nLE, nEQ, nAdd, nMul, nPow, nSub, zLT, zLE, zNat, RMsg1153, g8, eye_succM j (by omega)]
                  refine hK _ _ ?_
                  clear hK K
                  refine ⟨⟨j + 1, by omega, by simp only [upd, ↓reduceIte], by simp only [upd, g6, nEQ, ↓reduceIte], by simp only [upd, g7, nEQ, ↓reduceIte], hyes2 rfl, by simp only [upd, g5, nEQ, ↓reduceIte], by simp only [upd, g2, nEQ, ↓reduceIte], by simp only [upd, g3, nEQ, ↓reduceIte], rfl⟩, ?_⟩
                  simp only [g8, upd, ↓reduceIte]
                  omega
                · refine awp_drw_seq T.mixed [] (by kernel_rfl) ?_
                  intro K hK
                  simp only [↓AXq_nil, ↓AXq_cons, pval, ↓AXz_nil, ↓AXz_cons, ↓AGiv_call, glook_nil, glook_cons, glookN_nil, glookN_cons, noughtV, pval, DX, Nat.reduceBEq, List.toList_toArray, List.map_cons, List.map_nil, aeval, DX, Nat.reduceBEq, ↓DN, UP, DF, qSh, qCv, qIA, qIx, qSl, qBu, qCe, qOn, reduceCtorEq, ↓reduceIte, nLT, nLE, nEQ, nAdd, nMul, nPow, nSub, zLT, zLE, zNat, RMsg1153, g8, g6, g7, eye_lt_nat, hj', hj2, hgj, hbt1, hbt2, natEq (show u1 = u1 from rfl), listNe hv]
                  refine hK _ _ ?_
                  clear hK K
                  refine awp_cond_k ?_
                  intro X Y hX hY
                  simp only [↓DN, UP, DF, qSh, qCv, qIA, qIx, qSl, qBu, qCe, qOn, reduceCtorEq, ↓reduceIte, nLT, nLE, nEQ, nAdd, nMul, nPow, nSub, zLT, zLE, zNat, RMsg1153, DB]
                  refine hX ?_
                  clear hX hY X Y
                  refine awp_reg_seq ?_
                  intro K hK
                  simp only [↓DN, UP, DF, qSh, qCv, qIA, qIx, qSl, qBu, qCe, qOn, reduceCtorEq, ↓reduceIte, nLT, nLE, nEQ, nAdd, nMul, nPow, nSub, zLT, zLE, zNat, RMsg1153]
                  refine hK _ _ ?_
                  clear hK K
                  refine awp_ret ?_
                  try simp only [thenQ, blockQ]
                  simp only [retQ, AEnds, aresL, ares, List.toList_toArray, ↓upd_same]; try simp only [↓DN, UP, DF, qSh, qCv, qIA, qIx, qSl, qBu, qCe, qOn, reduceCtorEq, ↓reduceIte, nLT, nLE, nEQ, nAdd, nMul, nPow, nSub, zLT, zLE, zNat, RMsg1153, DT]
                  exact ⟨_, _, AV.weak.refl _, AS.le.refl _, by rw [hno2 fun q => hv (by simpa using q)], rfl⟩
              · refine awp_drw_seq T.mixed [] (by kernel_rfl) ?_
                intro K hK
                simp only [↓AXq_nil, ↓AXq_cons, pval, ↓AXz_nil, ↓AXz_cons, ↓AGiv_call, glook_nil, glook_cons, glookN_nil, glookN_cons, noughtV, pval, DX, Nat.reduceBEq, List.toList_toArray, List.map_cons, List.map_nil, aeval, DX, Nat.reduceBEq, ↓DN, UP, DF, qSh, qCv, qIA, qIx, qSl, qBu, qCe, qOn, reduceCtorEq, ↓reduceIte, nLT, nLE, nEQ, nAdd, nMul, nPow, nSub, zLT, zLE, zNat, RMsg1153, g8, g6, g7, eye_lt_nat, hj', hj2, hgj, hbt1, hbt2, natNe hu]
                refine hK _ _ ?_
                clear hK K
                refine awp_cond_k ?_
                intro X Y hX hY
                simp only [↓DN, UP, DF, qSh, qCv, qIA, qIx, qSl, qBu, qCe, qOn, reduceCtorEq, ↓reduceIte, nLT, nLE, nEQ, nAdd, nMul, nPow, nSub, zLT, zLE, zNat, RMsg1153, DB]
                refine hX ?_
                clear hX hY X Y
                refine awp_reg_seq ?_
                intro K hK
                simp only [↓DN, UP, DF, qSh, qCv, qIA, qIx, qSl, qBu, qCe, qOn, reduceCtorEq, ↓reduceIte, nLT, nLE, nEQ, nAdd, nMul, nPow, nSub, zLT, zLE, zNat, RMsg1153]
                refine hK _ _ ?_
                clear hK K
                refine awp_ret ?_
                try simp only [thenQ, blockQ]
                simp only [retQ, AEnds, aresL, ares, List.toList_toArray, ↓upd_same]; try simp only [↓DN, UP, DF, qSh, qCv, qIA, qIx, qSl, qBu, qCe, qOn, reduceCtorEq, ↓reduceIte, nLT, nLE, nEQ, nAdd, nMul, nPow, nSub, zLT, zLE, zNat, RMsg1153, DT]
                exact ⟨_, _, AV.weak.refl _, AS.le.refl _, by rw [hno2 fun q => hu (by simp only [SealV.mk.injEq] at q; exact q.1)], rfl⟩
            · refine awp_reg_seq ?_
              intro K hK
              simp only [↓DN, UP, DF, qSh, qCv, qIA, qIx, qSl, qBu, qCe, qOn, reduceCtorEq, ↓reduceIte, nLT, nLE, nEQ, nAdd, nMul, nPow, nSub, zLT, zLE, zNat, RMsg1153, g8, g6, eye_lt_nat, decide_eq_false hj']
              refine hK _ _ ?_
              clear hK K
              refine awp_cond_k ?_
              intro X Y hX hY
              simp only [↓DN, UP, DF, qSh, qCv, qIA, qIx, qSl, qBu, qCe, qOn, reduceCtorEq, ↓reduceIte, nLT, nLE, nEQ, nAdd, nMul, nPow, nSub, zLT, zLE, zNat, RMsg1153, DB]
              refine hY ?_
              clear hX hY X Y
              refine awp_exit ?_
              simp only [thenQ, blockQ, if_true, if_false]
              refine hK3 _ _ ?_
              clear hK3 hK2 K2 K3
              refine awp_reg_end ?_
              intro K hK
              simp only [↓DN, UP, DF, qSh, qCv, qIA, qIx, qSl, qBu, qCe, qOn, reduceCtorEq, ↓reduceIte, nLT, nLE, nEQ, nAdd, nMul, nPow, nSub, zLT, zLE, zNat, RMsg1153, g5, eye_succM i (by omega)]
              refine hK _ _ ?_
              clear hK K
              refine ⟨⟨i + 1, by omega, by simp only [upd, ↓reduceIte], by simp only [upd, g2, nEQ, ↓reduceIte], by simp only [upd, g3, nEQ, ↓reduceIte], hyes (by rw [take_eq_full htt hj' hallj]), rfl⟩, ?_⟩
              simp only [G5, upd, ↓reduceIte]
              omega
        · have hy12 : (⟨f1, t1⟩ : StepV) ≠ ⟨f2, t2⟩ := fun q => hh2 (by simp only [StepV.mk.injEq] at q; exact ⟨q.1, by rw [q.2]⟩)
          by_cases hf : f1 = f2
          · have htt : t1.length ≠ t2.length := fun q => hh2 ⟨hf, q⟩
            refine awp_reg_seq ?_
            intro K hK
            simp only [↓DN, UP, DF, qSh, qCv, qIA, qIx, qSl, qBu, qCe, qOn, reduceCtorEq, ↓reduceIte, nLT, nLE, nEQ, nAdd, nMul, nPow, nSub, zLT, zLE, zNat, RMsg1153, natEq hf, natNe htt]
            refine hK _ _ ?_
            clear hK K
            refine awp_cond_k ?_
            intro X Y hX hY
            simp only [↓DN, UP, DF, qSh, qCv, qIA, qIx, qSl, qBu, qCe, qOn, reduceCtorEq, ↓reduceIte, nLT, nLE, nEQ, nAdd, nMul, nPow, nSub, zLT, zLE, zNat, RMsg1153, DB]
            refine hX ?_
            clear hX hY X Y
            refine awp_reg_seq ?_
            intro K hK
            simp only [↓DN, UP, DF, qSh, qCv, qIA, qIx, qSl, qBu, qCe, qOn, reduceCtorEq, ↓reduceIte, nLT, nLE, nEQ, nAdd, nMul, nPow, nSub, zLT, zLE, zNat, RMsg1153]
            refine hK _ _ ?_
            clear hK K
            refine awp_ret ?_
            try simp only [thenQ, blockQ]
            simp only [retQ, AEnds, aresL, ares, List.toList_toArray, ↓upd_same]; try simp only [↓DN, UP, DF, qSh, qCv, qIA, qIx, qSl, qBu, qCe, qOn, reduceCtorEq, ↓reduceIte, nLT, nLE, nEQ, nAdd, nMul, nPow, nSub, zLT, zLE, zNat, RMsg1153, DT]
            exact ⟨_, _, AV.weak.refl _, AS.le.refl _, by rw [hno hy12], rfl⟩
          · refine awp_reg_seq ?_
            intro K hK
            simp only [↓DN, UP, DF, qSh, qCv, qIA, qIx, qSl, qBu, qCe, qOn, reduceCtorEq, ↓reduceIte, nLT, nLE, nEQ, nAdd, nMul, nPow, nSub, zLT, zLE, zNat, RMsg1153, natNe hf]
            refine hK _ _ ?_
            clear hK K
            refine awp_cond_k ?_
            intro X Y hX hY
            simp only [↓DN, UP, DF, qSh, qCv, qIA, qIx, qSl, qBu, qCe, qOn, reduceCtorEq, ↓reduceIte, nLT, nLE, nEQ, nAdd, nMul, nPow, nSub, zLT, zLE, zNat, RMsg1153, DB]
            refine hX ?_
            clear hX hY X Y
            refine awp_reg_seq ?_
            intro K hK
            simp only [↓DN, UP, DF, qSh, qCv, qIA, qIx, qSl, qBu, qCe, qOn, reduceCtorEq, ↓reduceIte, nLT, nLE, nEQ, nAdd, nMul, nPow, nSub, zLT, zLE, zNat, RMsg1153]
            refine hK _ _ ?_
            clear hK K
            refine awp_ret ?_
            try simp only [thenQ, blockQ]
            simp only [retQ, AEnds, aresL, ares, List.toList_toArray, ↓upd_same]; try simp only [↓DN, UP, DF, qSh, qCv, qIA, qIx, qSl, qBu, qCe, qOn, reduceCtorEq, ↓reduceIte, nLT, nLE, nEQ, nAdd, nMul, nPow, nSub, zLT, zLE, zNat, RMsg1153, DT]
            exact ⟨_, _, AV.weak.refl _, AS.le.refl _, by rw [hno hy12], rfl⟩
      · refine awp_reg_seq ?_
        intro K hK
        simp only [↓DN, UP, DF, qSh, qCv, qIA, qIx, qSl, qBu, qCe, qOn, reduceCtorEq, ↓reduceIte, nLT, nLE, nEQ, nAdd, nMul, nPow, nSub, zLT, zLE, zNat, RMsg1153, g5, g2, eye_lt_nat, decide_eq_false hi']
        refine hK _ _ ?_
        clear hK K
        refine awp_cond_k ?_
        intro X Y hX hY
        simp only [↓DN, UP, DF, qSh, qCv, qIA, qIx, qSl, qBu, qCe, qOn, reduceCtorEq, ↓reduceIte, nLT, nLE, nEQ, nAdd, nMul, nPow, nSub, zLT, zLE, zNat, RMsg1153, DB]
        refine hY ?_
        clear hX hY X Y
        refine awp_exit ?_
        simp only [thenQ, blockQ, if_true]
        refine hK _ _ ?_
        clear hK K hK2 K2
        refine awp_reg_seq ?_
        intro K hK
        simp only [↓DN, UP, DF, qSh, qCv, qIA, qIx, qSl, qBu, qCe, qOn, reduceCtorEq, ↓reduceIte, nLT, nLE, nEQ, nAdd, nMul, nPow, nSub, zLT, zLE, zNat, RMsg1153]
        refine hK _ _ ?_
        clear hK K
        refine awp_ret ?_
        simp only [retQ, AEnds, aresL, ares, List.toList_toArray, ↓upd_same]; try simp only [↓DN, UP, DF, qSh, qCv, qIA, qIx, qSl, qBu, qCe, qOn, reduceCtorEq, ↓reduceIte, nLT, nLE, nEQ, nAdd, nMul, nPow, nSub, zLT, zLE, zNat, RMsg1153, DT]
        exact ⟨_, _, AV.weak.refl _, AS.le.refl _, by rw [decide_eq_true (by rw [take_eq_full hll hi' hall])], rfl⟩
  · have hab : decide ((⟨k1, p1, l1⟩ : PathV) = ⟨k2, p2, l2⟩) = false := decide_eq_false fun q => hh (by simp only [PathV.mk.injEq] at q; exact ⟨q.1, q.2.1, by rw [q.2.2]⟩)
    rw [hab] at hK ⊢
    clear hab
    by_cases q1 : k1 = k2
    · by_cases q2 : p1 = p2
      · have q3 : l1.length ≠ l2.length := fun q => hh ⟨q1, q2, q⟩
        refine awp_reg_seq ?_
        intro K hK
        simp only [↓DN, UP, DF, qSh, qCv, qIA, qIx, qSl, qBu, qCe, qOn, reduceCtorEq, ↓reduceIte, nLT, nLE, nEQ, nAdd, nMul, nPow, nSub, zLT, zLE, zNat, RMsg1153, natEq q1, listEq q2, natNe q3]
        refine hK _ _ ?_
        clear hK K
        refine awp_cond_k ?_
        intro X Y hX hY
        simp only [↓DN, UP, DF, qSh, qCv, qIA, qIx, qSl, qBu, qCe, qOn, reduceCtorEq, ↓reduceIte, nLT, nLE, nEQ, nAdd, nMul, nPow, nSub, zLT, zLE, zNat, RMsg1153, DB]
        refine hX ?_
        clear hX hY X Y
        refine awp_reg_seq ?_
        intro K hK
        simp only [↓DN, UP, DF, qSh, qCv, qIA, qIx, qSl, qBu, qCe, qOn, reduceCtorEq, ↓reduceIte, nLT, nLE, nEQ, nAdd, nMul, nPow, nSub, zLT, zLE, zNat, RMsg1153]
        refine hK _ _ ?_
        clear hK K
        refine awp_ret ?_
        try simp only [thenQ, blockQ]
        simp only [retQ, AEnds, aresL, ares, List.toList_toArray, ↓upd_same]; try simp only [↓DN, UP, DF, qSh, qCv, qIA, qIx, qSl, qBu, qCe, qOn, reduceCtorEq, ↓reduceIte, nLT, nLE, nEQ, nAdd, nMul, nPow, nSub, zLT, zLE, zNat, RMsg1153, DT]
        exact ⟨_, _, AV.weak.refl _, AS.le.refl _, rfl, rfl⟩
      · refine awp_reg_seq ?_
        intro K hK
        simp only [↓DN, UP, DF, qSh, qCv, qIA, qIx, qSl, qBu, qCe, qOn, reduceCtorEq, ↓reduceIte, nLT, nLE, nEQ, nAdd, nMul, nPow, nSub, zLT, zLE, zNat, RMsg1153, natEq q1, listNe q2]
        refine hK _ _ ?_
        clear hK K
        refine awp_cond_k ?_
        intro X Y hX hY
        simp only [↓DN, UP, DF, qSh, qCv, qIA, qIx, qSl, qBu, qCe, qOn, reduceCtorEq, ↓reduceIte, nLT, nLE, nEQ, nAdd, nMul, nPow, nSub, zLT, zLE, zNat, RMsg1153, DB]
        refine hX ?_
        clear hX hY X Y
        refine awp_reg_seq ?_
        intro K hK
        simp only [↓DN, UP, DF, qSh, qCv, qIA, qIx, qSl, qBu, qCe, qOn, reduceCtorEq, ↓reduceIte, nLT, nLE, nEQ, nAdd, nMul, nPow, nSub, zLT, zLE, zNat, RMsg1153]
        refine hK _ _ ?_
        clear hK K
        refine awp_ret ?_
        try simp only [thenQ, blockQ]
        simp only [retQ, AEnds, aresL, ares, List.toList_toArray, ↓upd_same]; try simp only [↓DN, UP, DF, qSh, qCv, qIA, qIx, qSl, qBu, qCe, qOn, reduceCtorEq, ↓reduceIte, nLT, nLE, nEQ, nAdd, nMul, nPow, nSub, zLT, zLE, zNat, RMsg1153, DT]
        exact ⟨_, _, AV.weak.refl _, AS.le.refl _, rfl, rfl⟩
    · refine awp_reg_seq ?_
      intro K hK
      simp only [↓DN, UP, DF, qSh, qCv, qIA, qIx, qSl, qBu, qCe, qOn, reduceCtorEq, ↓reduceIte, nLT, nLE, nEQ, nAdd, nMul, nPow, nSub, zLT, zLE, zNat, RMsg1153, natNe q1]
      refine hK _ _ ?_
      clear hK K
      refine awp_cond_k ?_
      intro X Y hX hY
      simp only [↓DN, UP, DF, qSh, qCv, qIA, qIx, qSl, qBu, qCe, qOn, reduceCtorEq, ↓reduceIte, nLT, nLE, nEQ, nAdd, nMul, nPow, nSub, zLT, zLE, zNat, RMsg1153, DB]
      refine hX ?_
      clear hX hY X Y
      refine awp_reg_seq ?_
      intro K hK
      simp only [↓DN, UP, DF, qSh, qCv, qIA, qIx, qSl, qBu, qCe, qOn, reduceCtorEq, ↓reduceIte, nLT, nLE, nEQ, nAdd, nMul, nPow, nSub, zLT, zLE, zNat, RMsg1153]
      refine hK _ _ ?_
      clear hK K
      refine awp_ret ?_
      try simp only [thenQ, blockQ]
      simp only [retQ, AEnds, aresL, ares, List.toList_toArray, ↓upd_same]; try simp only [↓DN, UP, DF, qSh, qCv, qIA, qIx, qSl, qBu, qCe, qOn, reduceCtorEq, ↓reduceIte, nLT, nLE, nEQ, nAdd, nMul, nPow, nSub, zLT, zLE, zNat, RMsg1153, DT]
      exact ⟨_, _, AV.weak.refl _, AS.le.refl _, rfl, rfl⟩

end Go.Proofs.Ytcnilmidfhpckaa


