/- Contracts of the program's functions, each walked once; the conditions stand in each theorem. -/
import Derived.Test.YtooeklnbdgoneaaDoorAMp6
import Derived.Test.YtooeklnbdgoneaaDoorW10
import Derived.Test.YtooeklnbdgoneaaDoorW4
import Derived.Test.YtooeklnbdgoneaaDoorAMp5
import Derived.Test.YtooeklnbdgoneaaDoorW6
import Derived.Test.YtooeklnbdgoneaaDoorAMp4
import Derived.Test.YtooeklnbdgoneaaDoorW5
import Derived.Test.YtooeklnbdgoneaaDoorW9
set_option linter.unusedSimpArgs false
set_option linter.unusedVariables false
open Nat renaming reduceLT → nLT, reduceLeDiff → nLE, reduceEqDiff → nEQ, reduceAdd → nAdd, reduceMul → nMul, reducePow → nPow, reduceSub → nSub
open Int renaming reduceLT → zLT, reduceLE → zLE, reduceToNat → zNat
open Go.AM renaming ashift → qSh, aconv → qCv, aindexAddr → qIA, aindex → qIx, aslice → qSl, abuiltin → qBu
open Go.AM.AV renaming cells → qCe, one → qOn
set_option autoImplicit false
namespace Go.Proofs.YtooeklnbdgoneaaDoor
open Go Go.AM Go.Proofs

theorem RAes1951 : type_of% (And.intro (And.intro (And.intro (And.intro (And.intro @Tryd.underlying4 (And.intro T.c4 T.g4)) (And.intro T.b4 (And.intro T.z4 @Tryd.underlying5))) (And.intro (And.intro T.c5 (And.intro T.g5 T.b5)) (And.intro (And.intro T.z5 @Tryd.underlying22) (And.intro T.c22 T.g22)))) (And.intro (And.intro (And.intro T.b22 (And.intro T.z22 T.s22)) (And.intro @Tryd.underlying77 (And.intro T.c77 T.g77))) (And.intro (And.intro T.b77 (And.intro T.z77 T.s77)) (And.intro (And.intro T.k82 T.k84) (And.intro T.k46 T.k83))))) Tryd.ntmps51) :=
  (And.intro (And.intro (And.intro (And.intro (And.intro @Tryd.underlying4 (And.intro T.c4 T.g4)) (And.intro T.b4 (And.intro T.z4 @Tryd.underlying5))) (And.intro (And.intro T.c5 (And.intro T.g5 T.b5)) (And.intro (And.intro T.z5 @Tryd.underlying22) (And.intro T.c22 T.g22)))) (And.intro (And.intro (And.intro T.b22 (And.intro T.z22 T.s22)) (And.intro @Tryd.underlying77 (And.intro T.c77 T.g77))) (And.intro (And.intro T.b77 (And.intro T.z77 T.s77)) (And.intro (And.intro T.k82 T.k84) (And.intro T.k46 T.k83))))) Tryd.ntmps51)
theorem RAes1954 : type_of% (And.intro (And.intro (And.intro (And.intro (And.intro @Tryd.underlying3 (And.intro T.c3 T.g3)) (And.intro T.b3 (And.intro T.z3 @Tryd.underlying4))) (And.intro (And.intro T.c4 (And.intro T.g4 T.b4)) (And.intro T.z4 (And.intro @Tryd.underlying5 T.c5)))) (And.intro (And.intro (And.intro T.g5 (And.intro T.b5 T.z5)) (And.intro @Tryd.underlying22 (And.intro T.c22 T.g22))) (And.intro (And.intro T.b22 (And.intro T.z22 T.s22)) (And.intro (And.intro T.k82 T.k84) (And.intro T.k88 T.k83))))) Tryd.ntmps54) :=
  (And.intro (And.intro (And.intro (And.intro (And.intro @Tryd.underlying3 (And.intro T.c3 T.g3)) (And.intro T.b3 (And.intro T.z3 @Tryd.underlying4))) (And.intro (And.intro T.c4 (And.intro T.g4 T.b4)) (And.intro T.z4 (And.intro @Tryd.underlying5 T.c5)))) (And.intro (And.intro (And.intro T.g5 (And.intro T.b5 T.z5)) (And.intro @Tryd.underlying22 (And.intro T.c22 T.g22))) (And.intro (And.intro T.b22 (And.intro T.z22 T.s22)) (And.intro (And.intro T.k82 T.k84) (And.intro T.k88 T.k83))))) Tryd.ntmps54)

variable {Γ : Nat → List AV}

def sealT (key nonce beside text : List UInt8) : List UInt8 := if key.length = 48 ∧ nonce.length = 16 then Aes.sealed key nonce beside text else []
def sealE (key nonce : List UInt8) : Nat := if key.length = 48 ∧ nonce.length = 16 then 0 else 2
def opT (key nonce beside z : List UInt8) : List UInt8 := if key.length = 48 ∧ nonce.length = 16 then openedT key nonce beside z else []
def opE (key nonce beside z : List UInt8) : Nat := if key.length = 48 ∧ nonce.length = 16 then openedE key nonce beside z else 2
theorem sealed_len (key nonce beside text : List UInt8) : (Aes.sealed key nonce beside text).length = text.length + 16 := by
  rw [Aes.sealed, List.length_append, Aes.mask_len, Aes.tag_len]

set_option maxHeartbeats 4000000 in
theorem seal_calls (hG0 : Γ 0 = stC Sha.H0) (hG : Γ 1 = Sha.K.map wV) (key nonce beside text : List UInt8) (hb : beside.length ≤ 2 ^ 30) (ht : text.length ≤ 2 ^ 30) (s : AS) :
    ACalls Tryd.prog Γ 51 [bytesV key .any, bytesV nonce .any, bytesV beside .any, bytesV text .any] s (fun r s' => r = .tup [bytesV (sealT key nonce beside text) .any, .v (.int .i64 ((sealE key nonce : Nat) : Int))] ∧ s' = s) := by
  refine acalls_body Tryd.func51 rfl Tryd.ntmps51 Tryd.results51 (by simp) ?_
  refine awp_reg_seq ?_
  intro K hK
  simp only [↓DN, UP, DF, qSh, qCv, qIA, qIx, qSl, qBu, qCe, qOn, reduceCtorEq, ↓reduceIte, nLT, nLE, nEQ, nAdd, nMul, nPow, nSub, zLT, zLE, zNat, RAes1951]
  refine hK _ _ ?_
  clear hK K
  refine awp_seq_k ?_
  intro K hK
  refine awp_reg_seq ?_
  intro K hK
  simp only [↓DN, UP, DF, qSh, qCv, qIA, qIx, qSl, qBu, qCe, qOn, reduceCtorEq, ↓reduceIte, nLT, nLE, nEQ, nAdd, nMul, nPow, nSub, zLT, zLE, zNat, RAes1951]
  refine acallk (sfits_calls key nonce _) ?_
  rintro r s1 ⟨rfl, rfl⟩
  by_cases hf : key.length = 48 ∧ nonce.length = 16
  · have h1 : sealT key nonce beside text = Aes.sealed key nonce beside text := by unfold sealT; rw [if_pos hf]
    have h2 : sealE key nonce = 0 := by unfold sealE; rw [if_pos hf]
    rw [decide_eq_true hf]
    obtain ⟨hk, hn⟩ := hf
    simp only [↓AXq_nil, ↓AXq_cons, pval, DX, Nat.reduceBEq, ↓DN, UP, DF, qSh, qCv, qIA, qIx, qSl, qBu, qCe, qOn, reduceCtorEq, ↓reduceIte, nLT, nLE, nEQ, nAdd, nMul, nPow, nSub, zLT, zLE, zNat, RAes1951]
    refine hK _ _ ?_
    clear hK K
    refine awp_cond_k ?_
    intro X Y hX hY
    simp only [↓DN, UP, DF, qSh, qCv, qIA, qIx, qSl, qBu, qCe, qOn, reduceCtorEq, ↓reduceIte, nLT, nLE, nEQ, nAdd, nMul, nPow, nSub, zLT, zLE, zNat, RAes1951, DB]
    refine hY ?_
    clear hX hY X Y
    refine awp_skip ?_
    refine hK _ _ ?_
    clear hK K
    have hml := Aes.mask_len key nonce text
    have htl := Aes.tag_len key nonce beside (Aes.mask key nonce text)
    have c1 := fun s => mask_calls (Γ := Γ) key nonce text hk hn ht s
    have c2 := fun s => stag_calls (Γ := Γ) hG0 hG key nonce beside (Aes.mask key nonce text) hk hn hb (by omega) s
    have hsd : Aes.sealed key nonce beside text = Aes.mask key nonce text ++ Aes.tag key nonce beside (Aes.mask key nonce text) := rfl
    have c3 := fun s => concat_calls (Γ := Γ) [Aes.mask key nonce text, Aes.tag key nonce beside (Aes.mask key nonce text)] .new (by simp) (by simp; omega) s
    rw [show [Aes.mask key nonce text, Aes.tag key nonce beside (Aes.mask key nonce text)].flatten = Aes.sealed key nonce beside text from by rw [hsd]; simp, partsB_two] at c3
    have hsl := sealed_len key nonce beside text
    clear hsd
    generalize Aes.sealed key nonce beside text = S0 at *
    generalize Aes.tag key nonce beside (Aes.mask key nonce text) = T0 at *
    generalize Aes.mask key nonce text = M at *
    refine awp_reg_seq ?_
    intro K hK
    simp only [↓DN, UP, DF, qSh, qCv, qIA, qIx, qSl, qBu, qCe, qOn, reduceCtorEq, ↓reduceIte, nLT, nLE, nEQ, nAdd, nMul, nPow, nSub, zLT, zLE, zNat, RAes1951]
    refine acallk (c1 _) ?_
    rintro r s2 ⟨rfl, rfl⟩
    simp only [↓AXq_nil, ↓AXq_cons, pval, DX, Nat.reduceBEq, ↓DN, UP, DF, qSh, qCv, qIA, qIx, qSl, qBu, qCe, qOn, reduceCtorEq, ↓reduceIte, nLT, nLE, nEQ, nAdd, nMul, nPow, nSub, zLT, zLE, zNat, RAes1951]
    refine hK _ _ ?_
    clear hK K
    refine awp_reg_seq ?_
    intro K hK
    simp only [↓DN, UP, DF, qSh, qCv, qIA, qIx, qSl, qBu, qCe, qOn, reduceCtorEq, ↓reduceIte, nLT, nLE, nEQ, nAdd, nMul, nPow, nSub, zLT, zLE, zNat, RAes1951, List.replicate_succ, List.replicate_zero]
    refine acallk (c2 _) ?_
    rintro r s3 ⟨rfl, rfl⟩
    simp only [↓AXq_nil, ↓AXq_cons, pval, DX, Nat.reduceBEq, ↓DN, UP, DF, qSh, qCv, qIA, qIx, qSl, qBu, qCe, qOn, reduceCtorEq, ↓reduceIte, nLT, nLE, nEQ, nAdd, nMul, nPow, nSub, zLT, zLE, zNat, RAes1951, List.replicate_succ, List.replicate_zero]
    refine acallk (c3 _) ?_
    intro r s4 hout
    have hw := hout.weak
    have hle := hout.1
    obtain ⟨t, e, rfl⟩ := outS_own hout (by rw [← List.length_pos_iff, hsl]; omega)
    simp only [↓AXq_nil, ↓AXq_cons, pval, DX, Nat.reduceBEq, ↓DN, UP, DF, qSh, qCv, qIA, qIx, qSl, qBu, qCe, qOn, reduceCtorEq, ↓reduceIte, nLT, nLE, nEQ, nAdd, nMul, nPow, nSub, zLT, zLE, zNat, RAes1951]
    refine hK _ _ ?_
    clear hK K
    refine awp_ret ?_
    simp only [retQ, AEnds, aresL, ares, List.toList_toArray, ↓upd_same]; try simp only [↓DN, UP, DF, qSh, qCv, qIA, qIx, qSl, qBu, qCe, qOn, reduceCtorEq, ↓reduceIte, nLT, nLE, nEQ, nAdd, nMul, nPow, nSub, zLT, zLE, zNat, RAes1951, DT]
    rw [h1, h2]
    exact ⟨_, s3, AV.weak_tup2 hw (AV.weak.refl _), hle, rfl, rfl⟩
  · have h1 : sealT key nonce beside text = [] := by unfold sealT; rw [if_neg hf]
    have h2 : sealE key nonce = 2 := by unfold sealE; rw [if_neg hf]
    rw [decide_eq_false hf]
    simp only [↓AXq_nil, ↓AXq_cons, pval, DX, Nat.reduceBEq, ↓DN, UP, DF, qSh, qCv, qIA, qIx, qSl, qBu, qCe, qOn, reduceCtorEq, ↓reduceIte, nLT, nLE, nEQ, nAdd, nMul, nPow, nSub, zLT, zLE, zNat, RAes1951]
    refine hK _ _ ?_
    clear hK K
    refine awp_cond_k ?_
    intro X Y hX hY
    simp only [↓DN, UP, DF, qSh, qCv, qIA, qIx, qSl, qBu, qCe, qOn, reduceCtorEq, ↓reduceIte, nLT, nLE, nEQ, nAdd, nMul, nPow, nSub, zLT, zLE, zNat, RAes1951, DB]
    refine hX ?_
    clear hX hY X Y
    refine awp_reg_seq ?_
    intro K hK
    simp only [↓DN, UP, DF, qSh, qCv, qIA, qIx, qSl, qBu, qCe, qOn, reduceCtorEq, ↓reduceIte, nLT, nLE, nEQ, nAdd, nMul, nPow, nSub, zLT, zLE, zNat, RAes1951]
    refine hK _ _ ?_
    clear hK K
    refine awp_ret ?_
    try simp only [thenQ, blockQ]
    simp only [retQ, AEnds, aresL, ares, List.toList_toArray, ↓upd_same]; try simp only [↓DN, UP, DF, qSh, qCv, qIA, qIx, qSl, qBu, qCe, qOn, reduceCtorEq, ↓reduceIte, nLT, nLE, nEQ, nAdd, nMul, nPow, nSub, zLT, zLE, zNat, RAes1951, DT]
    rw [h1, h2]
    exact ⟨_, _, AV.weak_tup2 AV.weak_nil (AV.weak.refl _), AS.le.refl _, rfl, rfl⟩

set_option maxHeartbeats 4000000 in
theorem open_seal_calls (hG0 : Γ 0 = stC Sha.H0) (hG : Γ 1 = Sha.K.map wV) (key nonce beside z : List UInt8) (hb : beside.length ≤ 2 ^ 30) (hz : z.length ≤ 2 ^ 30) (s : AS) :
    ACalls Tryd.prog Γ 54 [bytesV key .any, bytesV nonce .any, bytesV beside .any, bytesV z .any] s (fun r s' => r = .tup [bytesV (opT key nonce beside z) .any, .v (.int .i64 ((opE key nonce beside z : Nat) : Int))] ∧ s' = s) := by
  refine acalls_body Tryd.func54 rfl Tryd.ntmps54 Tryd.results54 (by simp) ?_
  have hsub : isub .i64 (z.length : Int) 16 = (z.length : Int) - 16 := isub_i64 (by omega)
  refine awp_reg_seq ?_
  intro K hK
  simp only [↓DN, UP, DF, qSh, qCv, qIA, qIx, qSl, qBu, qCe, qOn, reduceCtorEq, ↓reduceIte, nLT, nLE, nEQ, nAdd, nMul, nPow, nSub, zLT, zLE, zNat, RAes1954]
  refine hK _ _ ?_
  clear hK K
  refine awp_reg_seq ?_
  intro K hK
  simp only [↓DN, UP, DF, qSh, qCv, qIA, qIx, qSl, qBu, qCe, qOn, reduceCtorEq, ↓reduceIte, nLT, nLE, nEQ, nAdd, nMul, nPow, nSub, zLT, zLE, zNat, RAes1954, hsub]
  refine hK _ _ ?_
  clear hK K
  refine awp_seq_k ?_
  intro K hK
  refine awp_block ?_
  refine awp_reg_seq ?_
  intro K hK
  simp only [↓DN, UP, DF, qSh, qCv, qIA, qIx, qSl, qBu, qCe, qOn, reduceCtorEq, ↓reduceIte, nLT, nLE, nEQ, nAdd, nMul, nPow, nSub, zLT, zLE, zNat, RAes1954]
  refine acallk (sfits_calls key nonce _) ?_
  rintro r s1 ⟨rfl, rfl⟩
  by_cases hf : key.length = 48 ∧ nonce.length = 16
  · have h1 : opT key nonce beside z = openedT key nonce beside z := by unfold opT; rw [if_pos hf]
    have h2 : opE key nonce beside z = openedE key nonce beside z := by unfold opE; rw [if_pos hf]
    rw [decide_eq_true hf]
    obtain ⟨hk, hn⟩ := hf
    simp only [↓AXq_nil, ↓AXq_cons, pval, DX, Nat.reduceBEq, ↓DN, UP, DF, qSh, qCv, qIA, qIx, qSl, qBu, qCe, qOn, reduceCtorEq, ↓reduceIte, nLT, nLE, nEQ, nAdd, nMul, nPow, nSub, zLT, zLE, zNat, RAes1954]
    refine hK _ _ ?_
    clear hK K
    refine awp_cond_k ?_
    intro X Y hX hY
    simp only [↓DN, UP, DF, qSh, qCv, qIA, qIx, qSl, qBu, qCe, qOn, reduceCtorEq, ↓reduceIte, nLT, nLE, nEQ, nAdd, nMul, nPow, nSub, zLT, zLE, zNat, RAes1954, DB]
    refine hY ?_
    clear hX hY X Y
    by_cases h16 : z.length < 16
    · have h3 : openedT key nonce beside z = [] := by unfold openedT; rw [if_pos h16]
      have h4 : openedE key nonce beside z = 10 := by unfold openedE; rw [if_pos h16]
      refine awp_reg_seq ?_
      intro K hK
      simp only [↓DN, UP, DF, qSh, qCv, qIA, qIx, qSl, qBu, qCe, qOn, reduceCtorEq, ↓reduceIte, nLT, nLE, nEQ, nAdd, nMul, nPow, nSub, zLT, zLE, zNat, RAes1954, decide_eq_true (show (z.length : Int) - 16 < 0 by omega)]
      refine hK _ _ ?_
      clear hK K
      refine awp_cond_k ?_
      intro X Y hX hY
      simp only [↓DN, UP, DF, qSh, qCv, qIA, qIx, qSl, qBu, qCe, qOn, reduceCtorEq, ↓reduceIte, nLT, nLE, nEQ, nAdd, nMul, nPow, nSub, zLT, zLE, zNat, RAes1954, DB]
      refine hX ?_
      clear hX hY X Y
      refine awp_reg_seq ?_
      intro K hK
      simp only [↓DN, UP, DF, qSh, qCv, qIA, qIx, qSl, qBu, qCe, qOn, reduceCtorEq, ↓reduceIte, nLT, nLE, nEQ, nAdd, nMul, nPow, nSub, zLT, zLE, zNat, RAes1954]
      refine hK _ _ ?_
      clear hK K
      refine awp_ret ?_
      try simp only [thenQ, blockQ]
      simp only [retQ, AEnds, aresL, ares, List.toList_toArray, ↓upd_same]; try simp only [↓DN, UP, DF, qSh, qCv, qIA, qIx, qSl, qBu, qCe, qOn, reduceCtorEq, ↓reduceIte, nLT, nLE, nEQ, nAdd, nMul, nPow, nSub, zLT, zLE, zNat, RAes1954, DT]
      rw [h1, h2, h3, h4]
      exact ⟨_, _, AV.weak_tup2 AV.weak_nil (AV.weak.refl _), AS.le.refl _, rfl, rfl⟩
    · have hnat : (z.length : Int) - 16 = ((z.length - 16 : Nat) : Int) := by omega
      have htz : List.take z.length (z.map byteV) = z.map byteV := List.take_of_length_le (by simp)
      have m0 : (0 : Int) ≤ ((z.length - 16 : Nat) : Int) := by omega
      have m1 : ((z.length - 16 : Nat) : Int) ≤ (z.length : Int) := by omega
      have m2 : (z.length : Int) ≤ (z.length : Int) := Int.le_refl _
      have m3 : z.length - (z.length - 16) = 16 := by omega
      rw [hnat]
      have htl : (z.take (z.length - 16)).length = z.length - 16 := by rw [List.length_take]; omega
      have hdl : (z.drop (z.length - 16)).length = 16 := by rw [List.length_drop]; omega
      have c2 := fun s => stag_calls (Γ := Γ) hG0 hG key nonce beside (z.take (z.length - 16)) hk hn hb (by omega) s
      have c1 := fun s => mask_calls (Γ := Γ) key nonce (z.take (z.length - 16)) hk hn (by omega) s
      have c4 := fun s => same_calls (Γ := Γ) (Aes.tag key nonce beside (z.take (z.length - 16))) (z.drop (z.length - 16)) (by rw [Aes.tag_len]; decide) s
      have htz2 : List.take z.length z = z := List.take_length
      unfold bytesV at c1 c2 c4
      rw [htl] at c1 c2
      rw [hdl] at c4
      refine awp_reg_seq ?_
      intro K hK
      simp only [↓DN, UP, DF, qSh, qCv, qIA, qIx, qSl, qBu, qCe, qOn, reduceCtorEq, ↓reduceIte, nLT, nLE, nEQ, nAdd, nMul, nPow, nSub, zLT, zLE, zNat, RAes1954, decide_eq_false (show ¬ ((z.length - 16 : Nat) : Int) < 0 by omega)]
      refine hK _ _ ?_
      clear hK K
      refine awp_cond_k ?_
      intro X Y hX hY
      simp only [↓DN, UP, DF, qSh, qCv, qIA, qIx, qSl, qBu, qCe, qOn, reduceCtorEq, ↓reduceIte, nLT, nLE, nEQ, nAdd, nMul, nPow, nSub, zLT, zLE, zNat, RAes1954, DB]
      refine hY ?_
      clear hX hY X Y
      refine awp_drw_seq T.mixed [6, 10] (by kernel_rfl) ?_
      intro K hK
      simp only [↓AXq_nil, ↓AXq_cons, pval, DX, Nat.reduceBEq, ↓DN, UP, DF, qSh, qCv, qIA, qIx, qSl, qBu, qCe, qOn, reduceCtorEq, ↓reduceIte, nLT, nLE, nEQ, nAdd, nMul, nPow, nSub, zLT, zLE, zNat, RAes1954, m0, m1, m2, m3, htz, htz2]
      refine acallk (c2 _) ?_
      rintro r s2 ⟨rfl, rfl⟩
      simp only [↓AXq_nil, ↓AXq_cons, pval, DX, Nat.reduceBEq, ↓DN, UP, DF, qSh, qCv, qIA, qIx, qSl, qBu, qCe, qOn, reduceCtorEq, ↓reduceIte, nLT, nLE, nEQ, nAdd, nMul, nPow, nSub, zLT, zLE, zNat, RAes1954, m0, m1, m2, m3, htz, htz2]
      refine acallk (c4 _) ?_
      rintro r s3 ⟨rfl, rfl⟩
      by_cases ht : Aes.tag key nonce beside (z.take (z.length - 16)) = z.drop (z.length - 16)
      · have h3 : openedT key nonce beside z = Aes.mask key nonce (z.take (z.length - 16)) := by unfold openedT; rw [if_neg h16, if_pos ht]
        have h4 : openedE key nonce beside z = 0 := by unfold openedE; rw [if_neg h16, if_pos ht]
        rw [decide_eq_true ht]
        simp only [↓AXq_nil, ↓AXq_cons, pval, DX, Nat.reduceBEq, ↓DN, UP, DF, qSh, qCv, qIA, qIx, qSl, qBu, qCe, qOn, reduceCtorEq, ↓reduceIte, nLT, nLE, nEQ, nAdd, nMul, nPow, nSub, zLT, zLE, zNat, RAes1954]
        refine hK _ _ ?_
        clear hK K
        refine awp_cond_k ?_
        intro X Y hX hY
        simp only [↓DN, UP, DF, qSh, qCv, qIA, qIx, qSl, qBu, qCe, qOn, reduceCtorEq, ↓reduceIte, nLT, nLE, nEQ, nAdd, nMul, nPow, nSub, zLT, zLE, zNat, RAes1954, DB]
        refine hY ?_
        clear hX hY X Y
        refine awp_skip ?_
        simp only [blockQ, thenQ, if_true, if_false]
        refine hK _ _ ?_
        clear hK K
        refine awp_reg_seq ?_
        intro K hK
        simp only [↓DN, UP, DF, qSh, qCv, qIA, qIx, qSl, qBu, qCe, qOn, reduceCtorEq, ↓reduceIte, nLT, nLE, nEQ, nAdd, nMul, nPow, nSub, zLT, zLE, zNat, RAes1954, m0, m1, m2, m3, htz, htz2]
        refine acallk (c1 _) ?_
        rintro r s4 ⟨rfl, rfl⟩
        simp only [↓AXq_nil, ↓AXq_cons, pval, DX, Nat.reduceBEq, ↓DN, UP, DF, qSh, qCv, qIA, qIx, qSl, qBu, qCe, qOn, reduceCtorEq, ↓reduceIte, nLT, nLE, nEQ, nAdd, nMul, nPow, nSub, zLT, zLE, zNat, RAes1954]
        refine hK _ _ ?_
        clear hK K
        refine awp_ret ?_
        simp only [retQ, AEnds, aresL, ares, List.toList_toArray, ↓upd_same]; try simp only [↓DN, UP, DF, qSh, qCv, qIA, qIx, qSl, qBu, qCe, qOn, reduceCtorEq, ↓reduceIte, nLT, nLE, nEQ, nAdd, nMul, nPow, nSub, zLT, zLE, zNat, RAes1954, DT]
        rw [h1, h2, h3, h4]
        exact ⟨_, _, AV.weak.refl _, AS.le.refl _, rfl, rfl⟩
      · have h3 : openedT key nonce beside z = [] := by unfold openedT; rw [if_neg h16, if_neg ht]
        have h4 : openedE key nonce beside z = 14 := by unfold openedE; rw [if_neg h16, if_neg ht]
        rw [decide_eq_false ht]
        simp only [↓AXq_nil, ↓AXq_cons, pval, DX, Nat.reduceBEq, ↓DN, UP, DF, qSh, qCv, qIA, qIx, qSl, qBu, qCe, qOn, reduceCtorEq, ↓reduceIte, nLT, nLE, nEQ, nAdd, nMul, nPow, nSub, zLT, zLE, zNat, RAes1954]
        refine hK _ _ ?_
        clear hK K
        refine awp_cond_k ?_
        intro X Y hX hY
        simp only [↓DN, UP, DF, qSh, qCv, qIA, qIx, qSl, qBu, qCe, qOn, reduceCtorEq, ↓reduceIte, nLT, nLE, nEQ, nAdd, nMul, nPow, nSub, zLT, zLE, zNat, RAes1954, DB]
        refine hX ?_
        clear hX hY X Y
        refine awp_reg_seq ?_
        intro K hK
        simp only [↓DN, UP, DF, qSh, qCv, qIA, qIx, qSl, qBu, qCe, qOn, reduceCtorEq, ↓reduceIte, nLT, nLE, nEQ, nAdd, nMul, nPow, nSub, zLT, zLE, zNat, RAes1954]
        refine hK _ _ ?_
        clear hK K
        refine awp_ret ?_
        try simp only [thenQ, blockQ]
        simp only [retQ, AEnds, aresL, ares, List.toList_toArray, ↓upd_same]; try simp only [↓DN, UP, DF, qSh, qCv, qIA, qIx, qSl, qBu, qCe, qOn, reduceCtorEq, ↓reduceIte, nLT, nLE, nEQ, nAdd, nMul, nPow, nSub, zLT, zLE, zNat, RAes1954, DT]
        rw [h1, h2, h3, h4]
        exact ⟨_, _, AV.weak_tup2 AV.weak_nil (AV.weak.refl _), AS.le.refl _, rfl, rfl⟩
  · have h1 : opT key nonce beside z = [] := by unfold opT; rw [if_neg hf]
    have h2 : opE key nonce beside z = 2 := by unfold opE; rw [if_neg hf]
    rw [decide_eq_false hf]
    simp only [↓AXq_nil, ↓AXq_cons, pval, DX, Nat.reduceBEq, ↓DN, UP, DF, qSh, qCv, qIA, qIx, qSl, qBu, qCe, qOn, reduceCtorEq, ↓reduceIte, nLT, nLE, nEQ, nAdd, nMul, nPow, nSub, zLT, zLE, zNat, RAes1954]
    refine hK _ _ ?_
    clear hK K
    refine awp_cond_k ?_
    intro X Y hX hY
    simp only [↓DN, UP, DF, qSh, qCv, qIA, qIx, qSl, qBu, qCe, qOn, reduceCtorEq, ↓reduceIte, nLT, nLE, nEQ, nAdd, nMul, nPow, nSub, zLT, zLE, zNat, RAes1954, DB]
    refine hX ?_
    clear hX hY X Y
    refine awp_reg_seq ?_
    intro K hK
    simp only [↓DN, UP, DF, qSh, qCv, qIA, qIx, qSl, qBu, qCe, qOn, reduceCtorEq, ↓reduceIte, nLT, nLE, nEQ, nAdd, nMul, nPow, nSub, zLT, zLE, zNat, RAes1954]
    refine hK _ _ ?_
    clear hK K
    refine awp_ret ?_
    try simp only [thenQ, blockQ]
    simp only [retQ, AEnds, aresL, ares, List.toList_toArray, ↓upd_same]; try simp only [↓DN, UP, DF, qSh, qCv, qIA, qIx, qSl, qBu, qCe, qOn, reduceCtorEq, ↓reduceIte, nLT, nLE, nEQ, nAdd, nMul, nPow, nSub, zLT, zLE, zNat, RAes1954, DT]
    rw [h1, h2]
    exact ⟨_, _, AV.weak_tup2 AV.weak_nil (AV.weak.refl _), AS.le.refl _, rfl, rfl⟩

end Go.Proofs.YtooeklnbdgoneaaDoor


set_option autoImplicit false
namespace Go.Proofs.YtooeklnbdgoneaaDoor
open Go Go.AM Go.Proofs



variable {Γ : Nat → List AV}



theorem opened_sealedT (key nonce beside text : List UInt8) : openedT key nonce beside (Aes.sealed key nonce beside text) = text := by
  have hl := sealed_len key nonce beside text
  unfold openedT
  rw [if_neg (by omega)]
  have hml := Aes.mask_len key nonce text
  have e1 : (Aes.sealed key nonce beside text).take ((Aes.sealed key nonce beside text).length - 16) = Aes.mask key nonce text := by
    rw [hl, Aes.sealed, Nat.add_sub_cancel, List.take_append_of_le_length (by omega), List.take_of_length_le (by omega)]
  have e2 : (Aes.sealed key nonce beside text).drop ((Aes.sealed key nonce beside text).length - 16) = Aes.tag key nonce beside (Aes.mask key nonce text) := by
    rw [hl, Aes.sealed, Nat.add_sub_cancel, List.drop_append_of_le_length (by omega), List.drop_eq_nil_of_le (by omega), List.nil_append]
  rw [e1, e2, if_pos rfl, Aes.mask_back]
theorem opened_sealedE (key nonce beside text : List UInt8) : openedE key nonce beside (Aes.sealed key nonce beside text) = 0 := by
  have hl := sealed_len key nonce beside text
  unfold openedE
  rw [if_neg (by omega)]
  have hml := Aes.mask_len key nonce text
  have e1 : (Aes.sealed key nonce beside text).take ((Aes.sealed key nonce beside text).length - 16) = Aes.mask key nonce text := by
    rw [hl, Aes.sealed, Nat.add_sub_cancel, List.take_append_of_le_length (by omega), List.take_of_length_le (by omega)]
  have e2 : (Aes.sealed key nonce beside text).drop ((Aes.sealed key nonce beside text).length - 16) = Aes.tag key nonce beside (Aes.mask key nonce text) := by
    rw [hl, Aes.sealed, Nat.add_sub_cancel, List.drop_append_of_le_length (by omega), List.drop_eq_nil_of_le (by omega), List.nil_append]
  rw [e1, e2, if_pos rfl]

end Go.Proofs.YtooeklnbdgoneaaDoor


set_option autoImplicit false
namespace Go.AM
open Go

/-! ### Slices of whole numbers; nodes -/
def intC (n : Int) : AV := .v (.int .i64 n)
def intsV (l : List Int) (sp : Sp) : AV := .sl 1 l.length (l.map intC) sp
theorem IsTy.ints {avs : List AV} (h : IsTy (.slice 1 tyI) avs) : ∃ l : List Int, avs = [intsV l .any] := by
  obtain ⟨els, rfl, _, hall⟩ := IsTy.rows h
  have key : ∀ els : List (List AV), (∀ el ∈ els, el.length = 1 ∧ IsTy tyI el) → ∃ l : List Int, l.length = els.length ∧ els.flatten = l.map intC := by
    intro els
    induction els with
    | nil => intro _; exact ⟨[], rfl, rfl⟩
    | cons e els ih =>
      intro h
      obtain ⟨l, h1, h2⟩ := ih (fun el hel => h el (by simp [hel]))
      obtain ⟨_, t⟩ := h e (by simp)
      obtain ⟨n, rfl, _⟩ := isTy_int t
      exact ⟨n :: l, by simp [h1], by simp [h2, intC]⟩
  obtain ⟨l, h1, h2⟩ := key els hall
  exact ⟨l, by rw [← h1, h2]; rfl⟩

structure NodeV where
  kind : Int
  name : List UInt8
  key : Nat
  parent : List UInt8
  unm : List Int
  deriving DecidableEq
def NodeV.cells (n : NodeV) : List AV := [.v (.int .i64 n.kind), bytesV n.name .any, .v (.int .u64 n.key), bytesV n.parent .any, intsV n.unm .any]
def NodeV.nought : NodeV := ⟨0, [], 0, [], []⟩

def okAt (l : List Int) (i : Nat) : Prop := 0 ≤ l.getD i 0 ∧ l.getD i 0 < 32 ∧ (0 < i → l.getD (i - 1) 0 < l.getD i 0)
instance decOkAt (l : List Int) (i : Nat) : Decidable (okAt l i) := by unfold okAt; infer_instance
def Rising (l : List Int) : Prop := ∀ i, i < l.length → okAt l i
instance decRising (l : List Int) : Decidable (Rising l) := by unfold Rising; infer_instance
def NodeV.held (N : NodeV) : Prop := 2 ≤ N.key ∧ N.key ≤ 2305843009213693949 ∧ (N.parent.length = 0 ∨ N.parent.length = 32)
instance decNodeHeld (N : NodeV) : Decidable N.held := by unfold NodeV.held; infer_instance
def NodeV.right (N : NodeV) : Prop :=
  if N.kind = 0 then N = NodeV.nought
  else if N.kind = 1 then (1 ≤ N.name.length ∧ N.name.length ≤ 16 ∧ N.held ∧ N.unm.length = 0)
  else if N.kind = 2 then (N.name.length = 0 ∧ N.held ∧ Rising N.unm)
  else False
instance decNodeRight (N : NodeV) : Decidable N.right := by unfold NodeV.right; infer_instance
theorem right_one {N : NodeV} (h : N.kind = 1) : N.right ↔ (1 ≤ N.name.length ∧ N.name.length ≤ 16 ∧ N.held ∧ N.unm.length = 0) := by unfold NodeV.right; rw [if_neg (by omega), if_pos h]
theorem right_two {N : NodeV} (h : N.kind = 2) : N.right ↔ (N.name.length = 0 ∧ N.held ∧ Rising N.unm) := by unfold NodeV.right; rw [if_neg (by omega), if_neg (by omega), if_pos h]
end Go.AM


set_option autoImplicit false
namespace Go.Proofs.YtooeklnbdgoneaaDoor
open Go Go.AM Go.Proofs

theorem RNode160 : type_of% (And.intro (And.intro (And.intro @Tryd.underlying41 T.c41) (And.intro T.g41 (And.intro T.b41 T.z41))) Tryd.ntmps60) :=
  (And.intro (And.intro (And.intro @Tryd.underlying41 T.c41) (And.intro T.g41 (And.intro T.b41 T.z41))) Tryd.ntmps60)
theorem RNode133 : type_of% (And.intro (And.intro (And.intro @Tryd.underlying41 T.c41) (And.intro T.g41 (And.intro T.b41 T.z41))) Tryd.ntmps33) :=
  (And.intro (And.intro (And.intro @Tryd.underlying41 T.c41) (And.intro T.g41 (And.intro T.b41 T.z41))) Tryd.ntmps33)

variable {Γ : Nat → List AV}



set_option maxHeartbeats 400000 in
theorem powerRight_calls (n : Nat) (s : AS) : ACalls Tryd.prog Γ 60 [.v (.int .u64 n)] s (fun r s' => r = .v (.bool (decide (2 ≤ (n : Int)) && decide ((n : Int) ≤ 2305843009213693949))) ∧ s' = s) := by
  refine acalls_body Tryd.func60 rfl Tryd.ntmps60 Tryd.results60 (by simp) ?_
  rcases ff2 (decide (2 ≤ (n : Int))) (decide ((n : Int) ≤ 2305843009213693949)) with hd | hd | hd
  all_goals
    refine awp_reg_seq ?_
    intro K hK
    simp only [↓DN, UP, DF, qSh, qCv, qIA, qIx, qSl, qBu, qCe, qOn, reduceCtorEq, ↓reduceIte, nLT, nLE, nEQ, nAdd, nMul, nPow, nSub, zLT, zLE, zNat, RNode160]
    refine hK _ _ ?_
    clear hK K
    refine awp_reg_seq ?_
    intro K hK
    simp only [↓DN, UP, DF, qSh, qCv, qIA, qIx, qSl, qBu, qCe, qOn, reduceCtorEq, ↓reduceIte, nLT, nLE, nEQ, nAdd, nMul, nPow, nSub, zLT, zLE, zNat, RNode160, hd]
    refine hK _ _ ?_
    clear hK K
    refine awp_ret ?_
    simp only [retQ, AEnds, aresL, ares, List.toList_toArray, ↓upd_same]; try simp only [↓DN, UP, DF, qSh, qCv, qIA, qIx, qSl, qBu, qCe, qOn, reduceCtorEq, ↓reduceIte, nLT, nLE, nEQ, nAdd, nMul, nPow, nSub, zLT, zLE, zNat, RNode160, DT]
    refine ⟨_, _, AV.weak.refl _, AS.le.refl _, ?_, rfl⟩
    simp only [hd, Bool.and_true, Bool.true_and, Bool.false_and, Bool.and_false]

set_option maxHeartbeats 400000 in
theorem refRight07_calls (n : Nat) (s : AS) : ACalls Tryd.prog Γ 33 [.v (.int .u64 n)] s (fun r s' => r = .v (.bool (decide (2 ≤ (n : Int)) && decide ((n : Int) ≤ 2305843009213693949))) ∧ s' = s) := by
  refine acalls_body Tryd.func33 rfl Tryd.ntmps33 Tryd.results33 (by simp) ?_
  rcases ff2 (decide (2 ≤ (n : Int))) (decide ((n : Int) ≤ 2305843009213693949)) with hd | hd | hd
  all_goals
    refine awp_reg_seq ?_
    intro K hK
    simp only [↓DN, UP, DF, qSh, qCv, qIA, qIx, qSl, qBu, qCe, qOn, reduceCtorEq, ↓reduceIte, nLT, nLE, nEQ, nAdd, nMul, nPow, nSub, zLT, zLE, zNat, RNode133]
    refine hK _ _ ?_
    clear hK K
    refine awp_reg_seq ?_
    intro K hK
    simp only [↓DN, UP, DF, qSh, qCv, qIA, qIx, qSl, qBu, qCe, qOn, reduceCtorEq, ↓reduceIte, nLT, nLE, nEQ, nAdd, nMul, nPow, nSub, zLT, zLE, zNat, RNode133, hd]
    refine hK _ _ ?_
    clear hK K
    refine awp_ret ?_
    simp only [retQ, AEnds, aresL, ares, List.toList_toArray, ↓upd_same]; try simp only [↓DN, UP, DF, qSh, qCv, qIA, qIx, qSl, qBu, qCe, qOn, reduceCtorEq, ↓reduceIte, nLT, nLE, nEQ, nAdd, nMul, nPow, nSub, zLT, zLE, zNat, RNode133, DT]
    refine ⟨_, _, AV.weak.refl _, AS.le.refl _, ?_, rfl⟩
    simp only [hd, Bool.and_true, Bool.true_and, Bool.false_and, Bool.and_false]

end Go.Proofs.YtooeklnbdgoneaaDoor


set_option autoImplicit false
namespace Go.Proofs.YtooeklnbdgoneaaDoor
open Go Go.AM Go.Proofs

theorem RPower125 : type_of% (And.intro (And.intro (And.intro @Tryd.underlying41 T.c41) (And.intro T.g41 (And.intro T.b41 T.z41))) Tryd.ntmps125) :=
  (And.intro (And.intro (And.intro @Tryd.underlying41 T.c41) (And.intro T.g41 (And.intro T.b41 T.z41))) Tryd.ntmps125)
theorem RPower124 : type_of% (And.intro (And.intro (And.intro @Tryd.underlying41 T.c41) (And.intro T.g41 (And.intro T.b41 T.z41))) Tryd.ntmps124) :=
  (And.intro (And.intro (And.intro @Tryd.underlying41 T.c41) (And.intro T.g41 (And.intro T.b41 T.z41))) Tryd.ntmps124)
theorem RPower113 : type_of% (And.intro (And.intro (And.intro @Tryd.underlying41 (And.intro T.c41 T.g41)) (And.intro (And.intro T.b41 T.z41) (And.intro T.k125 T.k124))) Tryd.ntmps113) :=
  (And.intro (And.intro (And.intro @Tryd.underlying41 (And.intro T.c41 T.g41)) (And.intro (And.intro T.b41 T.z41) (And.intro T.k125 T.k124))) Tryd.ntmps113)
theorem RPower91 : type_of% (And.intro (And.intro (And.intro @Tryd.underlying41 (And.intro T.c41 T.g41)) (And.intro T.b41 (And.intro T.z41 T.k113))) Tryd.ntmps91) :=
  (And.intro (And.intro (And.intro @Tryd.underlying41 (And.intro T.c41 T.g41)) (And.intro T.b41 (And.intro T.z41 T.k113))) Tryd.ntmps91)

variable {Γ : Nat → List AV}

set_option maxHeartbeats 400000 in
theorem fold_calls (n : Nat) (hn : n < 2 ^ 64) (s : AS) : ACalls Tryd.prog Γ 125 [.v (.int .u64 n)] s (fun r s' => r = .v (.int .u64 (n % PP : Nat)) ∧ s' = s) := by
  refine acalls_body Tryd.func125 rfl Tryd.ntmps125 Tryd.results125 (by simp) ?_
  refine awp_reg_seq ?_
  intro K hK
  simp only [↓DN, UP, DF, qSh, qCv, qIA, qIx, qSl, qBu, qCe, qOn, reduceCtorEq, ↓reduceIte, nLT, nLE, nEQ, nAdd, nMul, nPow, nSub, zLT, zLE, zNat, RPower125]
  refine hK _ _ ?_
  clear hK K
  refine awp_reg_seq ?_
  intro K hK
  simp only [↓DN, UP, DF, qSh, qCv, qIA, qIx, qSl, qBu, qCe, qOn, reduceCtorEq, ↓reduceIte, nLT, nLE, nEQ, nAdd, nMul, nPow, nSub, zLT, zLE, zNat, RPower125]
  refine hK _ _ ?_
  clear hK K
  refine awp_seq_k ?_
  intro K hK
  have hf := fold_plain n hn
  unfold foldRaw at hf
  simp only at hf
  refine awp_reg_seq ?_
  intro K hK
  simp only [↓DN, UP, DF, qSh, qCv, qIA, qIx, qSl, qBu, qCe, qOn, reduceCtorEq, ↓reduceIte, nLT, nLE, nEQ, nAdd, nMul, nPow, nSub, zLT, zLE, zNat, RPower125]
  refine hK _ _ ?_
  clear hK K
  by_cases hc : (2305843009213693951 : Int) ≤ iadd .u64 (iand .u64 n 2305843009213693951) (ishr .u64 n 61)
  · rw [if_pos hc] at hf
    refine awp_cond_k ?_
    intro X Y hX hY
    simp only [↓DN, UP, DF, qSh, qCv, qIA, qIx, qSl, qBu, qCe, qOn, reduceCtorEq, ↓reduceIte, nLT, nLE, nEQ, nAdd, nMul, nPow, nSub, zLT, zLE, zNat, RPower125, DB, hc]
    refine hX ?_
    clear hX hY X Y
    refine awp_reg_end ?_
    intro K hK
    simp only [↓DN, UP, DF, qSh, qCv, qIA, qIx, qSl, qBu, qCe, qOn, reduceCtorEq, ↓reduceIte, nLT, nLE, nEQ, nAdd, nMul, nPow, nSub, zLT, zLE, zNat, RPower125]
    refine hK _ _ ?_
    clear hK K
    refine hK _ _ ?_
    clear hK K
    refine awp_reg_seq ?_
    intro K hK
    simp only [↓DN, UP, DF, qSh, qCv, qIA, qIx, qSl, qBu, qCe, qOn, reduceCtorEq, ↓reduceIte, nLT, nLE, nEQ, nAdd, nMul, nPow, nSub, zLT, zLE, zNat, RPower125]
    refine hK _ _ ?_
    clear hK K
    refine awp_ret ?_
    simp only [retQ, AEnds, aresL, ares, List.toList_toArray, ↓upd_same]; try simp only [↓DN, UP, DF, qSh, qCv, qIA, qIx, qSl, qBu, qCe, qOn, reduceCtorEq, ↓reduceIte, nLT, nLE, nEQ, nAdd, nMul, nPow, nSub, zLT, zLE, zNat, RPower125, DT]
    exact ⟨_, _, AV.weak.refl _, AS.le.refl _, by rw [hf], rfl⟩
  · rw [if_neg hc] at hf
    refine awp_cond_k ?_
    intro X Y hX hY
    simp only [↓DN, UP, DF, qSh, qCv, qIA, qIx, qSl, qBu, qCe, qOn, reduceCtorEq, ↓reduceIte, nLT, nLE, nEQ, nAdd, nMul, nPow, nSub, zLT, zLE, zNat, RPower125, DB, hc]
    refine hY ?_
    clear hX hY X Y
    refine awp_skip ?_
    refine hK _ _ ?_
    clear hK K
    refine awp_reg_seq ?_
    intro K hK
    simp only [↓DN, UP, DF, qSh, qCv, qIA, qIx, qSl, qBu, qCe, qOn, reduceCtorEq, ↓reduceIte, nLT, nLE, nEQ, nAdd, nMul, nPow, nSub, zLT, zLE, zNat, RPower125]
    refine hK _ _ ?_
    clear hK K
    refine awp_ret ?_
    simp only [retQ, AEnds, aresL, ares, List.toList_toArray, ↓upd_same]; try simp only [↓DN, UP, DF, qSh, qCv, qIA, qIx, qSl, qBu, qCe, qOn, reduceCtorEq, ↓reduceIte, nLT, nLE, nEQ, nAdd, nMul, nPow, nSub, zLT, zLE, zNat, RPower125, DT]
    exact ⟨_, _, AV.weak.refl _, AS.le.refl _, by rw [hf], rfl⟩

set_option maxHeartbeats 800000 in
theorem mul64_calls (x y : Nat) (hx : x < 2 ^ 64) (hy : y < 2 ^ 64) (s : AS) : ACalls Tryd.prog Γ 124 [.v (.int .u64 x), .v (.int .u64 y)] s
    (fun r s' => r = .tup [.v (.int .u64 (x * y / 18446744073709551616 : Nat)), .v (.int .u64 (x * y % 18446744073709551616 : Nat))] ∧ s' = s) := by
  refine acalls_body Tryd.func124 rfl Tryd.ntmps124 Tryd.results124 (by simp) ?_
  refine awp_reg_seq ?_
  intro K hK
  simp only [↓DN, UP, DF, qSh, qCv, qIA, qIx, qSl, qBu, qCe, qOn, reduceCtorEq, ↓reduceIte, nLT, nLE, nEQ, nAdd, nMul, nPow, nSub, zLT, zLE, zNat, RPower124]
  refine hK _ _ ?_
  clear hK K
  refine awp_reg_seq ?_
  intro K hK
  simp only [↓DN, UP, DF, qSh, qCv, qIA, qIx, qSl, qBu, qCe, qOn, reduceCtorEq, ↓reduceIte, nLT, nLE, nEQ, nAdd, nMul, nPow, nSub, zLT, zLE, zNat, RPower124]
  refine hK _ _ ?_
  clear hK K
  refine awp_reg_seq ?_
  intro K hK
  simp only [↓DN, UP, DF, qSh, qCv, qIA, qIx, qSl, qBu, qCe, qOn, reduceCtorEq, ↓reduceIte, nLT, nLE, nEQ, nAdd, nMul, nPow, nSub, zLT, zLE, zNat, RPower124]
  refine hK _ _ ?_
  clear hK K
  refine awp_reg_seq ?_
  intro K hK
  simp only [↓DN, UP, DF, qSh, qCv, qIA, qIx, qSl, qBu, qCe, qOn, reduceCtorEq, ↓reduceIte, nLT, nLE, nEQ, nAdd, nMul, nPow, nSub, zLT, zLE, zNat, RPower124]
  refine hK _ _ ?_
  clear hK K
  refine awp_reg_seq ?_
  intro K hK
  simp only [↓DN, UP, DF, qSh, qCv, qIA, qIx, qSl, qBu, qCe, qOn, reduceCtorEq, ↓reduceIte, nLT, nLE, nEQ, nAdd, nMul, nPow, nSub, zLT, zLE, zNat, RPower124]
  refine hK _ _ ?_
  clear hK K
  refine awp_reg_seq ?_
  intro K hK
  simp only [↓DN, UP, DF, qSh, qCv, qIA, qIx, qSl, qBu, qCe, qOn, reduceCtorEq, ↓reduceIte, nLT, nLE, nEQ, nAdd, nMul, nPow, nSub, zLT, zLE, zNat, RPower124]
  refine hK _ _ ?_
  clear hK K
  refine awp_reg_seq ?_
  intro K hK
  simp only [↓DN, UP, DF, qSh, qCv, qIA, qIx, qSl, qBu, qCe, qOn, reduceCtorEq, ↓reduceIte, nLT, nLE, nEQ, nAdd, nMul, nPow, nSub, zLT, zLE, zNat, RPower124]
  refine hK _ _ ?_
  clear hK K
  refine awp_reg_seq ?_
  intro K hK
  simp only [↓DN, UP, DF, qSh, qCv, qIA, qIx, qSl, qBu, qCe, qOn, reduceCtorEq, ↓reduceIte, nLT, nLE, nEQ, nAdd, nMul, nPow, nSub, zLT, zLE, zNat, RPower124]
  refine hK _ _ ?_
  clear hK K
  refine awp_reg_seq ?_
  intro K hK
  simp only [↓DN, UP, DF, qSh, qCv, qIA, qIx, qSl, qBu, qCe, qOn, reduceCtorEq, ↓reduceIte, nLT, nLE, nEQ, nAdd, nMul, nPow, nSub, zLT, zLE, zNat, RPower124]
  refine hK _ _ ?_
  clear hK K
  refine awp_reg_seq ?_
  intro K hK
  simp only [↓DN, UP, DF, qSh, qCv, qIA, qIx, qSl, qBu, qCe, qOn, reduceCtorEq, ↓reduceIte, nLT, nLE, nEQ, nAdd, nMul, nPow, nSub, zLT, zLE, zNat, RPower124]
  refine hK _ _ ?_
  clear hK K
  refine awp_reg_seq ?_
  intro K hK
  simp only [↓DN, UP, DF, qSh, qCv, qIA, qIx, qSl, qBu, qCe, qOn, reduceCtorEq, ↓reduceIte, nLT, nLE, nEQ, nAdd, nMul, nPow, nSub, zLT, zLE, zNat, RPower124]
  refine hK _ _ ?_
  clear hK K
  refine awp_reg_seq ?_
  intro K hK
  simp only [↓DN, UP, DF, qSh, qCv, qIA, qIx, qSl, qBu, qCe, qOn, reduceCtorEq, ↓reduceIte, nLT, nLE, nEQ, nAdd, nMul, nPow, nSub, zLT, zLE, zNat, RPower124]
  refine hK _ _ ?_
  clear hK K
  refine awp_ret ?_
  simp only [retQ, AEnds, aresL, ares, List.toList_toArray, ↓upd_same]; try simp only [↓DN, UP, DF, qSh, qCv, qIA, qIx, qSl, qBu, qCe, qOn, reduceCtorEq, ↓reduceIte, nLT, nLE, nEQ, nAdd, nMul, nPow, nSub, zLT, zLE, zNat, RPower124, DT]
  refine ⟨_, _, AV.weak.refl _, AS.le.refl _, ?_, rfl⟩
  have x1 : x / 4294967296 < 4294967296 := by omega
  have y1 : y / 4294967296 < 4294967296 := by omega
  have x0 : x % 4294967296 < 4294967296 := by omega
  have y0 : y % 4294967296 < 4294967296 := by omega
  have b1 := mul_lt32 x1 y1
  have b2 := mul_lt32 x1 y0
  have b3 := mul_lt32 x0 y1
  have b4 := mul_lt32 x0 y0
  have key := mul64_hi _ _ _ _ x1 x0 y1 y0
  rw [show x / 4294967296 * 4294967296 + x % 4294967296 = x from by omega, show y / 4294967296 * 4294967296 + y % 4294967296 = y from by omega] at key
  rw [u64_and32 x hx, u64_and32 y hy, u64_shr32, u64_shr32, u64_mul _ _ (by omega : x % 4294967296 * (y % 4294967296) < 2 ^ 64), u64_mul _ _ (by omega : x / 4294967296 * (y % 4294967296) < 2 ^ 64),
    u64_mul _ _ (by omega : x % 4294967296 * (y / 4294967296) < 2 ^ 64), u64_mul _ _ (by omega : x / 4294967296 * (y / 4294967296) < 2 ^ 64), u64_mulw, u64_shr32]
  generalize x / 4294967296 * (y / 4294967296) = A at *
  generalize x / 4294967296 * (y % 4294967296) = B at *
  generalize x % 4294967296 * (y / 4294967296) = C at *
  generalize x % 4294967296 * (y % 4294967296) = D at *
  rw [u64_add _ _ (by omega : B + D / 4294967296 < 2 ^ 64), u64_and32 _ (by omega), u64_add _ _ (by omega : (B + D / 4294967296) % 4294967296 + C < 2 ^ 64), u64_shr32, u64_shr32, u64_add _ _ (by omega), u64_add _ _ (by omega), key]

set_option maxHeartbeats 400000 in
theorem mul_calls (a b : Nat) (ha : a < 2 ^ 64) (hb : b < 2 ^ 64) (s : AS) : ACalls Tryd.prog Γ 113 [.v (.int .u64 a), .v (.int .u64 b)] s (fun r s' => r = .v (.int .u64 (a * b % PP : Nat)) ∧ s' = s) := by
  refine acalls_body Tryd.func113 rfl Tryd.ntmps113 Tryd.results113 (by simp) ?_
  have l1 := mod_pp_lt a
  have l2 := mod_pp_lt b
  have l3 := pp_lt
  have l4 := mulPP_lt a b
  refine awp_reg_seq ?_
  intro K hK
  simp only [↓DN, UP, DF, qSh, qCv, qIA, qIx, qSl, qBu, qCe, qOn, reduceCtorEq, ↓reduceIte, nLT, nLE, nEQ, nAdd, nMul, nPow, nSub, zLT, zLE, zNat, RPower113]
  refine hK _ _ ?_
  clear hK K
  refine awp_reg_seq ?_
  intro K hK
  simp only [↓DN, UP, DF, qSh, qCv, qIA, qIx, qSl, qBu, qCe, qOn, reduceCtorEq, ↓reduceIte, nLT, nLE, nEQ, nAdd, nMul, nPow, nSub, zLT, zLE, zNat, RPower113]
  refine acallk (fold_calls a ha s) ?_
  rintro r s' ⟨rfl, rfl⟩
  simp only [↓AXq_nil, ↓AXq_cons, pval, DX, Nat.reduceBEq, ↓DN, UP, DF, qSh, qCv, qIA, qIx, qSl, qBu, qCe, qOn, reduceCtorEq, ↓reduceIte, nLT, nLE, nEQ, nAdd, nMul, nPow, nSub, zLT, zLE, zNat, RPower113]
  refine acallk (fold_calls b hb s') ?_
  rintro r s' ⟨rfl, rfl⟩
  simp only [↓AXq_nil, ↓AXq_cons, pval, DX, Nat.reduceBEq, ↓DN, UP, DF, qSh, qCv, qIA, qIx, qSl, qBu, qCe, qOn, reduceCtorEq, ↓reduceIte, nLT, nLE, nEQ, nAdd, nMul, nPow, nSub, zLT, zLE, zNat, RPower113]
  refine acallk (mul64_calls (a % PP) (b % PP) (by omega) (by omega) s') ?_
  rintro r s' ⟨rfl, rfl⟩
  simp only [↓AXq_nil, ↓AXq_cons, pval, DX, Nat.reduceBEq, ↓DN, UP, DF, qSh, qCv, qIA, qIx, qSl, qBu, qCe, qOn, reduceCtorEq, ↓reduceIte, nLT, nLE, nEQ, nAdd, nMul, nPow, nSub, zLT, zLE, zNat, RPower113]
  refine hK _ _ ?_
  clear hK K
  refine awp_reg_seq ?_
  intro K hK
  simp only [↓DN, UP, DF, qSh, qCv, qIA, qIx, qSl, qBu, qCe, qOn, reduceCtorEq, ↓reduceIte, nLT, nLE, nEQ, nAdd, nMul, nPow, nSub, zLT, zLE, zNat, RPower113, mul_sum _ l4]
  refine acallk (fold_calls (a % PP * (b % PP) % 2305843009213693952 + a % PP * (b % PP) / 2305843009213693952) (by omega) s') ?_
  rintro r s' ⟨rfl, rfl⟩
  simp only [↓AXq_nil, ↓AXq_cons, pval, DX, Nat.reduceBEq, ↓DN, UP, DF, qSh, qCv, qIA, qIx, qSl, qBu, qCe, qOn, reduceCtorEq, ↓reduceIte, nLT, nLE, nEQ, nAdd, nMul, nPow, nSub, zLT, zLE, zNat, RPower113]
  refine hK _ _ ?_
  clear hK K
  refine awp_ret ?_
  simp only [retQ, AEnds, aresL, ares, List.toList_toArray, ↓upd_same]; try simp only [↓DN, UP, DF, qSh, qCv, qIA, qIx, qSl, qBu, qCe, qOn, reduceCtorEq, ↓reduceIte, nLT, nLE, nEQ, nAdd, nMul, nPow, nSub, zLT, zLE, zNat, RPower113, DT]
  exact ⟨_, _, AV.weak.refl _, AS.le.refl _, by rw [split_mod, ← Nat.mul_mod], rfl⟩

set_option maxHeartbeats 400000 in
theorem pow_calls (a n : Nat) (ha : a < 2 ^ 64) (hn : n < 2 ^ 64) (s : AS) : ACalls Tryd.prog Γ 91 [.v (.int .u64 a), .v (.int .u64 n)] s (fun r s' => r = .v (.int .u64 (a ^ n % PP : Nat)) ∧ s' = s) := by
  refine acalls_body Tryd.func91 rfl Tryd.ntmps91 Tryd.results91 (by simp) ?_
  refine awp_reg_seq ?_
  intro K hK
  simp only [↓DN, UP, DF, qSh, qCv, qIA, qIx, qSl, qBu, qCe, qOn, reduceCtorEq, ↓reduceIte, nLT, nLE, nEQ, nAdd, nMul, nPow, nSub, zLT, zLE, zNat, RPower91]
  refine hK _ _ ?_
  clear hK K
  refine awp_reg_seq ?_
  intro K hK
  simp only [↓DN, UP, DF, qSh, qCv, qIA, qIx, qSl, qBu, qCe, qOn, reduceCtorEq, ↓reduceIte, nLT, nLE, nEQ, nAdd, nMul, nPow, nSub, zLT, zLE, zNat, RPower91]
  refine hK _ _ ?_
  clear hK K
  refine awp_seq_k ?_
  intro K hK
  refine awp_block ?_
  refine awp_loop (fun E s1 => ∃ o b m : Nat, E 5 = .v (.int .u64 o) ∧ E 0 = .v (.int .u64 b) ∧ E 1 = .v (.int .u64 m) ∧ o < PP ∧ b < 2 ^ 64 ∧ m < 2 ^ 64 ∧ o * b ^ m % PP = a ^ n % PP ∧ s1 = s)
    (fun E _ => match E 1 with | .v (.int _ i) => i.toNat | _ => 0) ?_ ?_
  · exact ⟨1, a, n, by simp [upd], by simp [upd, initE], by simp [upd, initE], by decide, ha, hn, by simp, rfl⟩
  · rintro E1 s1 ⟨o, b, m, h5, h0, h1, ho, hb, hm, hinv, rfl⟩ -
    have hPP : PP = 2305843009213693951 := rfl
    refine awp_seq_k ?_
    intro K2 hK2
    by_cases hm0 : m = 0
    · subst hm0
      refine awp_reg_seq ?_
      intro K hK
      simp only [↓DN, UP, DF, qSh, qCv, qIA, qIx, qSl, qBu, qCe, qOn, reduceCtorEq, ↓reduceIte, nLT, nLE, nEQ, nAdd, nMul, nPow, nSub, zLT, zLE, zNat, RPower91, h5, h0, h1, Int.natCast_zero, Int.lt_irrefl]
      refine hK _ _ ?_
      clear hK K
      refine awp_cond_k ?_
      intro X Y hX hY
      simp only [↓DN, UP, DF, qSh, qCv, qIA, qIx, qSl, qBu, qCe, qOn, reduceCtorEq, ↓reduceIte, nLT, nLE, nEQ, nAdd, nMul, nPow, nSub, zLT, zLE, zNat, RPower91, DB]
      refine hY ?_
      clear hX hY X Y
      refine awp_exit ?_
      simp only [thenQ, blockQ, if_true]
      refine hK _ _ ?_
      clear hK hK2 K K2
      refine awp_reg_seq ?_
      intro K hK
      simp only [↓DN, UP, DF, qSh, qCv, qIA, qIx, qSl, qBu, qCe, qOn, reduceCtorEq, ↓reduceIte, nLT, nLE, nEQ, nAdd, nMul, nPow, nSub, zLT, zLE, zNat, RPower91, h5]
      refine hK _ _ ?_
      clear hK K
      refine awp_ret ?_
      simp only [retQ, AEnds, aresL, ares, List.toList_toArray, ↓upd_same]; try simp only [↓DN, UP, DF, qSh, qCv, qIA, qIx, qSl, qBu, qCe, qOn, reduceCtorEq, ↓reduceIte, nLT, nLE, nEQ, nAdd, nMul, nPow, nSub, zLT, zLE, zNat, RPower91, DT]
      refine ⟨_, _, AV.weak.refl _, AS.le.refl _, ?_, rfl⟩
      rw [← hinv]
      simp [Nat.mod_eq_of_lt ho]
    · have hpos : (0 : Int) < m := by omega
      refine awp_reg_seq ?_
      intro K hK
      simp only [↓DN, UP, DF, qSh, qCv, qIA, qIx, qSl, qBu, qCe, qOn, reduceCtorEq, ↓reduceIte, nLT, nLE, nEQ, nAdd, nMul, nPow, nSub, zLT, zLE, zNat, RPower91, h5, h0, h1, hpos]
      refine hK _ _ ?_
      clear hK K
      refine awp_cond_k ?_
      intro X Y hX hY
      simp only [↓DN, UP, DF, qSh, qCv, qIA, qIx, qSl, qBu, qCe, qOn, reduceCtorEq, ↓reduceIte, nLT, nLE, nEQ, nAdd, nMul, nPow, nSub, zLT, zLE, zNat, RPower91, DB]
      refine hX ?_
      clear hX hY X Y
      refine awp_skip ?_
      refine hK2 _ _ ?_
      clear hK2 K2
      refine awp_seq_k ?_
      intro K3 hK3
      refine awp_block ?_
      refine awp_seq_k ?_
      intro K4 hK4
      have hand : iand .u64 (m : Int) 1 = ((m % 2 : Nat) : Int) := by
        have := iand_u (k := .u64) rfl m 1 hm (by decide)
        rw [Nat.and_one_is_mod] at this
        exact this
      have hshr : ishr .u64 (m : Int) 1 = ((m / 2 : Nat) : Int) := by
        have := ishr_u (k := .u64) m 1
        simpa [IntKind.bits] using this
      have hsq : ∀ (E2 : Env) (o2 : Nat), E2 5 = .v (.int .u64 o2) → E2 0 = .v (.int .u64 b) → E2 1 = .v (.int .u64 m) → o2 < PP → o2 * (b * b % PP) ^ (m / 2) % PP = a ^ n % PP → K4 E2 s1 := by
        intro E2 o2 e5 e0 e1 ho2 hinv2
        refine hK4 _ _ ?_
        clear hK4 K4
        refine awp_reg_end ?_
        intro K hK
        simp only [↓DN, UP, DF, qSh, qCv, qIA, qIx, qSl, qBu, qCe, qOn, reduceCtorEq, ↓reduceIte, nLT, nLE, nEQ, nAdd, nMul, nPow, nSub, zLT, zLE, zNat, RPower91, e0]
        refine acallk (mul_calls b b hb hb s1) ?_
        rintro r s' ⟨rfl, rfl⟩
        simp only [↓AXq_nil, ↓AXq_cons, pval, DX, Nat.reduceBEq, ↓DN, UP, DF, qSh, qCv, qIA, qIx, qSl, qBu, qCe, qOn, reduceCtorEq, ↓reduceIte, nLT, nLE, nEQ, nAdd, nMul, nPow, nSub, zLT, zLE, zNat, RPower91]
        refine hK _ _ ?_
        clear hK K
        refine hK3 _ _ ?_
        clear hK3 K3
        refine awp_reg_end ?_
        intro K hK
        simp only [↓DN, UP, DF, qSh, qCv, qIA, qIx, qSl, qBu, qCe, qOn, reduceCtorEq, ↓reduceIte, nLT, nLE, nEQ, nAdd, nMul, nPow, nSub, zLT, zLE, zNat, RPower91, e1, hshr]
        refine hK _ _ ?_
        clear hK K
        have hb2 : b * b % PP < PP := mod_pp_lt _
        refine ⟨⟨o2, b * b % PP, m / 2, by simp only [upd, e5, nEQ, ↓reduceIte], by simp only [upd, nEQ, ↓reduceIte], by simp only [upd, ↓reduceIte], ho2, by omega, by omega, hinv2, rfl⟩, ?_⟩
        simp only [h1, upd, ↓reduceIte]
        omega
      by_cases hodd : m % 2 = 1
      · refine awp_reg_seq ?_
        intro K hK
        simp only [↓DN, UP, DF, qSh, qCv, qIA, qIx, qSl, qBu, qCe, qOn, reduceCtorEq, ↓reduceIte, nLT, nLE, nEQ, nAdd, nMul, nPow, nSub, zLT, zLE, zNat, RPower91, h5, h0, h1, hand, hodd, Int.natCast_one]
        refine hK _ _ ?_
        clear hK K
        refine awp_cond_k ?_
        intro X Y hX hY
        simp only [↓DN, UP, DF, qSh, qCv, qIA, qIx, qSl, qBu, qCe, qOn, reduceCtorEq, ↓reduceIte, nLT, nLE, nEQ, nAdd, nMul, nPow, nSub, zLT, zLE, zNat, RPower91, DB]
        refine hX ?_
        clear hX hY X Y
        refine awp_reg_end ?_
        intro K hK
        simp only [↓DN, UP, DF, qSh, qCv, qIA, qIx, qSl, qBu, qCe, qOn, reduceCtorEq, ↓reduceIte, nLT, nLE, nEQ, nAdd, nMul, nPow, nSub, zLT, zLE, zNat, RPower91, h5, h0]
        refine acallk (mul_calls o b (by omega) hb s1) ?_
        rintro r s' ⟨rfl, rfl⟩
        simp only [↓AXq_nil, ↓AXq_cons, pval, DX, Nat.reduceBEq, ↓DN, UP, DF, qSh, qCv, qIA, qIx, qSl, qBu, qCe, qOn, reduceCtorEq, ↓reduceIte, nLT, nLE, nEQ, nAdd, nMul, nPow, nSub, zLT, zLE, zNat, RPower91]
        refine hK _ _ ?_
        clear hK K
        refine hsq _ (o * b % PP) (by simp only [upd, ↓reduceIte]) (by simp only [upd, h0, nEQ, ↓reduceIte]) (by simp only [upd, h1, nEQ, ↓reduceIte]) (mod_pp_lt _) ?_
        rw [← hinv]
        have e : b ^ m = b * (b * b) ^ (m / 2) := by
          have : m = 2 * (m / 2) + 1 := by omega
          conv => lhs; rw [this, Nat.pow_succ, Nat.pow_mul, Nat.pow_two, Nat.mul_comm]
        rw [e, ← Nat.mul_assoc, Nat.mul_mod, Nat.mod_mod, ← Nat.pow_mod, ← Nat.mul_mod]
      · have heven : m % 2 = 0 := by omega
        refine awp_reg_seq ?_
        intro K hK
        simp only [↓DN, UP, DF, qSh, qCv, qIA, qIx, qSl, qBu, qCe, qOn, reduceCtorEq, ↓reduceIte, nLT, nLE, nEQ, nAdd, nMul, nPow, nSub, zLT, zLE, zNat, RPower91, h5, h0, h1, hand, heven, Int.natCast_zero, Int.reduceBEq, Bool.false_eq_true]
        refine hK _ _ ?_
        clear hK K
        refine awp_cond_k ?_
        intro X Y hX hY
        simp only [↓DN, UP, DF, qSh, qCv, qIA, qIx, qSl, qBu, qCe, qOn, reduceCtorEq, ↓reduceIte, nLT, nLE, nEQ, nAdd, nMul, nPow, nSub, zLT, zLE, zNat, RPower91, DB]
        refine hY ?_
        clear hX hY X Y
        refine awp_skip ?_
        refine hsq _ o (by simp only [upd, h5, nEQ, ↓reduceIte]) (by simp only [upd, h0, nEQ, ↓reduceIte]) (by simp only [upd, h1, nEQ, ↓reduceIte]) ho ?_
        rw [← hinv]
        have e : b ^ m = (b * b) ^ (m / 2) := by
          have : m = 2 * (m / 2) := by omega
          conv => lhs; rw [this, Nat.pow_mul, Nat.pow_two]
        rw [e, Nat.mul_mod, ← Nat.pow_mod, ← Nat.mul_mod]

end Go.Proofs.YtooeklnbdgoneaaDoor


set_option autoImplicit false
namespace Go.Proofs.YtooeklnbdgoneaaDoor
open Go Go.AM Go.Proofs

theorem RRefPower96 : type_of% (And.intro (And.intro (And.intro @Tryd.underlying41 T.c41) (And.intro T.g41 (And.intro T.b41 T.z41))) Tryd.ntmps96) :=
  (And.intro (And.intro (And.intro @Tryd.underlying41 T.c41) (And.intro T.g41 (And.intro T.b41 T.z41))) Tryd.ntmps96)
theorem RRefPower68 : type_of% (And.intro (And.intro (And.intro @Tryd.underlying41 (And.intro T.c41 T.g41)) (And.intro T.b41 (And.intro T.z41 T.k96))) Tryd.ntmps68) :=
  (And.intro (And.intro (And.intro @Tryd.underlying41 (And.intro T.c41 T.g41)) (And.intro T.b41 (And.intro T.z41 T.k96))) Tryd.ntmps68)

variable {Γ : Nat → List AV}

theorem zero_one : ((0 : Int) == 1) = false := rfl
theorem u64_half (m : Nat) (hm : m < 2 ^ 64) : iquo .u64 (m : Int) 2 = ((m / 2 : Nat) : Int) := iquo_u rfl m 2 hm
theorem remPP (n : Nat) : irem (n : Int) 2305843009213693951 = ((n % PP : Nat) : Int) := irem_u n 2305843009213693951
theorem remTwo (n : Nat) : irem (n : Int) 2 = ((n % 2 : Nat) : Int) := irem_u n 2

set_option maxHeartbeats 400000 in
theorem refMul_calls (a b : Nat) (ha : a < 2 ^ 64) (hb : b < 2 ^ 64) (s : AS) : ACalls Tryd.prog Γ 96 [.v (.int .u64 a), .v (.int .u64 b)] s (fun r s' => r = .v (.int .u64 (a * b % PP : Nat)) ∧ s' = s) := by
  have hPP : PP = 2305843009213693951 := rfl
  refine acalls_body Tryd.func96 rfl Tryd.ntmps96 Tryd.results96 (by simp) ?_
  refine awp_reg_seq ?_
  intro K hK
  simp only [↓DN, UP, DF, qSh, qCv, qIA, qIx, qSl, qBu, qCe, qOn, reduceCtorEq, ↓reduceIte, nLT, nLE, nEQ, nAdd, nMul, nPow, nSub, zLT, zLE, zNat, RRefPower96]
  refine hK _ _ ?_
  clear hK K
  refine awp_reg_seq ?_
  intro K hK
  simp only [↓DN, UP, DF, qSh, qCv, qIA, qIx, qSl, qBu, qCe, qOn, reduceCtorEq, ↓reduceIte, nLT, nLE, nEQ, nAdd, nMul, nPow, nSub, zLT, zLE, zNat, RRefPower96, remPP]
  refine hK _ _ ?_
  clear hK K
  refine awp_reg_seq ?_
  intro K hK
  simp only [↓DN, UP, DF, qSh, qCv, qIA, qIx, qSl, qBu, qCe, qOn, reduceCtorEq, ↓reduceIte, nLT, nLE, nEQ, nAdd, nMul, nPow, nSub, zLT, zLE, zNat, RRefPower96, remPP]
  refine hK _ _ ?_
  clear hK K
  refine awp_reg_seq ?_
  intro K hK
  simp only [↓DN, UP, DF, qSh, qCv, qIA, qIx, qSl, qBu, qCe, qOn, reduceCtorEq, ↓reduceIte, nLT, nLE, nEQ, nAdd, nMul, nPow, nSub, zLT, zLE, zNat, RRefPower96]
  refine hK _ _ ?_
  clear hK K
  refine awp_seq_k ?_
  intro K hK
  refine awp_block ?_
  refine awp_loop (fun E s1 => ∃ o b' m : Nat, E 5 = .v (.int .u64 o) ∧ E 0 = .v (.int .u64 b') ∧ E 1 = .v (.int .u64 m) ∧ o < PP ∧ b' < PP ∧ m < 2 ^ 64 ∧ (o + b' * m) % PP = a * b % PP ∧ s1 = s)
    (fun E _ => match E 1 with | .v (.int _ i) => i.toNat | _ => 0) ?_ ?_
  · exact ⟨0, a % PP, b % PP, by simp [upd], by simp [upd], by simp [upd], by decide, mod_pp_lt _, by have := mod_pp_lt b; omega, by rw [Nat.zero_add, ← Nat.mul_mod], rfl⟩
  · rintro E1 s1 ⟨o, b', m, h5, h0, h1, ho, hb', hm, hinv, rfl⟩ -
    refine awp_seq_k ?_
    intro K2 hK2
    by_cases hm0 : m = 0
    · subst hm0
      refine awp_reg_seq ?_
      intro K hK
      simp only [↓DN, UP, DF, qSh, qCv, qIA, qIx, qSl, qBu, qCe, qOn, reduceCtorEq, ↓reduceIte, nLT, nLE, nEQ, nAdd, nMul, nPow, nSub, zLT, zLE, zNat, RRefPower96, h5, h0, h1, Int.natCast_zero, Int.lt_irrefl]
      refine hK _ _ ?_
      clear hK K
      refine awp_cond_k ?_
      intro X Y hX hY
      simp only [↓DN, UP, DF, qSh, qCv, qIA, qIx, qSl, qBu, qCe, qOn, reduceCtorEq, ↓reduceIte, nLT, nLE, nEQ, nAdd, nMul, nPow, nSub, zLT, zLE, zNat, RRefPower96, DB]
      refine hY ?_
      clear hX hY X Y
      refine awp_exit ?_
      simp only [thenQ, blockQ, if_true]
      refine hK _ _ ?_
      clear hK hK2 K K2
      refine awp_reg_seq ?_
      intro K hK
      simp only [↓DN, UP, DF, qSh, qCv, qIA, qIx, qSl, qBu, qCe, qOn, reduceCtorEq, ↓reduceIte, nLT, nLE, nEQ, nAdd, nMul, nPow, nSub, zLT, zLE, zNat, RRefPower96, h5]
      refine hK _ _ ?_
      clear hK K
      refine awp_ret ?_
      simp only [retQ, AEnds, aresL, ares, List.toList_toArray, ↓upd_same]; try simp only [↓DN, UP, DF, qSh, qCv, qIA, qIx, qSl, qBu, qCe, qOn, reduceCtorEq, ↓reduceIte, nLT, nLE, nEQ, nAdd, nMul, nPow, nSub, zLT, zLE, zNat, RRefPower96, DT]
      refine ⟨_, _, AV.weak.refl _, AS.le.refl _, ?_, rfl⟩
      rw [← hinv]
      simp [Nat.mod_eq_of_lt ho]
    · have hpos : (0 : Int) < m := by omega
      refine awp_reg_seq ?_
      intro K hK
      simp only [↓DN, UP, DF, qSh, qCv, qIA, qIx, qSl, qBu, qCe, qOn, reduceCtorEq, ↓reduceIte, nLT, nLE, nEQ, nAdd, nMul, nPow, nSub, zLT, zLE, zNat, RRefPower96, h5, h0, h1, hpos]
      refine hK _ _ ?_
      clear hK K
      refine awp_cond_k ?_
      intro X Y hX hY
      simp only [↓DN, UP, DF, qSh, qCv, qIA, qIx, qSl, qBu, qCe, qOn, reduceCtorEq, ↓reduceIte, nLT, nLE, nEQ, nAdd, nMul, nPow, nSub, zLT, zLE, zNat, RRefPower96, DB]
      refine hX ?_
      clear hX hY X Y
      refine awp_skip ?_
      refine hK2 _ _ ?_
      clear hK2 K2
      refine awp_block ?_
      refine awp_seq_k ?_
      intro K4 hK4
      have hsq : ∀ (E2 : Env) (o2 : Nat), E2 5 = .v (.int .u64 o2) → E2 0 = .v (.int .u64 b') → E2 1 = .v (.int .u64 m) → o2 < PP → (o2 + (b' + b') % PP * (m / 2)) % PP = a * b % PP → K4 E2 s1 := by
        intro E2 o2 e5 e0 e1 ho2 hinv2
        refine hK4 _ _ ?_
        clear hK4 K4
        refine awp_reg_seq ?_
        intro K hK
        simp only [↓DN, UP, DF, qSh, qCv, qIA, qIx, qSl, qBu, qCe, qOn, reduceCtorEq, ↓reduceIte, nLT, nLE, nEQ, nAdd, nMul, nPow, nSub, zLT, zLE, zNat, RRefPower96, e0, u64_add b' b' (by omega), remPP]
        refine hK _ _ ?_
        clear hK K
        refine awp_reg_end ?_
        intro K hK
        simp only [↓DN, UP, DF, qSh, qCv, qIA, qIx, qSl, qBu, qCe, qOn, reduceCtorEq, ↓reduceIte, nLT, nLE, nEQ, nAdd, nMul, nPow, nSub, zLT, zLE, zNat, RRefPower96, e1, u64_half m hm]
        refine hK _ _ ?_
        clear hK K
        have hb2 : (b' + b') % PP < PP := mod_pp_lt _
        refine ⟨⟨o2, (b' + b') % PP, m / 2, by simp only [upd, e5, nEQ, ↓reduceIte], by simp only [upd, nEQ, ↓reduceIte], by simp only [upd, ↓reduceIte], ho2, by omega, by omega, hinv2, rfl⟩, ?_⟩
        simp only [h1, upd, ↓reduceIte]
        omega
      by_cases hodd : m % 2 = 1
      · refine awp_reg_seq ?_
        intro K hK
        simp only [↓DN, UP, DF, qSh, qCv, qIA, qIx, qSl, qBu, qCe, qOn, reduceCtorEq, ↓reduceIte, nLT, nLE, nEQ, nAdd, nMul, nPow, nSub, zLT, zLE, zNat, RRefPower96, h5, h0, h1, remTwo, hodd, Int.natCast_one]
        refine hK _ _ ?_
        clear hK K
        refine awp_cond_k ?_
        intro X Y hX hY
        simp only [↓DN, UP, DF, qSh, qCv, qIA, qIx, qSl, qBu, qCe, qOn, reduceCtorEq, ↓reduceIte, nLT, nLE, nEQ, nAdd, nMul, nPow, nSub, zLT, zLE, zNat, RRefPower96, DB]
        refine hX ?_
        clear hX hY X Y
        refine awp_reg_end ?_
        intro K hK
        simp only [↓DN, UP, DF, qSh, qCv, qIA, qIx, qSl, qBu, qCe, qOn, reduceCtorEq, ↓reduceIte, nLT, nLE, nEQ, nAdd, nMul, nPow, nSub, zLT, zLE, zNat, RRefPower96, h5, h0, u64_add o b' (by omega), remPP]
        refine hK _ _ ?_
        clear hK K
        refine hsq _ ((o + b') % PP) (by simp only [upd, ↓reduceIte]) (by simp only [upd, h0, nEQ, ↓reduceIte]) (by simp only [upd, h1, nEQ, ↓reduceIte]) (mod_pp_lt _) ?_
        rw [← hinv]
        have e : b' * m = b' + (b' + b') * (m / 2) := by
          have : m = 2 * (m / 2) + 1 := by omega
          conv => lhs; rw [this]
          rw [Nat.mul_add, Nat.mul_one, ← Nat.mul_assoc, Nat.mul_two, Nat.add_comm]
        rw [e, ← Nat.add_assoc, Nat.add_mod, Nat.mod_mod, Nat.mod_mul_mod, ← Nat.add_mod]
      · have heven : m % 2 = 0 := by omega
        refine awp_reg_seq ?_
        intro K hK
        simp only [↓DN, UP, DF, qSh, qCv, qIA, qIx, qSl, qBu, qCe, qOn, reduceCtorEq, ↓reduceIte, nLT, nLE, nEQ, nAdd, nMul, nPow, nSub, zLT, zLE, zNat, RRefPower96, h5, h0, h1, remTwo, heven, Int.natCast_zero, zero_one]
        refine hK _ _ ?_
        clear hK K
        refine awp_cond_k ?_
        intro X Y hX hY
        simp only [↓DN, UP, DF, qSh, qCv, qIA, qIx, qSl, qBu, qCe, qOn, reduceCtorEq, ↓reduceIte, nLT, nLE, nEQ, nAdd, nMul, nPow, nSub, zLT, zLE, zNat, RRefPower96, DB, zero_one]
        refine hY ?_
        clear hX hY X Y
        refine awp_skip ?_
        refine hsq _ o (by simp only [upd, h5, nEQ, ↓reduceIte]) (by simp only [upd, h0, nEQ, ↓reduceIte]) (by simp only [upd, h1, nEQ, ↓reduceIte]) ho ?_
        rw [← hinv]
        have e : b' * m = (b' + b') * (m / 2) := by
          have : m = 2 * (m / 2) := by omega
          conv => lhs; rw [this]
          rw [← Nat.mul_assoc, Nat.mul_two]
        rw [e, Nat.add_mod, Nat.mod_mul_mod, ← Nat.add_mod]

set_option maxHeartbeats 400000 in
theorem refPow_calls (a n : Nat) (ha : a < 2 ^ 64) (hn : n < 2 ^ 64) (s : AS) : ACalls Tryd.prog Γ 68 [.v (.int .u64 a), .v (.int .u64 n)] s (fun r s' => r = .v (.int .u64 (a ^ n % PP : Nat)) ∧ s' = s) := by
  have hPP : PP = 2305843009213693951 := rfl
  refine acalls_body Tryd.func68 rfl Tryd.ntmps68 Tryd.results68 (by simp) ?_
  refine awp_reg_seq ?_
  intro K hK
  simp only [↓DN, UP, DF, qSh, qCv, qIA, qIx, qSl, qBu, qCe, qOn, reduceCtorEq, ↓reduceIte, nLT, nLE, nEQ, nAdd, nMul, nPow, nSub, zLT, zLE, zNat, RRefPower68]
  refine hK _ _ ?_
  clear hK K
  refine awp_reg_seq ?_
  intro K hK
  simp only [↓DN, UP, DF, qSh, qCv, qIA, qIx, qSl, qBu, qCe, qOn, reduceCtorEq, ↓reduceIte, nLT, nLE, nEQ, nAdd, nMul, nPow, nSub, zLT, zLE, zNat, RRefPower68]
  refine hK _ _ ?_
  clear hK K
  refine awp_reg_seq ?_
  intro K hK
  simp only [↓DN, UP, DF, qSh, qCv, qIA, qIx, qSl, qBu, qCe, qOn, reduceCtorEq, ↓reduceIte, nLT, nLE, nEQ, nAdd, nMul, nPow, nSub, zLT, zLE, zNat, RRefPower68, remPP]
  refine hK _ _ ?_
  clear hK K
  refine awp_seq_k ?_
  intro K hK
  refine awp_block ?_
  refine awp_loop (fun E s1 => ∃ o b m : Nat, E 5 = .v (.int .u64 o) ∧ E 0 = .v (.int .u64 b) ∧ E 1 = .v (.int .u64 m) ∧ o < PP ∧ b < 2 ^ 64 ∧ m < 2 ^ 64 ∧ o * b ^ m % PP = a ^ n % PP ∧ s1 = s)
    (fun E _ => match E 1 with | .v (.int _ i) => i.toNat | _ => 0) ?_ ?_
  · exact ⟨1, a % PP, n, by simp [upd], by simp [upd], by simp [upd, initE], by decide, by have := mod_pp_lt a; omega, hn, by rw [Nat.one_mul, ← Nat.pow_mod], rfl⟩
  · rintro E1 s1 ⟨o, b, m, h5, h0, h1, ho, hb, hm, hinv, rfl⟩ -
    refine awp_seq_k ?_
    intro K2 hK2
    by_cases hm0 : m = 0
    · subst hm0
      refine awp_reg_seq ?_
      intro K hK
      simp only [↓DN, UP, DF, qSh, qCv, qIA, qIx, qSl, qBu, qCe, qOn, reduceCtorEq, ↓reduceIte, nLT, nLE, nEQ, nAdd, nMul, nPow, nSub, zLT, zLE, zNat, RRefPower68, h5, h0, h1, Int.natCast_zero, Int.lt_irrefl]
      refine hK _ _ ?_
      clear hK K
      refine awp_cond_k ?_
      intro X Y hX hY
      simp only [↓DN, UP, DF, qSh, qCv, qIA, qIx, qSl, qBu, qCe, qOn, reduceCtorEq, ↓reduceIte, nLT, nLE, nEQ, nAdd, nMul, nPow, nSub, zLT, zLE, zNat, RRefPower68, DB]
      refine hY ?_
      clear hX hY X Y
      refine awp_exit ?_
      simp only [thenQ, blockQ, if_true]
      refine hK _ _ ?_
      clear hK hK2 K K2
      refine awp_reg_seq ?_
      intro K hK
      simp only [↓DN, UP, DF, qSh, qCv, qIA, qIx, qSl, qBu, qCe, qOn, reduceCtorEq, ↓reduceIte, nLT, nLE, nEQ, nAdd, nMul, nPow, nSub, zLT, zLE, zNat, RRefPower68, h5]
      refine hK _ _ ?_
      clear hK K
      refine awp_ret ?_
      simp only [retQ, AEnds, aresL, ares, List.toList_toArray, ↓upd_same]; try simp only [↓DN, UP, DF, qSh, qCv, qIA, qIx, qSl, qBu, qCe, qOn, reduceCtorEq, ↓reduceIte, nLT, nLE, nEQ, nAdd, nMul, nPow, nSub, zLT, zLE, zNat, RRefPower68, DT]
      refine ⟨_, _, AV.weak.refl _, AS.le.refl _, ?_, rfl⟩
      rw [← hinv]
      simp [Nat.mod_eq_of_lt ho]
    · have hpos : (0 : Int) < m := by omega
      refine awp_reg_seq ?_
      intro K hK
      simp only [↓DN, UP, DF, qSh, qCv, qIA, qIx, qSl, qBu, qCe, qOn, reduceCtorEq, ↓reduceIte, nLT, nLE, nEQ, nAdd, nMul, nPow, nSub, zLT, zLE, zNat, RRefPower68, h5, h0, h1, hpos]
      refine hK _ _ ?_
      clear hK K
      refine awp_cond_k ?_
      intro X Y hX hY
      simp only [↓DN, UP, DF, qSh, qCv, qIA, qIx, qSl, qBu, qCe, qOn, reduceCtorEq, ↓reduceIte, nLT, nLE, nEQ, nAdd, nMul, nPow, nSub, zLT, zLE, zNat, RRefPower68, DB]
      refine hX ?_
      clear hX hY X Y
      refine awp_skip ?_
      refine hK2 _ _ ?_
      clear hK2 K2
      refine awp_block ?_
      refine awp_seq_k ?_
      intro K4 hK4
      have hsq : ∀ (E2 : Env) (o2 : Nat), E2 5 = .v (.int .u64 o2) → E2 0 = .v (.int .u64 b) → E2 1 = .v (.int .u64 m) → o2 < PP → o2 * (b * b % PP) ^ (m / 2) % PP = a ^ n % PP → K4 E2 s1 := by
        intro E2 o2 e5 e0 e1 ho2 hinv2
        refine hK4 _ _ ?_
        clear hK4 K4
        refine awp_reg_seq ?_
        intro K hK
        simp only [↓DN, UP, DF, qSh, qCv, qIA, qIx, qSl, qBu, qCe, qOn, reduceCtorEq, ↓reduceIte, nLT, nLE, nEQ, nAdd, nMul, nPow, nSub, zLT, zLE, zNat, RRefPower68, e0]
        refine acallk (refMul_calls b b hb hb s1) ?_
        rintro r s' ⟨rfl, rfl⟩
        simp only [↓AXq_nil, ↓AXq_cons, pval, DX, Nat.reduceBEq, ↓DN, UP, DF, qSh, qCv, qIA, qIx, qSl, qBu, qCe, qOn, reduceCtorEq, ↓reduceIte, nLT, nLE, nEQ, nAdd, nMul, nPow, nSub, zLT, zLE, zNat, RRefPower68]
        refine hK _ _ ?_
        clear hK K
        refine awp_reg_end ?_
        intro K hK
        simp only [↓DN, UP, DF, qSh, qCv, qIA, qIx, qSl, qBu, qCe, qOn, reduceCtorEq, ↓reduceIte, nLT, nLE, nEQ, nAdd, nMul, nPow, nSub, zLT, zLE, zNat, RRefPower68, e1, u64_half m hm]
        refine hK _ _ ?_
        clear hK K
        have hb2 : b * b % PP < PP := mod_pp_lt _
        refine ⟨⟨o2, b * b % PP, m / 2, by simp only [upd, e5, nEQ, ↓reduceIte], by simp only [upd, nEQ, ↓reduceIte], by simp only [upd, ↓reduceIte], ho2, by omega, by omega, hinv2, rfl⟩, ?_⟩
        simp only [h1, upd, ↓reduceIte]
        omega
      by_cases hodd : m % 2 = 1
      · refine awp_reg_seq ?_
        intro K hK
        simp only [↓DN, UP, DF, qSh, qCv, qIA, qIx, qSl, qBu, qCe, qOn, reduceCtorEq, ↓reduceIte, nLT, nLE, nEQ, nAdd, nMul, nPow, nSub, zLT, zLE, zNat, RRefPower68, h5, h0, h1, remTwo, hodd, Int.natCast_one]
        refine hK _ _ ?_
        clear hK K
        refine awp_cond_k ?_
        intro X Y hX hY
        simp only [↓DN, UP, DF, qSh, qCv, qIA, qIx, qSl, qBu, qCe, qOn, reduceCtorEq, ↓reduceIte, nLT, nLE, nEQ, nAdd, nMul, nPow, nSub, zLT, zLE, zNat, RRefPower68, DB]
        refine hX ?_
        clear hX hY X Y
        refine awp_reg_end ?_
        intro K hK
        simp only [↓DN, UP, DF, qSh, qCv, qIA, qIx, qSl, qBu, qCe, qOn, reduceCtorEq, ↓reduceIte, nLT, nLE, nEQ, nAdd, nMul, nPow, nSub, zLT, zLE, zNat, RRefPower68, h5, h0]
        refine acallk (refMul_calls o b (by omega) hb s1) ?_
        rintro r s' ⟨rfl, rfl⟩
        simp only [↓AXq_nil, ↓AXq_cons, pval, DX, Nat.reduceBEq, ↓DN, UP, DF, qSh, qCv, qIA, qIx, qSl, qBu, qCe, qOn, reduceCtorEq, ↓reduceIte, nLT, nLE, nEQ, nAdd, nMul, nPow, nSub, zLT, zLE, zNat, RRefPower68]
        refine hK _ _ ?_
        clear hK K
        refine hsq _ (o * b % PP) (by simp only [upd, ↓reduceIte]) (by simp only [upd, h0, nEQ, ↓reduceIte]) (by simp only [upd, h1, nEQ, ↓reduceIte]) (mod_pp_lt _) ?_
        rw [← hinv]
        have e : b ^ m = b * (b * b) ^ (m / 2) := by
          have : m = 2 * (m / 2) + 1 := by omega
          conv => lhs; rw [this, Nat.pow_succ, Nat.pow_mul, Nat.pow_two, Nat.mul_comm]
        rw [e, ← Nat.mul_assoc, Nat.mul_mod, Nat.mod_mod, ← Nat.pow_mod, ← Nat.mul_mod]
      · have heven : m % 2 = 0 := by omega
        refine awp_reg_seq ?_
        intro K hK
        simp only [↓DN, UP, DF, qSh, qCv, qIA, qIx, qSl, qBu, qCe, qOn, reduceCtorEq, ↓reduceIte, nLT, nLE, nEQ, nAdd, nMul, nPow, nSub, zLT, zLE, zNat, RRefPower68, h5, h0, h1, remTwo, heven, Int.natCast_zero, zero_one]
        refine hK _ _ ?_
        clear hK K
        refine awp_cond_k ?_
        intro X Y hX hY
        simp only [↓DN, UP, DF, qSh, qCv, qIA, qIx, qSl, qBu, qCe, qOn, reduceCtorEq, ↓reduceIte, nLT, nLE, nEQ, nAdd, nMul, nPow, nSub, zLT, zLE, zNat, RRefPower68, DB, zero_one]
        refine hY ?_
        clear hX hY X Y
        refine awp_skip ?_
        refine hsq _ o (by simp only [upd, h5, nEQ, ↓reduceIte]) (by simp only [upd, h0, nEQ, ↓reduceIte]) (by simp only [upd, h1, nEQ, ↓reduceIte]) ho ?_
        rw [← hinv]
        have e : b ^ m = (b * b) ^ (m / 2) := by
          have : m = 2 * (m / 2) := by omega
          conv => lhs; rw [this, Nat.pow_mul, Nat.pow_two]
        rw [e, Nat.mul_mod, ← Nat.pow_mod, ← Nat.mul_mod]

end Go.Proofs.YtooeklnbdgoneaaDoor


set_option autoImplicit false
namespace Go.Proofs.YtooeklnbdgoneaaDoor
open Go Go.AM Go.Proofs

theorem RPow193 : type_of% (And.intro (And.intro (And.intro (And.intro (And.intro @Tryd.underlying4 (And.intro T.c4 T.g4)) (And.intro (And.intro T.b4 T.z4) (And.intro @Tryd.underlying22 T.c22))) (And.intro (And.intro (And.intro T.g22 T.b22) (And.intro T.z22 T.s22)) (And.intro (And.intro @Tryd.underlying41 T.c41) (And.intro T.g41 T.b41)))) (And.intro (And.intro (And.intro (And.intro T.z41 @Tryd.underlying61) (And.intro T.c61 T.g61)) (And.intro (And.intro T.b61 T.z61) (And.intro T.p61 @Tryd.underlying105))) (And.intro (And.intro (And.intro T.c105 T.g105) (And.intro T.b105 T.z105)) (And.intro (And.intro T.h105 T.k34) (And.intro T.k57 T.k36))))) Tryd.ntmps93) :=
  (And.intro (And.intro (And.intro (And.intro (And.intro @Tryd.underlying4 (And.intro T.c4 T.g4)) (And.intro (And.intro T.b4 T.z4) (And.intro @Tryd.underlying22 T.c22))) (And.intro (And.intro (And.intro T.g22 T.b22) (And.intro T.z22 T.s22)) (And.intro (And.intro @Tryd.underlying41 T.c41) (And.intro T.g41 T.b41)))) (And.intro (And.intro (And.intro (And.intro T.z41 @Tryd.underlying61) (And.intro T.c61 T.g61)) (And.intro (And.intro T.b61 T.z61) (And.intro T.p61 @Tryd.underlying105))) (And.intro (And.intro (And.intro T.c105 T.g105) (And.intro T.b105 T.z105)) (And.intro (And.intro T.h105 T.k34) (And.intro T.k57 T.k36))))) Tryd.ntmps93)
theorem RPow161 : type_of% (And.intro (And.intro (And.intro (And.intro (And.intro (And.intro @Tryd.underlying3 T.c3) (And.intro T.g3 (And.intro T.b3 T.z3))) (And.intro (And.intro @Tryd.underlying5 (And.intro T.c5 T.g5)) (And.intro T.b5 (And.intro T.z5 @Tryd.underlying9)))) (And.intro (And.intro (And.intro T.c9 (And.intro T.g9 T.b9)) (And.intro T.z9 (And.intro @Tryd.underlying22 T.c22))) (And.intro (And.intro T.g22 (And.intro T.b22 T.z22)) (And.intro T.s22 (And.intro @Tryd.underlying30 T.c30))))) (And.intro (And.intro (And.intro (And.intro T.g30 T.b30) (And.intro T.z30 (And.intro @Tryd.underlying41 T.c41))) (And.intro (And.intro T.g41 (And.intro T.b41 T.z41)) (And.intro @Tryd.underlying66 (And.intro T.c66 T.g66)))) (And.intro (And.intro (And.intro T.b66 (And.intro T.z66 T.p66)) (And.intro @Tryd.underlying108 (And.intro T.c108 T.g108))) (And.intro (And.intro T.b108 (And.intro T.z108 T.h108)) (And.intro T.k81 (And.intro T.k37 T.k71)))))) Tryd.ntmps61) :=
  (And.intro (And.intro (And.intro (And.intro (And.intro (And.intro @Tryd.underlying3 T.c3) (And.intro T.g3 (And.intro T.b3 T.z3))) (And.intro (And.intro @Tryd.underlying5 (And.intro T.c5 T.g5)) (And.intro T.b5 (And.intro T.z5 @Tryd.underlying9)))) (And.intro (And.intro (And.intro T.c9 (And.intro T.g9 T.b9)) (And.intro T.z9 (And.intro @Tryd.underlying22 T.c22))) (And.intro (And.intro T.g22 (And.intro T.b22 T.z22)) (And.intro T.s22 (And.intro @Tryd.underlying30 T.c30))))) (And.intro (And.intro (And.intro (And.intro T.g30 T.b30) (And.intro T.z30 (And.intro @Tryd.underlying41 T.c41))) (And.intro (And.intro T.g41 (And.intro T.b41 T.z41)) (And.intro @Tryd.underlying66 (And.intro T.c66 T.g66)))) (And.intro (And.intro (And.intro T.b66 (And.intro T.z66 T.p66)) (And.intro @Tryd.underlying108 (And.intro T.c108 T.g108))) (And.intro (And.intro T.b108 (And.intro T.z108 T.h108)) (And.intro T.k81 (And.intro T.k37 T.k71)))))) Tryd.ntmps61)
theorem RPow131 : type_of% (And.intro (And.intro (And.intro (And.intro (And.intro @Tryd.underlying3 T.c3) (And.intro T.g3 T.b3)) (And.intro (And.intro T.z3 @Tryd.underlying9) (And.intro T.c9 T.g9))) (And.intro (And.intro (And.intro T.b9 T.z9) (And.intro @Tryd.underlying41 T.c41)) (And.intro (And.intro T.g41 T.b41) (And.intro T.z41 (And.intro T.k67 T.k53))))) Tryd.ntmps31) :=
  (And.intro (And.intro (And.intro (And.intro (And.intro @Tryd.underlying3 T.c3) (And.intro T.g3 T.b3)) (And.intro (And.intro T.z3 @Tryd.underlying9) (And.intro T.c9 T.g9))) (And.intro (And.intro (And.intro T.b9 T.z9) (And.intro @Tryd.underlying41 T.c41)) (And.intro (And.intro T.g41 T.b41) (And.intro T.z41 (And.intro T.k67 T.k53))))) Tryd.ntmps31)
theorem RPow162 : type_of% (And.intro (And.intro (And.intro @Tryd.underlying41 (And.intro T.c41 T.g41)) (And.intro T.b41 (And.intro T.z41 T.k91))) Tryd.ntmps62) :=
  (And.intro (And.intro (And.intro @Tryd.underlying41 (And.intro T.c41 T.g41)) (And.intro T.b41 (And.intro T.z41 T.k91))) Tryd.ntmps62)
theorem RPow132 : type_of% (And.intro (And.intro (And.intro @Tryd.underlying41 (And.intro T.c41 T.g41)) (And.intro T.b41 (And.intro T.z41 T.k68))) Tryd.ntmps32) :=
  (And.intro (And.intro (And.intro @Tryd.underlying41 (And.intro T.c41 T.g41)) (And.intro T.b41 (And.intro T.z41 T.k68))) Tryd.ntmps32)
theorem RPow195 : type_of% (And.intro (And.intro (And.intro (And.intro @Tryd.underlying3 T.c3) (And.intro T.g3 (And.intro T.b3 T.z3))) (And.intro (And.intro @Tryd.underlying41 (And.intro T.c41 T.g41)) (And.intro T.b41 (And.intro T.z41 T.k59)))) Tryd.ntmps95) :=
  (And.intro (And.intro (And.intro (And.intro @Tryd.underlying3 T.c3) (And.intro T.g3 (And.intro T.b3 T.z3))) (And.intro (And.intro @Tryd.underlying41 (And.intro T.c41 T.g41)) (And.intro T.b41 (And.intro T.z41 T.k59)))) Tryd.ntmps95)
theorem RPow164 : type_of% (And.intro (And.intro (And.intro @Tryd.underlying41 (And.intro T.c41 T.g41)) (And.intro (And.intro T.b41 T.z41) (And.intro T.k91 T.k93))) Tryd.ntmps64) :=
  (And.intro (And.intro (And.intro @Tryd.underlying41 (And.intro T.c41 T.g41)) (And.intro (And.intro T.b41 T.z41) (And.intro T.k91 T.k93))) Tryd.ntmps64)
theorem RPow166 : type_of% (And.intro (And.intro (And.intro @Tryd.underlying41 (And.intro T.c41 T.g41)) (And.intro (And.intro T.b41 T.z41) (And.intro T.k95 T.k68))) Tryd.ntmps66) :=
  (And.intro (And.intro (And.intro @Tryd.underlying41 (And.intro T.c41 T.g41)) (And.intro (And.intro T.b41 T.z41) (And.intro T.k95 T.k68))) Tryd.ntmps66)

variable {Γ : Nat → List AV}



def keyW : List UInt8 := [107, 101, 121]
def powKey (x : List UInt8) : Nat := 1 + beNat (Kdf.label x keyW [] 8) % 2305843009213693949
theorem key_fits : Kdf.fits keyW [] 8 = true := by decide
theorem key_label_len (x : List UInt8) : (Kdf.label x keyW [] 8).length = 8 := by
  rw [Kdf.label, key_fits, if_pos rfl]
  exact Kdf.expand_len _ _ _
theorem powKey_lt (x : List UInt8) : powKey x < 2305843009213693950 := by unfold powKey; omega
theorem powKey_pos (x : List UInt8) : 1 ≤ powKey x := by unfold powKey; omega
theorem one_add_rem (n : Nat) : iadd .u64 1 (irem (n : Int) 2305843009213693949) = ((1 + n % 2305843009213693949 : Nat) : Int) := by
  have h : irem (n : Int) 2305843009213693949 = ((n % 2305843009213693949 : Nat) : Int) := irem_u n 2305843009213693949
  rw [h]
  exact u64_add 1 _ (by omega)
theorem eye8 (l : List UInt8) (h : l.length = 8) : (eyeNum 8 (l, 0)).1 = beNat l := by
  have e : List.take 8 l = l := List.take_of_length_le (by omega)
  simp [eyeNum, eyeNext, h, e]

set_option maxHeartbeats 400000 in
theorem powOctets_calls (n : Nat) (hn : n < 2 ^ 64) (s : AS) : ACalls Tryd.prog Γ 93 [.v (.int .u64 n)] s (fun r s' => r = bytesV (be 8 n) .any ∧ s' = s) := by
  refine acalls_body Tryd.func93 rfl Tryd.ntmps93 Tryd.results93 (by simp) ?_
  refine awp_reg_seq ?_
  intro K hK
  simp only [↓DN, UP, DF, qSh, qCv, qIA, qIx, qSl, qBu, qCe, qOn, reduceCtorEq, ↓reduceIte, nLT, nLE, nEQ, nAdd, nMul, nPow, nSub, zLT, zLE, zNat, RPow193]
  refine hK _ _ ?_
  clear hK K
  refine awp_reg_seq ?_
  intro K hK
  simp only [↓DN, UP, DF, qSh, qCv, qIA, qIx, qSl, qBu, qCe, qOn, reduceCtorEq, ↓reduceIte, nLT, nLE, nEQ, nAdd, nMul, nPow, nSub, zLT, zLE, zNat, RPow193]
  refine acallk (new_calls s) ?_
  rintro r s1 ⟨p, rfl, hp⟩
  simp only [↓AXq_nil, ↓AXq_cons, pval, DX, Nat.reduceBEq, ↓DN, UP, DF, qSh, qCv, qIA, qIx, qSl, qBu, qCe, qOn, reduceCtorEq, ↓reduceIte, nLT, nLE, nEQ, nAdd, nMul, nPow, nSub, zLT, zLE, zNat, RPow193]
  refine hK _ _ ?_
  clear hK K
  refine awp_reg_seq ?_
  intro K hK
  simp only [↓DN, UP, DF, qSh, qCv, qIA, qIx, qSl, qBu, qCe, qOn, reduceCtorEq, ↓reduceIte, nLT, nLE, nEQ, nAdd, nMul, nPow, nSub, zLT, zLE, zNat, RPow193]
  refine acallk (penU64_calls s s1 p ([], false) n hn (by simp) hp) ?_
  rintro r s2 ⟨rfl, hp2⟩
  simp only [↓AXq_nil, ↓AXq_cons, pval, DX, Nat.reduceBEq, ↓DN, UP, DF, qSh, qCv, qIA, qIx, qSl, qBu, qCe, qOn, reduceCtorEq, ↓reduceIte, nLT, nLE, nEQ, nAdd, nMul, nPow, nSub, zLT, zLE, zNat, RPow193]
  refine hK _ _ ?_
  clear hK K
  have hpen : penNum 8 n ([], false) = (be 8 n, false) := by simp [penNum]
  rw [hpen] at hp2
  refine awp_reg_seq ?_
  intro K hK
  simp only [↓DN, UP, DF, qSh, qCv, qIA, qIx, qSl, qBu, qCe, qOn, reduceCtorEq, ↓reduceIte, nLT, nLE, nEQ, nAdd, nMul, nPow, nSub, zLT, zLE, zNat, RPow193]
  refine acallk (penBytes_calls s s2 p _ (by simp) hp2) ?_
  rintro r s3 ⟨rfl, rfl⟩
  simp only [↓AXq_nil, ↓AXq_cons, pval, DX, Nat.reduceBEq, ↓DN, UP, DF, qSh, qCv, qIA, qIx, qSl, qBu, qCe, qOn, reduceCtorEq, ↓reduceIte, nLT, nLE, nEQ, nAdd, nMul, nPow, nSub, zLT, zLE, zNat, RPow193]
  refine hK _ _ ?_
  clear hK K
  refine awp_reg_seq ?_
  intro K hK
  simp only [↓DN, UP, DF, qSh, qCv, qIA, qIx, qSl, qBu, qCe, qOn, reduceCtorEq, ↓reduceIte, nLT, nLE, nEQ, nAdd, nMul, nPow, nSub, zLT, zLE, zNat, RPow193]
  refine hK _ _ ?_
  clear hK K
  refine awp_ret ?_
  simp only [retQ, AEnds, aresL, ares, List.toList_toArray, ↓upd_same]; try simp only [↓DN, UP, DF, qSh, qCv, qIA, qIx, qSl, qBu, qCe, qOn, reduceCtorEq, ↓reduceIte, nLT, nLE, nEQ, nAdd, nMul, nPow, nSub, zLT, zLE, zNat, RPow193, DT]
  exact ⟨_, s, AV.weak.refl _, hp2.le, rfl, rfl⟩

set_option maxHeartbeats 400000 in
theorem powKey_calls (hG0 : Γ 0 = stC Sha.H0) (hG : Γ 1 = Sha.K.map wV) (x : List UInt8) (hx : x.length ≤ 2 ^ 36) (s : AS) : ACalls Tryd.prog Γ 61 [bytesV x .any] s (fun r s' => r = .v (.int .u64 (powKey x)) ∧ s' = s) := by
  refine acalls_body Tryd.func61 rfl Tryd.ntmps61 Tryd.results61 (by simp) ?_
  have hlen := key_label_len x
  have hlab := label_calls (Γ := Γ) hG0 hG x keyW [] 8 hx (by decide) (by decide) (by decide) s
  have hkey : powKey x = 1 + beNat (Kdf.label x keyW [] 8) % 2305843009213693949 := rfl
  generalize powKey x = k at *
  generalize Kdf.label x keyW [] 8 = l at *
  refine awp_reg_seq ?_
  intro K hK
  simp only [↓DN, UP, DF, qSh, qCv, qIA, qIx, qSl, qBu, qCe, qOn, reduceCtorEq, ↓reduceIte, nLT, nLE, nEQ, nAdd, nMul, nPow, nSub, zLT, zLE, zNat, RPow161]
  refine hK _ _ ?_
  clear hK K
  refine awp_reg_seq ?_
  intro K hK
  simp only [↓DN, UP, DF, qSh, qCv, qIA, qIx, qSl, qBu, qCe, qOn, reduceCtorEq, ↓reduceIte, nLT, nLE, nEQ, nAdd, nMul, nPow, nSub, zLT, zLE, zNat, RPow161]
  refine acallk (ACalls.weaks (AVs.weak.cons (AV.weak.refl _) (AVs.weak.cons (AV.weak.refl _) (AVs.weak.cons (AV.weak_nil (sz := 1)) (AVs.weak.refl _)))) hlab) ?_
  rintro r s1 ⟨rfl, rfl⟩
  simp only [↓AXq_nil, ↓AXq_cons, pval, DX, Nat.reduceBEq, ↓DN, UP, DF, qSh, qCv, qIA, qIx, qSl, qBu, qCe, qOn, reduceCtorEq, ↓reduceIte, nLT, nLE, nEQ, nAdd, nMul, nPow, nSub, zLT, zLE, zNat, RPow161]
  refine hK _ _ ?_
  clear hK K
  refine awp_reg_seq ?_
  intro K hK
  simp only [↓DN, UP, DF, qSh, qCv, qIA, qIx, qSl, qBu, qCe, qOn, reduceCtorEq, ↓reduceIte, nLT, nLE, nEQ, nAdd, nMul, nPow, nSub, zLT, zLE, zNat, RPow161]
  refine acallk (open_calls l s1 (by omega)) ?_
  rintro r s2 ⟨p, rfl, hp⟩
  simp only [↓AXq_nil, ↓AXq_cons, pval, DX, Nat.reduceBEq, ↓DN, UP, DF, qSh, qCv, qIA, qIx, qSl, qBu, qCe, qOn, reduceCtorEq, ↓reduceIte, nLT, nLE, nEQ, nAdd, nMul, nPow, nSub, zLT, zLE, zNat, RPow161]
  refine acallk (eyeU64_calls s1 s2 p _ hp) ?_
  rintro r s3 ⟨rfl, hp3⟩
  rw [eye8 l hlen]
  simp only [↓AXq_nil, ↓AXq_cons, pval, DX, Nat.reduceBEq, ↓DN, UP, DF, qSh, qCv, qIA, qIx, qSl, qBu, qCe, qOn, reduceCtorEq, ↓reduceIte, nLT, nLE, nEQ, nAdd, nMul, nPow, nSub, zLT, zLE, zNat, RPow161, one_add_rem]
  refine hK _ _ ?_
  clear hK K
  refine awp_ret ?_
  simp only [retQ, AEnds, aresL, ares, List.toList_toArray, ↓upd_same]; try simp only [↓DN, UP, DF, qSh, qCv, qIA, qIx, qSl, qBu, qCe, qOn, reduceCtorEq, ↓reduceIte, nLT, nLE, nEQ, nAdd, nMul, nPow, nSub, zLT, zLE, zNat, RPow161, DT]
  rw [hkey, one_add_rem]
  exact ⟨_, s1, AV.weak.refl _, hp3.le, rfl, rfl⟩

set_option maxHeartbeats 400000 in
theorem refKey07_calls (x : List UInt8) (hx : x.length ≤ 2 ^ 36) (s : AS) : ACalls Tryd.prog Γ 31 [.v (.string ⟨x.toArray⟩)] s (fun r s' => r = .v (.int .u64 (powKey x)) ∧ s' = s) := by
  refine acalls_body Tryd.func31 rfl Tryd.ntmps31 Tryd.results31 (by simp) ?_
  have hlen := key_label_len x
  have hlab := refLabel_calls (Γ := Γ) x keyW [] 8 hx key_fits s
  have hkey : powKey x = 1 + beNat (Kdf.label x keyW [] 8) % 2305843009213693949 := rfl
  generalize powKey x = k at *
  generalize Kdf.label x keyW [] 8 = l at *
  refine awp_reg_seq ?_
  intro K hK
  simp only [↓DN, UP, DF, qSh, qCv, qIA, qIx, qSl, qBu, qCe, qOn, reduceCtorEq, ↓reduceIte, nLT, nLE, nEQ, nAdd, nMul, nPow, nSub, zLT, zLE, zNat, RPow131]
  refine hK _ _ ?_
  clear hK K
  refine awp_reg_seq ?_
  intro K hK
  simp only [↓DN, UP, DF, qSh, qCv, qIA, qIx, qSl, qBu, qCe, qOn, reduceCtorEq, ↓reduceIte, nLT, nLE, nEQ, nAdd, nMul, nPow, nSub, zLT, zLE, zNat, RPow131]
  refine acallk hlab ?_
  rintro r s1 ⟨rfl, rfl⟩
  simp only [↓AXq_nil, ↓AXq_cons, pval, DX, Nat.reduceBEq, ↓DN, UP, DF, qSh, qCv, qIA, qIx, qSl, qBu, qCe, qOn, reduceCtorEq, ↓reduceIte, nLT, nLE, nEQ, nAdd, nMul, nPow, nSub, zLT, zLE, zNat, RPow131]
  refine acallk (value_calls l (by omega) s1) ?_
  rintro r s2 ⟨rfl, rfl⟩
  simp only [↓AXq_nil, ↓AXq_cons, pval, DX, Nat.reduceBEq, ↓DN, UP, DF, qSh, qCv, qIA, qIx, qSl, qBu, qCe, qOn, reduceCtorEq, ↓reduceIte, nLT, nLE, nEQ, nAdd, nMul, nPow, nSub, zLT, zLE, zNat, RPow131, one_add_rem]
  refine hK _ _ ?_
  clear hK K
  refine awp_ret ?_
  simp only [retQ, AEnds, aresL, ares, List.toList_toArray, ↓upd_same]; try simp only [↓DN, UP, DF, qSh, qCv, qIA, qIx, qSl, qBu, qCe, qOn, reduceCtorEq, ↓reduceIte, nLT, nLE, nEQ, nAdd, nMul, nPow, nSub, zLT, zLE, zNat, RPow131, DT]
  rw [hkey, one_add_rem]
  exact ⟨_, _, AV.weak.refl _, AS.le.refl _, rfl, rfl⟩

set_option maxHeartbeats 400000 in
theorem powPublic_calls (k : Nat) (hk : k < 2 ^ 64) (s : AS) : ACalls Tryd.prog Γ 62 [.v (.int .u64 k)] s (fun r s' => r = .v (.int .u64 (3 ^ k % PP : Nat)) ∧ s' = s) := by
  refine acalls_body Tryd.func62 rfl Tryd.ntmps62 Tryd.results62 (by simp) ?_
  have h := pow_calls (Γ := Γ) 3 k (by decide) hk s
  generalize 3 ^ k % PP = A at *
  refine awp_reg_seq ?_
  intro K hK
  simp only [↓DN, UP, DF, qSh, qCv, qIA, qIx, qSl, qBu, qCe, qOn, reduceCtorEq, ↓reduceIte, nLT, nLE, nEQ, nAdd, nMul, nPow, nSub, zLT, zLE, zNat, RPow162]
  refine hK _ _ ?_
  clear hK K
  refine awp_reg_seq ?_
  intro K hK
  simp only [↓DN, UP, DF, qSh, qCv, qIA, qIx, qSl, qBu, qCe, qOn, reduceCtorEq, ↓reduceIte, nLT, nLE, nEQ, nAdd, nMul, nPow, nSub, zLT, zLE, zNat, RPow162]
  refine acallk h ?_
  rintro r s1 ⟨rfl, rfl⟩
  simp only [↓AXq_nil, ↓AXq_cons, pval, DX, Nat.reduceBEq, ↓DN, UP, DF, qSh, qCv, qIA, qIx, qSl, qBu, qCe, qOn, reduceCtorEq, ↓reduceIte, nLT, nLE, nEQ, nAdd, nMul, nPow, nSub, zLT, zLE, zNat, RPow162]
  refine hK _ _ ?_
  clear hK K
  refine awp_ret ?_
  simp only [retQ, AEnds, aresL, ares, List.toList_toArray, ↓upd_same]; try simp only [↓DN, UP, DF, qSh, qCv, qIA, qIx, qSl, qBu, qCe, qOn, reduceCtorEq, ↓reduceIte, nLT, nLE, nEQ, nAdd, nMul, nPow, nSub, zLT, zLE, zNat, RPow162, DT]
  exact ⟨_, _, AV.weak.refl _, AS.le.refl _, rfl, rfl⟩

set_option maxHeartbeats 400000 in
theorem refPublic07_calls (k : Nat) (hk : k < 2 ^ 64) (s : AS) : ACalls Tryd.prog Γ 32 [.v (.int .u64 k)] s (fun r s' => r = .v (.int .u64 (3 ^ k % PP : Nat)) ∧ s' = s) := by
  refine acalls_body Tryd.func32 rfl Tryd.ntmps32 Tryd.results32 (by simp) ?_
  have h := refPow_calls (Γ := Γ) 3 k (by decide) hk s
  generalize 3 ^ k % PP = A at *
  refine awp_reg_seq ?_
  intro K hK
  simp only [↓DN, UP, DF, qSh, qCv, qIA, qIx, qSl, qBu, qCe, qOn, reduceCtorEq, ↓reduceIte, nLT, nLE, nEQ, nAdd, nMul, nPow, nSub, zLT, zLE, zNat, RPow132]
  refine hK _ _ ?_
  clear hK K
  refine awp_reg_seq ?_
  intro K hK
  simp only [↓DN, UP, DF, qSh, qCv, qIA, qIx, qSl, qBu, qCe, qOn, reduceCtorEq, ↓reduceIte, nLT, nLE, nEQ, nAdd, nMul, nPow, nSub, zLT, zLE, zNat, RPow132]
  refine acallk h ?_
  rintro r s1 ⟨rfl, rfl⟩
  simp only [↓AXq_nil, ↓AXq_cons, pval, DX, Nat.reduceBEq, ↓DN, UP, DF, qSh, qCv, qIA, qIx, qSl, qBu, qCe, qOn, reduceCtorEq, ↓reduceIte, nLT, nLE, nEQ, nAdd, nMul, nPow, nSub, zLT, zLE, zNat, RPow132]
  refine hK _ _ ?_
  clear hK K
  refine awp_ret ?_
  simp only [retQ, AEnds, aresL, ares, List.toList_toArray, ↓upd_same]; try simp only [↓DN, UP, DF, qSh, qCv, qIA, qIx, qSl, qBu, qCe, qOn, reduceCtorEq, ↓reduceIte, nLT, nLE, nEQ, nAdd, nMul, nPow, nSub, zLT, zLE, zNat, RPow132, DT]
  exact ⟨_, _, AV.weak.refl _, AS.le.refl _, rfl, rfl⟩

set_option maxHeartbeats 400000 in
theorem refOctets07_calls (n : Nat) (hn : n < 2 ^ 64) (s : AS) : ACalls Tryd.prog Γ 95 [.v (.int .u64 n)] s (fun r s' => r = .v (.string ⟨(be 8 n).toArray⟩) ∧ s' = s) := by
  refine acalls_body Tryd.func95 rfl Tryd.ntmps95 Tryd.results95 (by simp) ?_
  refine awp_reg_seq ?_
  intro K hK
  simp only [↓DN, UP, DF, qSh, qCv, qIA, qIx, qSl, qBu, qCe, qOn, reduceCtorEq, ↓reduceIte, nLT, nLE, nEQ, nAdd, nMul, nPow, nSub, zLT, zLE, zNat, RPow195]
  refine hK _ _ ?_
  clear hK K
  refine awp_reg_seq ?_
  intro K hK
  simp only [↓DN, UP, DF, qSh, qCv, qIA, qIx, qSl, qBu, qCe, qOn, reduceCtorEq, ↓reduceIte, nLT, nLE, nEQ, nAdd, nMul, nPow, nSub, zLT, zLE, zNat, RPow195]
  refine acallk (refNumber_calls n 8 hn (by omega) s) ?_
  rintro r s1 ⟨rfl, rfl⟩
  simp only [↓AXq_nil, ↓AXq_cons, pval, DX, Nat.reduceBEq, ↓DN, UP, DF, qSh, qCv, qIA, qIx, qSl, qBu, qCe, qOn, reduceCtorEq, ↓reduceIte, nLT, nLE, nEQ, nAdd, nMul, nPow, nSub, zLT, zLE, zNat, RPow195]
  refine hK _ _ ?_
  clear hK K
  refine awp_ret ?_
  simp only [retQ, AEnds, aresL, ares, List.toList_toArray, ↓upd_same]; try simp only [↓DN, UP, DF, qSh, qCv, qIA, qIx, qSl, qBu, qCe, qOn, reduceCtorEq, ↓reduceIte, nLT, nLE, nEQ, nAdd, nMul, nPow, nSub, zLT, zLE, zNat, RPow195, DT]
  exact ⟨_, _, AV.weak.refl _, AS.le.refl _, rfl, rfl⟩

set_option maxHeartbeats 400000 in
theorem powShared_calls (k p : Nat) (hk : k < 2 ^ 64) (hp : p < 2 ^ 64) (s : AS) : ACalls Tryd.prog Γ 64 [.v (.int .u64 k), .v (.int .u64 p)] s (fun r s' => r = bytesV (be 8 (p ^ k % PP)) .any ∧ s' = s) := by
  refine acalls_body Tryd.func64 rfl Tryd.ntmps64 Tryd.results64 (by simp) ?_
  have h := pow_calls (Γ := Γ) p k hp hk s
  have hl : p ^ k % PP < 2 ^ 64 := by have := mod_pp_lt (p ^ k); have := pp_lt; omega
  generalize p ^ k % PP = A at *
  refine awp_reg_seq ?_
  intro K hK
  simp only [↓DN, UP, DF, qSh, qCv, qIA, qIx, qSl, qBu, qCe, qOn, reduceCtorEq, ↓reduceIte, nLT, nLE, nEQ, nAdd, nMul, nPow, nSub, zLT, zLE, zNat, RPow164]
  refine hK _ _ ?_
  clear hK K
  refine awp_reg_seq ?_
  intro K hK
  simp only [↓DN, UP, DF, qSh, qCv, qIA, qIx, qSl, qBu, qCe, qOn, reduceCtorEq, ↓reduceIte, nLT, nLE, nEQ, nAdd, nMul, nPow, nSub, zLT, zLE, zNat, RPow164]
  refine acallk h ?_
  rintro r s1 ⟨rfl, rfl⟩
  simp only [↓AXq_nil, ↓AXq_cons, pval, DX, Nat.reduceBEq, ↓DN, UP, DF, qSh, qCv, qIA, qIx, qSl, qBu, qCe, qOn, reduceCtorEq, ↓reduceIte, nLT, nLE, nEQ, nAdd, nMul, nPow, nSub, zLT, zLE, zNat, RPow164]
  refine acallk (powOctets_calls A hl s1) ?_
  rintro r s2 ⟨rfl, rfl⟩
  simp only [↓AXq_nil, ↓AXq_cons, pval, DX, Nat.reduceBEq, ↓DN, UP, DF, qSh, qCv, qIA, qIx, qSl, qBu, qCe, qOn, reduceCtorEq, ↓reduceIte, nLT, nLE, nEQ, nAdd, nMul, nPow, nSub, zLT, zLE, zNat, RPow164]
  refine hK _ _ ?_
  clear hK K
  refine awp_ret ?_
  simp only [retQ, AEnds, aresL, ares, List.toList_toArray, ↓upd_same]; try simp only [↓DN, UP, DF, qSh, qCv, qIA, qIx, qSl, qBu, qCe, qOn, reduceCtorEq, ↓reduceIte, nLT, nLE, nEQ, nAdd, nMul, nPow, nSub, zLT, zLE, zNat, RPow164, DT]
  exact ⟨_, _, AV.weak.refl _, AS.le.refl _, rfl, rfl⟩

set_option maxHeartbeats 400000 in
theorem refShared07_calls (k p : Nat) (hk : k < 2 ^ 64) (hp : p < 2 ^ 64) (s : AS) : ACalls Tryd.prog Γ 66 [.v (.int .u64 k), .v (.int .u64 p)] s (fun r s' => r = .v (.string ⟨(be 8 (p ^ k % PP)).toArray⟩) ∧ s' = s) := by
  refine acalls_body Tryd.func66 rfl Tryd.ntmps66 Tryd.results66 (by simp) ?_
  have h := refPow_calls (Γ := Γ) p k hp hk s
  have hl : p ^ k % PP < 2 ^ 64 := by have := mod_pp_lt (p ^ k); have := pp_lt; omega
  generalize p ^ k % PP = A at *
  refine awp_reg_seq ?_
  intro K hK
  simp only [↓DN, UP, DF, qSh, qCv, qIA, qIx, qSl, qBu, qCe, qOn, reduceCtorEq, ↓reduceIte, nLT, nLE, nEQ, nAdd, nMul, nPow, nSub, zLT, zLE, zNat, RPow166]
  refine hK _ _ ?_
  clear hK K
  refine awp_reg_seq ?_
  intro K hK
  simp only [↓DN, UP, DF, qSh, qCv, qIA, qIx, qSl, qBu, qCe, qOn, reduceCtorEq, ↓reduceIte, nLT, nLE, nEQ, nAdd, nMul, nPow, nSub, zLT, zLE, zNat, RPow166]
  refine acallk h ?_
  rintro r s1 ⟨rfl, rfl⟩
  simp only [↓AXq_nil, ↓AXq_cons, pval, DX, Nat.reduceBEq, ↓DN, UP, DF, qSh, qCv, qIA, qIx, qSl, qBu, qCe, qOn, reduceCtorEq, ↓reduceIte, nLT, nLE, nEQ, nAdd, nMul, nPow, nSub, zLT, zLE, zNat, RPow166]
  refine acallk (refOctets07_calls A hl s1) ?_
  rintro r s2 ⟨rfl, rfl⟩
  simp only [↓AXq_nil, ↓AXq_cons, pval, DX, Nat.reduceBEq, ↓DN, UP, DF, qSh, qCv, qIA, qIx, qSl, qBu, qCe, qOn, reduceCtorEq, ↓reduceIte, nLT, nLE, nEQ, nAdd, nMul, nPow, nSub, zLT, zLE, zNat, RPow166]
  refine hK _ _ ?_
  clear hK K
  refine awp_ret ?_
  simp only [retQ, AEnds, aresL, ares, List.toList_toArray, ↓upd_same]; try simp only [↓DN, UP, DF, qSh, qCv, qIA, qIx, qSl, qBu, qCe, qOn, reduceCtorEq, ↓reduceIte, nLT, nLE, nEQ, nAdd, nMul, nPow, nSub, zLT, zLE, zNat, RPow166, DT]
  exact ⟨_, _, AV.weak.refl _, AS.le.refl _, rfl, rfl⟩

end Go.Proofs.YtooeklnbdgoneaaDoor


set_option autoImplicit false
namespace Go.AM
namespace Vault
def nonceW : List UInt8 := [110, 111, 110, 99, 101]
def text0 : List UInt8 := [97, 32, 115, 101, 99, 114, 101, 116, 32, 111, 102, 32, 116, 119, 111, 32, 97, 110, 100, 32, 116, 104, 105, 114, 116, 121, 32, 98, 121, 116, 101, 115]
def k0 : List UInt8 := [169, 244, 63, 67, 64, 52, 17, 249, 117, 86, 100, 57, 122, 167, 125, 1, 230, 91, 103, 131, 115, 144, 199, 68, 248, 159, 166, 218, 250, 248, 1, 114, 135, 15, 162, 208, 108, 252, 211, 18, 83, 148, 90, 178, 179, 251, 67, 14]
def n3 : List UInt8 := [8, 190, 219, 198, 217, 21, 206, 227, 25, 6, 89, 27, 186, 224, 186, 54]
def n4 : List UInt8 := [184, 102, 163, 253, 77, 158, 128, 5, 108, 65, 104, 250, 253, 115, 180, 138]
def m3 : List UInt8 := [247, 169, 26, 226, 24, 129, 224, 169, 173, 123, 5, 148, 71, 154, 82, 74, 108, 148, 179, 118, 179, 215, 27, 211, 244, 97, 172, 107, 233, 136, 76, 169]
def t3 : List UInt8 := [8, 206, 240, 108, 85, 27, 1, 138, 119, 108, 80, 208, 57, 159, 143, 149]
end Vault
end Go.AM


set_option autoImplicit false
namespace Go.AM
open Go

/-! ### Records -/
structure Rec where
  kind : Int
  group : List UInt8
  epoch : Int
  time : Int
  bucket : Int
  body : List UInt8
  tree : List UInt8
  script : List UInt8
  wrapped : List UInt8
  deriving DecidableEq

def Rec.cells (r : Rec) : List AV := [.v (.int .i64 r.kind), bytesV r.group .any, .v (.int .i64 r.epoch), .v (.int .i64 r.time), .v (.int .i64 r.bucket), bytesV r.body .any, bytesV r.tree .any, bytesV r.script .any, bytesV r.wrapped .any]
def Rec.nought : Rec := ⟨0, [], 0, 0, 0, [], [], [], []⟩

def Rec.right (r : Rec) : Prop :=
  1 ≤ r.kind ∧ r.kind ≤ 3 ∧ 1 ≤ r.group.length ∧ r.group.length ≤ 16 ∧ 0 ≤ r.epoch ∧ r.epoch ≤ 1048576 ∧ 0 ≤ r.time ∧ r.time ≤ 1099511627776 ∧ 0 ≤ r.bucket ∧ r.bucket ≤ 1099511627776 ∧ r.body.length ≤ 60000 ∧
    r.tree.length = (if r.kind = 3 then 0 else 32) ∧ r.script.length = (if r.kind = 3 then 0 else 32) ∧ r.wrapped.length = (if r.kind = 3 then 0 else 48)
instance (r : Rec) : Decidable r.right := by unfold Rec.right; infer_instance

def Rec.text (r : Rec) : List UInt8 :=
  be 1 r.kind.toNat ++ (be 1 r.group.length ++ r.group ++ (be 8 r.epoch.toNat ++ (be 8 r.time.toNat ++ (be 8 r.bucket.toNat ++
    (be 2 r.body.length ++ r.body ++ (be 1 r.tree.length ++ r.tree ++ (be 1 r.script.length ++ r.script ++ (be 1 r.wrapped.length ++ r.wrapped ++ []))))))))

/-! What was read is written back. -/
end Go.AM


