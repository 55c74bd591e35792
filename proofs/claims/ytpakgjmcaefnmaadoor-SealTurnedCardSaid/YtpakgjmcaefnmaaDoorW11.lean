/- Contracts of the program's functions, each walked once; the conditions stand in each theorem. -/
import Derived.Test.YtpakgjmcaefnmaaDoorAMp6
import Derived.Test.YtpakgjmcaefnmaaDoorW10
import Derived.Test.YtpakgjmcaefnmaaDoorW4
import Derived.Test.YtpakgjmcaefnmaaDoorW5
import Derived.Test.YtpakgjmcaefnmaaDoorRows
import Derived.Test.YtpakgjmcaefnmaaDoorW1
import Derived.ProofKit
import Derived.LaidMore
import Derived.MakeChecks
import Derived.OpenShut
import Derived.Test.YtpakgjmcaefnmaaDoorAMp4
import Derived.Test.YtpakgjmcaefnmaaDoorAMp5
set_option linter.unusedSimpArgs false
set_option linter.unusedVariables false
open Nat renaming reduceLT → nLT, reduceLeDiff → nLE, reduceEqDiff → nEQ, reduceAdd → nAdd, reduceMul → nMul, reducePow → nPow, reduceSub → nSub
open Int renaming reduceLT → zLT, reduceLE → zLE, reduceToNat → zNat
set_option autoImplicit false
namespace Go.Proofs.YtpakgjmcaefnmaaDoor
open Go Go.AM Go.Proofs

theorem RAes1976 : type_of% (And.intro (And.intro (And.intro (And.intro (And.intro @Tryd.underlying4 (And.intro T.c4 T.g4)) (And.intro T.b4 (And.intro T.z4 @Tryd.underlying5))) (And.intro (And.intro T.c5 (And.intro T.g5 T.b5)) (And.intro (And.intro T.z5 @Tryd.underlying22) (And.intro T.c22 T.g22)))) (And.intro (And.intro (And.intro T.b22 (And.intro T.z22 T.s22)) (And.intro @Tryd.underlying98 (And.intro T.c98 T.g98))) (And.intro (And.intro T.b98 (And.intro T.z98 T.s98)) (And.intro (And.intro T.k121 T.k120) (And.intro T.k83 T.k119))))) Tryd.ntmps76) :=
  (And.intro (And.intro (And.intro (And.intro (And.intro @Tryd.underlying4 (And.intro T.c4 T.g4)) (And.intro T.b4 (And.intro T.z4 @Tryd.underlying5))) (And.intro (And.intro T.c5 (And.intro T.g5 T.b5)) (And.intro (And.intro T.z5 @Tryd.underlying22) (And.intro T.c22 T.g22)))) (And.intro (And.intro (And.intro T.b22 (And.intro T.z22 T.s22)) (And.intro @Tryd.underlying98 (And.intro T.c98 T.g98))) (And.intro (And.intro T.b98 (And.intro T.z98 T.s98)) (And.intro (And.intro T.k121 T.k120) (And.intro T.k83 T.k119))))) Tryd.ntmps76)
theorem RAes1977 : type_of% (And.intro (And.intro (And.intro (And.intro (And.intro @Tryd.underlying3 (And.intro T.c3 T.g3)) (And.intro T.b3 (And.intro T.z3 @Tryd.underlying4))) (And.intro (And.intro T.c4 (And.intro T.g4 T.b4)) (And.intro T.z4 (And.intro @Tryd.underlying5 T.c5)))) (And.intro (And.intro (And.intro T.g5 (And.intro T.b5 T.z5)) (And.intro @Tryd.underlying22 (And.intro T.c22 T.g22))) (And.intro (And.intro T.b22 (And.intro T.z22 T.s22)) (And.intro (And.intro T.k121 T.k29) (And.intro T.k119 T.k120))))) Tryd.ntmps77) :=
  (And.intro (And.intro (And.intro (And.intro (And.intro @Tryd.underlying3 (And.intro T.c3 T.g3)) (And.intro T.b3 (And.intro T.z3 @Tryd.underlying4))) (And.intro (And.intro T.c4 (And.intro T.g4 T.b4)) (And.intro T.z4 (And.intro @Tryd.underlying5 T.c5)))) (And.intro (And.intro (And.intro T.g5 (And.intro T.b5 T.z5)) (And.intro @Tryd.underlying22 (And.intro T.c22 T.g22))) (And.intro (And.intro T.b22 (And.intro T.z22 T.s22)) (And.intro (And.intro T.k121 T.k29) (And.intro T.k119 T.k120))))) Tryd.ntmps77)

variable {Γ : Nat → List AV}

def sealT (key nonce beside text : List UInt8) : List UInt8 := if key.length = 48 ∧ nonce.length = 16 then Aes.sealed key nonce beside text else []
def sealE (key nonce : List UInt8) : Nat := if key.length = 48 ∧ nonce.length = 16 then 0 else 2
def opT (key nonce beside z : List UInt8) : List UInt8 := if key.length = 48 ∧ nonce.length = 16 then openedT key nonce beside z else []
def opE (key nonce beside z : List UInt8) : Nat := if key.length = 48 ∧ nonce.length = 16 then openedE key nonce beside z else 2
theorem sealed_len (key nonce beside text : List UInt8) : (Aes.sealed key nonce beside text).length = text.length + 16 := by
  rw [Aes.sealed, List.length_append, Aes.mask_len, Aes.tag_len]

set_option maxHeartbeats 4000000 in
theorem seal_calls (hG0 : Γ 0 = stC Sha.H0) (hG : Γ 1 = Sha.K.map wV) (key nonce beside text : List UInt8) (hb : beside.length ≤ 2 ^ 30) (ht : text.length ≤ 2 ^ 30) (s : AS) :
    ACalls Tryd.prog Γ 76 [bytesV key .any, bytesV nonce .any, bytesV beside .any, bytesV text .any] s (fun r s' => r = .tup [bytesV (sealT key nonce beside text) .any, .v (.int .i64 ((sealE key nonce : Nat) : Int))] ∧ s' = s) := by
  refine acalls_body Tryd.func76 rfl Tryd.ntmps76 Tryd.results76 (by simp) ?_
  refine awp_reg_seq ?_
  intro K hK
  simp only [↓DN, UP, DF, ashift, aconv, aindexAddr, aindex, aslice, abuiltin, AV.cells, AV.one, reduceCtorEq, ↓reduceIte, nLT, nLE, nEQ, nAdd, nMul, nPow, nSub, zLT, zLE, zNat, RAes1976]
  refine hK _ _ ?_
  clear hK K
  refine awp_seq_k ?_
  intro K hK
  refine awp_reg_seq ?_
  intro K hK
  simp only [↓DN, UP, DF, ashift, aconv, aindexAddr, aindex, aslice, abuiltin, AV.cells, AV.one, reduceCtorEq, ↓reduceIte, nLT, nLE, nEQ, nAdd, nMul, nPow, nSub, zLT, zLE, zNat, RAes1976]
  refine acallk (sfits_calls key nonce _) ?_
  rintro r s1 ⟨rfl, rfl⟩
  by_cases hf : key.length = 48 ∧ nonce.length = 16
  · have h1 : sealT key nonce beside text = Aes.sealed key nonce beside text := by unfold sealT; rw [if_pos hf]
    have h2 : sealE key nonce = 0 := by unfold sealE; rw [if_pos hf]
    rw [decide_eq_true hf]
    obtain ⟨hk, hn⟩ := hf
    simp only [↓AXq_nil, ↓AXq_cons, pval, DX, Nat.reduceBEq, ↓DN, UP, DF, ashift, aconv, aindexAddr, aindex, aslice, abuiltin, AV.cells, AV.one, reduceCtorEq, ↓reduceIte, nLT, nLE, nEQ, nAdd, nMul, nPow, nSub, zLT, zLE, zNat, RAes1976]
    refine hK _ _ ?_
    clear hK K
    refine awp_cond_k ?_
    intro X Y hX hY
    simp only [↓DN, UP, DF, ashift, aconv, aindexAddr, aindex, aslice, abuiltin, AV.cells, AV.one, reduceCtorEq, ↓reduceIte, nLT, nLE, nEQ, nAdd, nMul, nPow, nSub, zLT, zLE, zNat, RAes1976, DB]
    refine hY ?_
    clear hX hY X Y
    refine awp_skip ?_
    refine hK _ _ ?_
    clear hK K
    have hml := Aes.mask_len key nonce text
    have htl := Aes.tag_len key nonce beside (Aes.mask key nonce text)
    have c1 := fun s => mask_calls (Γ := Γ) key nonce text hk hn ht s
    have c2 := fun s => stag_calls (Γ := Γ) hG0 hG key nonce beside (Aes.mask key nonce text) hk hn hb (by omega) s
    have hsd : Aes.sealed key nonce beside text = Aes.mask key nonce text ++ Aes.tag key nonce beside (Aes.mask key nonce text) := rfl
    have c3 := fun s => concat_calls (Γ := Γ) [Aes.mask key nonce text, Aes.tag key nonce beside (Aes.mask key nonce text)] .new (by simp) (by simp; omega) s
    rw [show [Aes.mask key nonce text, Aes.tag key nonce beside (Aes.mask key nonce text)].flatten = Aes.sealed key nonce beside text from by rw [hsd]; simp, partsB_two] at c3
    have hsl := sealed_len key nonce beside text
    clear hsd
    generalize Aes.sealed key nonce beside text = S0 at *
    generalize Aes.tag key nonce beside (Aes.mask key nonce text) = T0 at *
    generalize Aes.mask key nonce text = M at *
    refine awp_reg_seq ?_
    intro K hK
    simp only [↓DN, UP, DF, ashift, aconv, aindexAddr, aindex, aslice, abuiltin, AV.cells, AV.one, reduceCtorEq, ↓reduceIte, nLT, nLE, nEQ, nAdd, nMul, nPow, nSub, zLT, zLE, zNat, RAes1976]
    refine acallk (c1 _) ?_
    rintro r s2 ⟨rfl, rfl⟩
    simp only [↓AXq_nil, ↓AXq_cons, pval, DX, Nat.reduceBEq, ↓DN, UP, DF, ashift, aconv, aindexAddr, aindex, aslice, abuiltin, AV.cells, AV.one, reduceCtorEq, ↓reduceIte, nLT, nLE, nEQ, nAdd, nMul, nPow, nSub, zLT, zLE, zNat, RAes1976]
    refine hK _ _ ?_
    clear hK K
    refine awp_reg_seq ?_
    intro K hK
    simp only [↓DN, UP, DF, ashift, aconv, aindexAddr, aindex, aslice, abuiltin, AV.cells, AV.one, reduceCtorEq, ↓reduceIte, nLT, nLE, nEQ, nAdd, nMul, nPow, nSub, zLT, zLE, zNat, RAes1976, List.replicate_succ, List.replicate_zero]
    refine acallk (c2 _) ?_
    rintro r s3 ⟨rfl, rfl⟩
    simp only [↓AXq_nil, ↓AXq_cons, pval, DX, Nat.reduceBEq, ↓DN, UP, DF, ashift, aconv, aindexAddr, aindex, aslice, abuiltin, AV.cells, AV.one, reduceCtorEq, ↓reduceIte, nLT, nLE, nEQ, nAdd, nMul, nPow, nSub, zLT, zLE, zNat, RAes1976, List.replicate_succ, List.replicate_zero]
    refine acallk (c3 _) ?_
    intro r s4 hout
    have hw := hout.weak
    have hle := hout.1
    obtain ⟨t, e, rfl⟩ := outS_own hout (by rw [← List.length_pos_iff, hsl]; omega)
    simp only [↓AXq_nil, ↓AXq_cons, pval, DX, Nat.reduceBEq, ↓DN, UP, DF, ashift, aconv, aindexAddr, aindex, aslice, abuiltin, AV.cells, AV.one, reduceCtorEq, ↓reduceIte, nLT, nLE, nEQ, nAdd, nMul, nPow, nSub, zLT, zLE, zNat, RAes1976]
    refine hK _ _ ?_
    clear hK K
    refine awp_ret ?_
    simp only [retQ, AEnds, aresL, ares, List.toList_toArray, ↓upd_same]; try simp only [↓DN, UP, DF, ashift, aconv, aindexAddr, aindex, aslice, abuiltin, AV.cells, AV.one, reduceCtorEq, ↓reduceIte, nLT, nLE, nEQ, nAdd, nMul, nPow, nSub, zLT, zLE, zNat, RAes1976, DT]
    rw [h1, h2]
    exact ⟨_, s3, AV.weak_tup2 hw (AV.weak.refl _), hle, rfl, rfl⟩
  · have h1 : sealT key nonce beside text = [] := by unfold sealT; rw [if_neg hf]
    have h2 : sealE key nonce = 2 := by unfold sealE; rw [if_neg hf]
    rw [decide_eq_false hf]
    simp only [↓AXq_nil, ↓AXq_cons, pval, DX, Nat.reduceBEq, ↓DN, UP, DF, ashift, aconv, aindexAddr, aindex, aslice, abuiltin, AV.cells, AV.one, reduceCtorEq, ↓reduceIte, nLT, nLE, nEQ, nAdd, nMul, nPow, nSub, zLT, zLE, zNat, RAes1976]
    refine hK _ _ ?_
    clear hK K
    refine awp_cond_k ?_
    intro X Y hX hY
    simp only [↓DN, UP, DF, ashift, aconv, aindexAddr, aindex, aslice, abuiltin, AV.cells, AV.one, reduceCtorEq, ↓reduceIte, nLT, nLE, nEQ, nAdd, nMul, nPow, nSub, zLT, zLE, zNat, RAes1976, DB]
    refine hX ?_
    clear hX hY X Y
    refine awp_reg_seq ?_
    intro K hK
    simp only [↓DN, UP, DF, ashift, aconv, aindexAddr, aindex, aslice, abuiltin, AV.cells, AV.one, reduceCtorEq, ↓reduceIte, nLT, nLE, nEQ, nAdd, nMul, nPow, nSub, zLT, zLE, zNat, RAes1976]
    refine hK _ _ ?_
    clear hK K
    refine awp_ret ?_
    try simp only [thenQ, blockQ]
    simp only [retQ, AEnds, aresL, ares, List.toList_toArray, ↓upd_same]; try simp only [↓DN, UP, DF, ashift, aconv, aindexAddr, aindex, aslice, abuiltin, AV.cells, AV.one, reduceCtorEq, ↓reduceIte, nLT, nLE, nEQ, nAdd, nMul, nPow, nSub, zLT, zLE, zNat, RAes1976, DT]
    rw [h1, h2]
    exact ⟨_, _, AV.weak_tup2 AV.weak_nil (AV.weak.refl _), AS.le.refl _, rfl, rfl⟩

set_option maxHeartbeats 4000000 in
theorem open_seal_calls (hG0 : Γ 0 = stC Sha.H0) (hG : Γ 1 = Sha.K.map wV) (key nonce beside z : List UInt8) (hb : beside.length ≤ 2 ^ 30) (hz : z.length ≤ 2 ^ 30) (s : AS) :
    ACalls Tryd.prog Γ 77 [bytesV key .any, bytesV nonce .any, bytesV beside .any, bytesV z .any] s (fun r s' => r = .tup [bytesV (opT key nonce beside z) .any, .v (.int .i64 ((opE key nonce beside z : Nat) : Int))] ∧ s' = s) := by
  refine acalls_body Tryd.func77 rfl Tryd.ntmps77 Tryd.results77 (by simp) ?_
  have hsub : isub .i64 (z.length : Int) 16 = (z.length : Int) - 16 := isub_i64 (by omega)
  refine awp_reg_seq ?_
  intro K hK
  simp only [↓DN, UP, DF, ashift, aconv, aindexAddr, aindex, aslice, abuiltin, AV.cells, AV.one, reduceCtorEq, ↓reduceIte, nLT, nLE, nEQ, nAdd, nMul, nPow, nSub, zLT, zLE, zNat, RAes1977]
  refine hK _ _ ?_
  clear hK K
  refine awp_reg_seq ?_
  intro K hK
  simp only [↓DN, UP, DF, ashift, aconv, aindexAddr, aindex, aslice, abuiltin, AV.cells, AV.one, reduceCtorEq, ↓reduceIte, nLT, nLE, nEQ, nAdd, nMul, nPow, nSub, zLT, zLE, zNat, RAes1977, hsub]
  refine hK _ _ ?_
  clear hK K
  refine awp_seq_k ?_
  intro K hK
  refine awp_block ?_
  refine awp_reg_seq ?_
  intro K hK
  simp only [↓DN, UP, DF, ashift, aconv, aindexAddr, aindex, aslice, abuiltin, AV.cells, AV.one, reduceCtorEq, ↓reduceIte, nLT, nLE, nEQ, nAdd, nMul, nPow, nSub, zLT, zLE, zNat, RAes1977]
  refine acallk (sfits_calls key nonce _) ?_
  rintro r s1 ⟨rfl, rfl⟩
  by_cases hf : key.length = 48 ∧ nonce.length = 16
  · have h1 : opT key nonce beside z = openedT key nonce beside z := by unfold opT; rw [if_pos hf]
    have h2 : opE key nonce beside z = openedE key nonce beside z := by unfold opE; rw [if_pos hf]
    rw [decide_eq_true hf]
    obtain ⟨hk, hn⟩ := hf
    simp only [↓AXq_nil, ↓AXq_cons, pval, DX, Nat.reduceBEq, ↓DN, UP, DF, ashift, aconv, aindexAddr, aindex, aslice, abuiltin, AV.cells, AV.one, reduceCtorEq, ↓reduceIte, nLT, nLE, nEQ, nAdd, nMul, nPow, nSub, zLT, zLE, zNat, RAes1977]
    refine hK _ _ ?_
    clear hK K
    refine awp_cond_k ?_
    intro X Y hX hY
    simp only [↓DN, UP, DF, ashift, aconv, aindexAddr, aindex, aslice, abuiltin, AV.cells, AV.one, reduceCtorEq, ↓reduceIte, nLT, nLE, nEQ, nAdd, nMul, nPow, nSub, zLT, zLE, zNat, RAes1977, DB]
    refine hY ?_
    clear hX hY X Y
    by_cases h16 : z.length < 16
    · have h3 : openedT key nonce beside z = [] := by unfold openedT; rw [if_pos h16]
      have h4 : openedE key nonce beside z = 10 := by unfold openedE; rw [if_pos h16]
      refine awp_reg_seq ?_
      intro K hK
      simp only [↓DN, UP, DF, ashift, aconv, aindexAddr, aindex, aslice, abuiltin, AV.cells, AV.one, reduceCtorEq, ↓reduceIte, nLT, nLE, nEQ, nAdd, nMul, nPow, nSub, zLT, zLE, zNat, RAes1977, decide_eq_true (show (z.length : Int) - 16 < 0 by omega)]
      refine hK _ _ ?_
      clear hK K
      refine awp_cond_k ?_
      intro X Y hX hY
      simp only [↓DN, UP, DF, ashift, aconv, aindexAddr, aindex, aslice, abuiltin, AV.cells, AV.one, reduceCtorEq, ↓reduceIte, nLT, nLE, nEQ, nAdd, nMul, nPow, nSub, zLT, zLE, zNat, RAes1977, DB]
      refine hX ?_
      clear hX hY X Y
      refine awp_reg_seq ?_
      intro K hK
      simp only [↓DN, UP, DF, ashift, aconv, aindexAddr, aindex, aslice, abuiltin, AV.cells, AV.one, reduceCtorEq, ↓reduceIte, nLT, nLE, nEQ, nAdd, nMul, nPow, nSub, zLT, zLE, zNat, RAes1977]
      refine hK _ _ ?_
      clear hK K
      refine awp_ret ?_
      try simp only [thenQ, blockQ]
      simp only [retQ, AEnds, aresL, ares, List.toList_toArray, ↓upd_same]; try simp only [↓DN, UP, DF, ashift, aconv, aindexAddr, aindex, aslice, abuiltin, AV.cells, AV.one, reduceCtorEq, ↓reduceIte, nLT, nLE, nEQ, nAdd, nMul, nPow, nSub, zLT, zLE, zNat, RAes1977, DT]
      rw [h1, h2, h3, h4]
      exact ⟨_, _, AV.weak_tup2 AV.weak_nil (AV.weak.refl _), AS.le.refl _, rfl, rfl⟩
    · have hnat : (z.length : Int) - 16 = ((z.length - 16 : Nat) : Int) := by omega
      have htz : List.take z.length (z.map byteV) = z.map byteV := List.take_of_length_le (by simp)
      have m0 : (0 : Int) ≤ ((z.length - 16 : Nat) : Int) := by omega
      have m1 : ((z.length - 16 : Nat) : Int) ≤ (z.length : Int) := by omega
      have m2 : (z.length : Int) ≤ (z.length : Int) := Int.le_refl _
      have m3 : z.length - (z.length - 16) = 16 := by omega
      rw [hnat]
      have htl : (z.take (z.length - 16)).length = z.length - 16 := by rw [List.length_take]; omega
      have hdl : (z.drop (z.length - 16)).length = 16 := by rw [List.length_drop]; omega
      have c2 := fun s => stag_calls (Γ := Γ) hG0 hG key nonce beside (z.take (z.length - 16)) hk hn hb (by omega) s
      have c1 := fun s => mask_calls (Γ := Γ) key nonce (z.take (z.length - 16)) hk hn (by omega) s
      have c4 := fun s => same_calls (Γ := Γ) (Aes.tag key nonce beside (z.take (z.length - 16))) (z.drop (z.length - 16)) (by rw [Aes.tag_len]; decide) s
      have htz2 : List.take z.length z = z := List.take_length
      unfold bytesV at c1 c2 c4
      rw [htl] at c1 c2
      rw [hdl] at c4
      refine awp_reg_seq ?_
      intro K hK
      simp only [↓DN, UP, DF, ashift, aconv, aindexAddr, aindex, aslice, abuiltin, AV.cells, AV.one, reduceCtorEq, ↓reduceIte, nLT, nLE, nEQ, nAdd, nMul, nPow, nSub, zLT, zLE, zNat, RAes1977, decide_eq_false (show ¬ ((z.length - 16 : Nat) : Int) < 0 by omega)]
      refine hK _ _ ?_
      clear hK K
      refine awp_cond_k ?_
      intro X Y hX hY
      simp only [↓DN, UP, DF, ashift, aconv, aindexAddr, aindex, aslice, abuiltin, AV.cells, AV.one, reduceCtorEq, ↓reduceIte, nLT, nLE, nEQ, nAdd, nMul, nPow, nSub, zLT, zLE, zNat, RAes1977, DB]
      refine hY ?_
      clear hX hY X Y
      refine awp_drw_seq T.mixed [6, 10] (by kernel_rfl) ?_
      intro K hK
      simp only [↓AXq_nil, ↓AXq_cons, pval, DX, Nat.reduceBEq, ↓DN, UP, DF, ashift, aconv, aindexAddr, aindex, aslice, abuiltin, AV.cells, AV.one, reduceCtorEq, ↓reduceIte, nLT, nLE, nEQ, nAdd, nMul, nPow, nSub, zLT, zLE, zNat, RAes1977, m0, m1, m2, m3, htz, htz2]
      refine acallk (c2 _) ?_
      rintro r s2 ⟨rfl, rfl⟩
      simp only [↓AXq_nil, ↓AXq_cons, pval, DX, Nat.reduceBEq, ↓DN, UP, DF, ashift, aconv, aindexAddr, aindex, aslice, abuiltin, AV.cells, AV.one, reduceCtorEq, ↓reduceIte, nLT, nLE, nEQ, nAdd, nMul, nPow, nSub, zLT, zLE, zNat, RAes1977, m0, m1, m2, m3, htz, htz2]
      refine acallk (c4 _) ?_
      rintro r s3 ⟨rfl, rfl⟩
      by_cases ht : Aes.tag key nonce beside (z.take (z.length - 16)) = z.drop (z.length - 16)
      · have h3 : openedT key nonce beside z = Aes.mask key nonce (z.take (z.length - 16)) := by unfold openedT; rw [if_neg h16, if_pos ht]
        have h4 : openedE key nonce beside z = 0 := by unfold openedE; rw [if_neg h16, if_pos ht]
        rw [decide_eq_true ht]
        simp only [↓AXq_nil, ↓AXq_cons, pval, DX, Nat.reduceBEq, ↓DN, UP, DF, ashift, aconv, aindexAddr, aindex, aslice, abuiltin, AV.cells, AV.one, reduceCtorEq, ↓reduceIte, nLT, nLE, nEQ, nAdd, nMul, nPow, nSub, zLT, zLE, zNat, RAes1977]
        refine hK _ _ ?_
        clear hK K
        refine awp_cond_k ?_
        intro X Y hX hY
        simp only [↓DN, UP, DF, ashift, aconv, aindexAddr, aindex, aslice, abuiltin, AV.cells, AV.one, reduceCtorEq, ↓reduceIte, nLT, nLE, nEQ, nAdd, nMul, nPow, nSub, zLT, zLE, zNat, RAes1977, DB]
        refine hY ?_
        clear hX hY X Y
        refine awp_skip ?_
        simp only [blockQ, thenQ, if_true, if_false]
        refine hK _ _ ?_
        clear hK K
        refine awp_reg_seq ?_
        intro K hK
        simp only [↓DN, UP, DF, ashift, aconv, aindexAddr, aindex, aslice, abuiltin, AV.cells, AV.one, reduceCtorEq, ↓reduceIte, nLT, nLE, nEQ, nAdd, nMul, nPow, nSub, zLT, zLE, zNat, RAes1977, m0, m1, m2, m3, htz, htz2]
        refine acallk (c1 _) ?_
        rintro r s4 ⟨rfl, rfl⟩
        simp only [↓AXq_nil, ↓AXq_cons, pval, DX, Nat.reduceBEq, ↓DN, UP, DF, ashift, aconv, aindexAddr, aindex, aslice, abuiltin, AV.cells, AV.one, reduceCtorEq, ↓reduceIte, nLT, nLE, nEQ, nAdd, nMul, nPow, nSub, zLT, zLE, zNat, RAes1977]
        refine hK _ _ ?_
        clear hK K
        refine awp_ret ?_
        simp only [retQ, AEnds, aresL, ares, List.toList_toArray, ↓upd_same]; try simp only [↓DN, UP, DF, ashift, aconv, aindexAddr, aindex, aslice, abuiltin, AV.cells, AV.one, reduceCtorEq, ↓reduceIte, nLT, nLE, nEQ, nAdd, nMul, nPow, nSub, zLT, zLE, zNat, RAes1977, DT]
        rw [h1, h2, h3, h4]
        exact ⟨_, _, AV.weak.refl _, AS.le.refl _, rfl, rfl⟩
      · have h3 : openedT key nonce beside z = [] := by unfold openedT; rw [if_neg h16, if_neg ht]
        have h4 : openedE key nonce beside z = 14 := by unfold openedE; rw [if_neg h16, if_neg ht]
        rw [decide_eq_false ht]
        simp only [↓AXq_nil, ↓AXq_cons, pval, DX, Nat.reduceBEq, ↓DN, UP, DF, ashift, aconv, aindexAddr, aindex, aslice, abuiltin, AV.cells, AV.one, reduceCtorEq, ↓reduceIte, nLT, nLE, nEQ, nAdd, nMul, nPow, nSub, zLT, zLE, zNat, RAes1977]
        refine hK _ _ ?_
        clear hK K
        refine awp_cond_k ?_
        intro X Y hX hY
        simp only [↓DN, UP, DF, ashift, aconv, aindexAddr, aindex, aslice, abuiltin, AV.cells, AV.one, reduceCtorEq, ↓reduceIte, nLT, nLE, nEQ, nAdd, nMul, nPow, nSub, zLT, zLE, zNat, RAes1977, DB]
        refine hX ?_
        clear hX hY X Y
        refine awp_reg_seq ?_
        intro K hK
        simp only [↓DN, UP, DF, ashift, aconv, aindexAddr, aindex, aslice, abuiltin, AV.cells, AV.one, reduceCtorEq, ↓reduceIte, nLT, nLE, nEQ, nAdd, nMul, nPow, nSub, zLT, zLE, zNat, RAes1977]
        refine hK _ _ ?_
        clear hK K
        refine awp_ret ?_
        try simp only [thenQ, blockQ]
        simp only [retQ, AEnds, aresL, ares, List.toList_toArray, ↓upd_same]; try simp only [↓DN, UP, DF, ashift, aconv, aindexAddr, aindex, aslice, abuiltin, AV.cells, AV.one, reduceCtorEq, ↓reduceIte, nLT, nLE, nEQ, nAdd, nMul, nPow, nSub, zLT, zLE, zNat, RAes1977, DT]
        rw [h1, h2, h3, h4]
        exact ⟨_, _, AV.weak_tup2 AV.weak_nil (AV.weak.refl _), AS.le.refl _, rfl, rfl⟩
  · have h1 : opT key nonce beside z = [] := by unfold opT; rw [if_neg hf]
    have h2 : opE key nonce beside z = 2 := by unfold opE; rw [if_neg hf]
    rw [decide_eq_false hf]
    simp only [↓AXq_nil, ↓AXq_cons, pval, DX, Nat.reduceBEq, ↓DN, UP, DF, ashift, aconv, aindexAddr, aindex, aslice, abuiltin, AV.cells, AV.one, reduceCtorEq, ↓reduceIte, nLT, nLE, nEQ, nAdd, nMul, nPow, nSub, zLT, zLE, zNat, RAes1977]
    refine hK _ _ ?_
    clear hK K
    refine awp_cond_k ?_
    intro X Y hX hY
    simp only [↓DN, UP, DF, ashift, aconv, aindexAddr, aindex, aslice, abuiltin, AV.cells, AV.one, reduceCtorEq, ↓reduceIte, nLT, nLE, nEQ, nAdd, nMul, nPow, nSub, zLT, zLE, zNat, RAes1977, DB]
    refine hX ?_
    clear hX hY X Y
    refine awp_reg_seq ?_
    intro K hK
    simp only [↓DN, UP, DF, ashift, aconv, aindexAddr, aindex, aslice, abuiltin, AV.cells, AV.one, reduceCtorEq, ↓reduceIte, nLT, nLE, nEQ, nAdd, nMul, nPow, nSub, zLT, zLE, zNat, RAes1977]
    refine hK _ _ ?_
    clear hK K
    refine awp_ret ?_
    try simp only [thenQ, blockQ]
    simp only [retQ, AEnds, aresL, ares, List.toList_toArray, ↓upd_same]; try simp only [↓DN, UP, DF, ashift, aconv, aindexAddr, aindex, aslice, abuiltin, AV.cells, AV.one, reduceCtorEq, ↓reduceIte, nLT, nLE, nEQ, nAdd, nMul, nPow, nSub, zLT, zLE, zNat, RAes1977, DT]
    rw [h1, h2]
    exact ⟨_, _, AV.weak_tup2 AV.weak_nil (AV.weak.refl _), AS.le.refl _, rfl, rfl⟩

end Go.Proofs.YtpakgjmcaefnmaaDoor


set_option autoImplicit false
namespace Go.AM
namespace Aes
def helloW : List UInt8 := [104, 101, 108, 108, 111]
def helloS : List UInt8 := [14, 140, 39, 184, 128, 77, 186, 72, 253, 167, 184, 173, 162, 35, 199, 69, 102, 251, 129, 148, 238]
def key0 : List UInt8 := List.replicate 48 0
def key1 : List UInt8 := key0.set 47 1
def nonce0 : List UInt8 := List.replicate 16 0
set_option maxRecDepth 100000 in
theorem seal_hello : sealed key0 nonce0 [] helloW = helloS := by decide +kernel
set_option maxRecDepth 100000 in
theorem tag_other : tag key1 nonce0 [] (helloS.take 5) ≠ helloS.drop 5 := by decide +kernel
end Aes
end Go.AM


set_option autoImplicit false
namespace Go.Proofs.YtpakgjmcaefnmaaDoor
open Go Go.AM Go.Proofs

theorem RAes2074 : type_of% (And.intro (And.intro (And.intro (And.intro (And.intro @Tryd.underlying3 (And.intro T.c3 T.g3)) (And.intro (And.intro T.b3 T.z3) (And.intro @Tryd.underlying5 T.c5))) (And.intro (And.intro T.g5 (And.intro T.b5 T.z5)) (And.intro (And.intro @Tryd.underlying9 T.c9) (And.intro T.g9 T.b9)))) (And.intro (And.intro (And.intro T.z9 (And.intro @Tryd.underlying22 T.c22)) (And.intro (And.intro T.g22 T.b22) (And.intro T.z22 T.s22))) (And.intro (And.intro @Tryd.underlying91 (And.intro T.c91 T.g91)) (And.intro (And.intro T.b91 T.z91) (And.intro T.k77 T.k76))))) Tryd.ntmps74) :=
  (And.intro (And.intro (And.intro (And.intro (And.intro @Tryd.underlying3 (And.intro T.c3 T.g3)) (And.intro (And.intro T.b3 T.z3) (And.intro @Tryd.underlying5 T.c5))) (And.intro (And.intro T.g5 (And.intro T.b5 T.z5)) (And.intro (And.intro @Tryd.underlying9 T.c9) (And.intro T.g9 T.b9)))) (And.intro (And.intro (And.intro T.z9 (And.intro @Tryd.underlying22 T.c22)) (And.intro (And.intro T.g22 T.b22) (And.intro T.z22 T.s22))) (And.intro (And.intro @Tryd.underlying91 (And.intro T.c91 T.g91)) (And.intro (And.intro T.b91 T.z91) (And.intro T.k77 T.k76))))) Tryd.ntmps74)

variable {Γ : Nat → List AV}

theorem opened_sealedT (key nonce beside text : List UInt8) : openedT key nonce beside (Aes.sealed key nonce beside text) = text := by
  have hl := sealed_len key nonce beside text
  unfold openedT
  rw [if_neg (by omega)]
  have hml := Aes.mask_len key nonce text
  have e1 : (Aes.sealed key nonce beside text).take ((Aes.sealed key nonce beside text).length - 16) = Aes.mask key nonce text := by
    rw [hl, Aes.sealed, Nat.add_sub_cancel, List.take_append_of_le_length (by omega), List.take_of_length_le (by omega)]
  have e2 : (Aes.sealed key nonce beside text).drop ((Aes.sealed key nonce beside text).length - 16) = Aes.tag key nonce beside (Aes.mask key nonce text) := by
    rw [hl, Aes.sealed, Nat.add_sub_cancel, List.drop_append_of_le_length (by omega), List.drop_eq_nil_of_le (by omega), List.nil_append]
  rw [e1, e2, if_pos rfl, Aes.mask_back]
theorem opened_sealedE (key nonce beside text : List UInt8) : openedE key nonce beside (Aes.sealed key nonce beside text) = 0 := by
  have hl := sealed_len key nonce beside text
  unfold openedE
  rw [if_neg (by omega)]
  have hml := Aes.mask_len key nonce text
  have e1 : (Aes.sealed key nonce beside text).take ((Aes.sealed key nonce beside text).length - 16) = Aes.mask key nonce text := by
    rw [hl, Aes.sealed, Nat.add_sub_cancel, List.take_append_of_le_length (by omega), List.take_of_length_le (by omega)]
  have e2 : (Aes.sealed key nonce beside text).drop ((Aes.sealed key nonce beside text).length - 16) = Aes.tag key nonce beside (Aes.mask key nonce text) := by
    rw [hl, Aes.sealed, Nat.add_sub_cancel, List.drop_append_of_le_length (by omega), List.drop_eq_nil_of_le (by omega), List.nil_append]
  rw [e1, e2, if_pos rfl]

theorem aw_fits0 : Aes.key0.length = 48 ∧ Aes.nonce0.length = 16 := by decide
theorem aw_fits1 : Aes.key1.length = 48 ∧ Aes.nonce0.length = 16 := by decide
theorem aw_sealT : sealT Aes.key0 Aes.nonce0 [] Aes.helloW = Aes.helloS := by unfold sealT; rw [if_pos aw_fits0, Aes.seal_hello]
theorem aw_sealE : sealE Aes.key0 Aes.nonce0 = 0 := by unfold sealE; rw [if_pos aw_fits0]
theorem aw_opT : opT Aes.key0 Aes.nonce0 [] Aes.helloS = Aes.helloW := by
  unfold opT; rw [if_pos aw_fits0, ← Aes.seal_hello, opened_sealedT]
theorem aw_opE : opE Aes.key0 Aes.nonce0 [] Aes.helloS = 0 := by
  unfold opE; rw [if_pos aw_fits0, ← Aes.seal_hello, opened_sealedE]
theorem aw_badT : opT Aes.key1 Aes.nonce0 [] Aes.helloS = [] := by
  unfold opT openedT; rw [if_pos aw_fits1, if_neg (by decide), show Aes.helloS.length - 16 = 5 from rfl, if_neg Aes.tag_other]
theorem aw_badE : opE Aes.key1 Aes.nonce0 [] Aes.helloS = 14 := by
  unfold opE openedE; rw [if_pos aw_fits1, if_neg (by decide), show Aes.helloS.length - 16 = 5 from rfl, if_neg Aes.tag_other]

theorem view_new {s : AS} {n : Nat} {cs : List AV} {sp : Sp} (h : ∀ c ∈ cs, ∃ x, c = .v x) : View Γ s (.sl 1 n cs sp) (.sl 1 n cs .any) := fun G w u hs hv => View.sl h G w u hs (AV.weak_any G u hv)
theorem view_nil {s : AS} : View Γ s (.v (.slice none 0 0)) (.sl 1 0 [] .any) := View.weak View.val AV.weak_nil
theorem flat_b (l : List UInt8) : ∀ c ∈ l.map byteV, ∃ x, c = .v x := by
  intro c hc
  obtain ⟨b, _, rfl⟩ := List.mem_map.1 hc
  exact ⟨_, rfl⟩

set_option maxHeartbeats 8000000 in
set_option maxRecDepth 100000 in
theorem awake06_calls (hG0 : Γ 0 = stC Sha.H0) (hG : Γ 1 = Sha.K.map wV) (hΓ : ∀ g, ∀ c ∈ Γ g, ∃ x, c = .v x) :
    ACalls Tryd.prog Γ 74 [] s0 (fun r s' => r = .v (.bool true) ∧ s' = s0) := by
  refine gcalls_body Tryd.func74 rfl Tryd.ntmps74 Tryd.results74 (by simp) ?_
  refine gwp_seq_k ?_
  intro K1 hK1
  refine awp_reg_end ?_
  intro K hK
  simp only [↓DN, UP, DF, ashift, aconv, aindexAddr, aindex, aslice, abuiltin, AV.cells, AV.one, reduceCtorEq, ↓reduceIte, nLT, nLE, nEQ, nAdd, nMul, nPow, nSub, zLT, zLE, zNat, RAes2074]
  refine hK _ _ ?_
  clear hK K
  simp only [thenQ]
  refine hK1 _ _ ?_
  clear hK1 K1
  refine gwp_seq (gwp_region_any T.mixed fun K hK => ?_)
  have hgo : ∀ (o1 o2 : Nat) (E1 : Env) (s1 : AS), o1 ≠ o2 → s1.objs o1 = some (Aes.key0.map byteV) → s1.objs o2 = some (Aes.nonce0.map byteV) → (∀ t, s1.own t = none) → (∀ o cs, s1.objs o = some cs → ∀ c ∈ cs, c = byteV 0) → E1 1 = .osl o1 0 1 48 48 → E1 2 = .osl o2 0 1 16 16 → K E1 s1 := by
    intro o1 o2 E1 s1 hne j1 j2 hown hobj e1 e2
    refine hK _ _ ?_
    clear hK K
    simp only [thenQ]
    have rep5 : ∀ x : AV, List.replicate 5 x = [x, x, x, x, x] := fun _ => rfl
    have hE0 : ([AV.v (.int .u8 104), AV.v (.int .u8 101), AV.v (.int .u8 108), AV.v (.int .u8 108), AV.v (.int .u8 111)] : List AV) = Aes.helloW.map byteV := rfl
    have f0 := flat_b Aes.key0
    have fn := flat_b Aes.nonce0
    have l0 : (Aes.key0.map byteV).length = 48 := by simp [Aes.key0]
    have ln : (Aes.nonce0.map byteV).length = 16 := by simp [Aes.nonce0]
    have lS : Aes.helloS.length = 21 := rfl
    have lW : Aes.helloW.length = 5 := rfl
    have lk0 : Aes.key0.length = 48 := aw_fits0.1
    have lk1 : Aes.key1.length = 48 := aw_fits1.1
    have lnn : Aes.nonce0.length = 16 := aw_fits0.2
    have hvo1 := View.osl (Γ := Γ) (o := o1) (sz := 1) (n := 48) (cap := 48) j1 (by rw [l0]) f0
    have hvo2 := View.osl (Γ := Γ) (o := o2) (sz := 1) (n := 16) (cap := 16) j2 (by rw [ln]) fn
    have hs1 := seal_calls (Γ := Γ) hG0 hG Aes.key0 Aes.nonce0 [] Aes.helloW (by decide) (by decide) s0
    rw [aw_sealT, aw_sealE] at hs1
    have hs2 := open_seal_calls (Γ := Γ) hG0 hG Aes.key0 Aes.nonce0 [] Aes.helloS (by decide) (by decide) s0
    rw [aw_opT, aw_opE] at hs2
    have hs3 := open_seal_calls (Γ := Γ) hG0 hG Aes.key1 Aes.nonce0 [] Aes.helloS (by decide) (by decide) s0
    rw [aw_badT, aw_badE] at hs3
    unfold bytesV at hs1 hs2 hs3
    rw [lk0, lnn] at hs1 hs2
    rw [lk1, lnn] at hs3
    have c1 := ACalls.viewB (s := s1) (x := .int .i64 ((0 : Nat) : Int)) hΓ (hs1.mono fun r s' h => h.1) (.cons hvo1 (.cons hvo2 (.cons view_nil (.cons (view_new (sp := .new) (flat_b Aes.helloW)) .nil)))) hown (fun o cs ho c hc => ⟨0, hobj o cs ho c hc, by decide⟩)
    have c2 := ACalls.viewB (s := s1) (x := .int .i64 ((0 : Nat) : Int)) hΓ (hs2.mono fun r s' h => h.1) (.cons hvo1 (.cons hvo2 (.cons view_nil (.cons (View.sl (flat_b Aes.helloS)) .nil)))) hown (fun o cs ho c hc => ⟨0, hobj o cs ho c hc, by decide⟩)
    rw [lS] at c1 c2
    rw [lW] at c1 c2
    have hset : (Aes.key0.map byteV).set 47 (.v (.int .u8 1)) = Aes.key1.map byteV := by
      rw [Aes.key1, List.map_set]; rfl
    have j1' : (s1.set o1 (Aes.key1.map byteV)).objs o1 = some (Aes.key1.map byteV) := AS.set_objs_same _ _ _
    have j2' : (s1.set o1 (Aes.key1.map byteV)).objs o2 = some (Aes.nonce0.map byteV) := by rw [AS.set_objs_ne _ (Ne.symm hne)]; exact j2
    have hvo1' := View.osl (Γ := Γ) (o := o1) (sz := 1) (n := 48) (cap := 48) j1' (by rw [List.length_map, lk1]) (flat_b Aes.key1)
    have hvo2' := View.osl (Γ := Γ) (o := o2) (sz := 1) (n := 16) (cap := 16) j2' (by rw [ln]) fn
    have c3 := ACalls.viewB (s := s1.set o1 (Aes.key1.map byteV)) (l := []) (x := .int .i64 ((14 : Nat) : Int)) hΓ (hs3.mono fun r s' h => h.1) (.cons hvo1' (.cons hvo2' (.cons view_nil (.cons (View.sl (flat_b Aes.helloS)) .nil)))) (fun t => by rw [AS.set_own]; exact hown t) (fun o cs ho c hc => by
      by_cases e : o = o1
      · subst e
        rw [j1'] at ho
        cases ho
        obtain ⟨y, _, rfl⟩ := List.mem_map.1 hc
        exact ⟨y, rfl, by simp⟩
      · rw [AS.set_objs_ne _ e] at ho
        exact ⟨0, hobj o cs ho c hc, by simp⟩)
    rw [lS] at c3
    have hle : s0.le (s1.set o1 (Aes.key1.map byteV)) := ⟨fun o cs h => by simp [s0] at h, fun t e h => by simp [s0] at h⟩
    clear hs1 hs2 hs3 hvo1 hvo2 hvo1' hvo2' hown hobj f0 fn
    have hS1 : (((21 : Nat) : Int) == 21) = true := rfl
    have hSl : (Aes.helloS.map byteV).length = 21 := rfl
    have hW0 : (ByteArray.mk Aes.helloW.toArray).toList = [104, 101, 108, 108, 111] := by rw [ByteArray.toList_mk]; rfl
    generalize hKK : Aes.key0.map byteV = KK at *
    generalize hKL : Aes.key1.map byteV = KL at *
    generalize hNN : Aes.nonce0.map byteV = NN at *
    generalize hSS : Aes.helloS.map byteV = SS at *
    refine gwp_seq_k ?_
    intro K1 hK1
    refine awp_reg_end ?_
    intro K hK
    simp only [↓DN, UP, DF, ashift, aconv, aindexAddr, aindex, aslice, abuiltin, AV.cells, AV.one, reduceCtorEq, ↓reduceIte, nLT, nLE, nEQ, nAdd, nMul, nPow, nSub, zLT, zLE, zNat, RAes2074, e1, e2, rep5, hE0]
    refine acallk c1 ?_
    rintro r s2 ⟨rfl, rfl⟩
    simp only [↓AXq_nil, ↓AXq_cons, pval, DX, Nat.reduceBEq, ↓DN, UP, DF, ashift, aconv, aindexAddr, aindex, aslice, abuiltin, AV.cells, AV.one, reduceCtorEq, ↓reduceIte, nLT, nLE, nEQ, nAdd, nMul, nPow, nSub, zLT, zLE, zNat, RAes2074]
    refine hK _ _ ?_
    clear hK K
    simp only [thenQ]
    refine hK1 _ _ ?_
    clear hK1 K1
    refine gwp_seq_k ?_
    intro K1 hK1
    refine awp_reg_end ?_
    intro K hK
    simp only [↓DN, UP, DF, ashift, aconv, aindexAddr, aindex, aslice, abuiltin, AV.cells, AV.one, reduceCtorEq, ↓reduceIte, nLT, nLE, nEQ, nAdd, nMul, nPow, nSub, zLT, zLE, zNat, RAes2074, e1, e2]
    refine acallk c2 ?_
    rintro r s3 ⟨rfl, rfl⟩
    simp only [↓AXq_nil, ↓AXq_cons, pval, DX, Nat.reduceBEq, ↓DN, UP, DF, ashift, aconv, aindexAddr, aindex, aslice, abuiltin, AV.cells, AV.one, reduceCtorEq, ↓reduceIte, nLT, nLE, nEQ, nAdd, nMul, nPow, nSub, zLT, zLE, zNat, RAes2074]
    refine hK _ _ ?_
    clear hK K
    simp only [thenQ]
    refine hK1 _ _ ?_
    clear hK1 K1
    refine gwp_seq_k ?_
    intro K1 hK1
    refine awp_reg_end ?_
    intro K hK
    simp only [↓DN, UP, DF, ashift, aconv, aindexAddr, aindex, aslice, abuiltin, AV.cells, AV.one, reduceCtorEq, ↓reduceIte, nLT, nLE, nEQ, nAdd, nMul, nPow, nSub, zLT, zLE, zNat, RAes2074, e1, j1, l0, hset, show (47 : Int) < ((48 : Nat) : Int) from by decide]
    refine hK _ _ ?_
    clear hK K
    simp only [thenQ]
    refine hK1 _ _ ?_
    clear hK1 K1
    refine gwp_seq_k ?_
    intro K1 hK1
    refine awp_reg_end ?_
    intro K hK
    simp only [↓DN, UP, DF, ashift, aconv, aindexAddr, aindex, aslice, abuiltin, AV.cells, AV.one, reduceCtorEq, ↓reduceIte, nLT, nLE, nEQ, nAdd, nMul, nPow, nSub, zLT, zLE, zNat, RAes2074, e1, e2]
    refine acallk c3 ?_
    rintro r s4 ⟨rfl, rfl⟩
    simp only [↓AXq_nil, ↓AXq_cons, pval, DX, Nat.reduceBEq, ↓DN, UP, DF, ashift, aconv, aindexAddr, aindex, aslice, abuiltin, AV.cells, AV.one, reduceCtorEq, ↓reduceIte, nLT, nLE, nEQ, nAdd, nMul, nPow, nSub, zLT, zLE, zNat, RAes2074]
    refine hK _ _ ?_
    clear hK K
    simp only [thenQ]
    refine hK1 _ _ ?_
    clear hK1 K1
    refine AWp.g ?_
    refine awp_reg_seq ?_
    intro K hK
    simp only [↓DN, UP, DF, ashift, aconv, aindexAddr, aindex, aslice, abuiltin, AV.cells, AV.one, reduceCtorEq, ↓reduceIte, nLT, nLE, nEQ, nAdd, nMul, nPow, nSub, zLT, zLE, zNat, RAes2074, show (((0 : Nat) : Int) == 0) = true from rfl, show (((14 : Nat) : Int) == 14) = true from rfl, hS1, hW0]
    refine hK _ _ ?_
    clear hK K
    refine awp_ret ?_
    simp only [retQ, AEnds, aresL, ares, List.toList_toArray, ↓upd_same]; try simp only [↓DN, UP, DF, ashift, aconv, aindexAddr, aindex, aslice, abuiltin, AV.cells, AV.one, reduceCtorEq, ↓reduceIte, nLT, nLE, nEQ, nAdd, nMul, nPow, nSub, zLT, zLE, zNat, RAes2074, DT]
    refine ⟨_, s0, AV.weak.refl _, hle, ?_, rfl⟩
    try rfl
  clear hK
  have hz48 : (List.replicate 48 (AV.v (.int .u8 0))) = Aes.key0.map byteV := by rw [Aes.key0, List.map_replicate]; rfl
  have hz16 : (List.replicate 16 (AV.v (.int .u8 0))) = Aes.nonce0.map byteV := by rw [Aes.nonce0, List.map_replicate]; rfl
  have hob : ∀ (o1 o2 : Nat) (X Y : List UInt8), (∀ c ∈ X.map byteV, c = byteV 0) → (∀ c ∈ Y.map byteV, c = byteV 0) → ∀ o cs, ((s0.set o1 (X.map byteV)).set o2 (Y.map byteV)).objs o = some cs → ∀ c ∈ cs, c = byteV 0 := by
    intro o1 o2 X Y hX hY o cs ho
    by_cases h2 : o = o2
    · subst h2
      rw [AS.set_objs_same] at ho
      cases ho
      exact hY
    · rw [AS.set_objs_ne _ h2] at ho
      by_cases h1 : o = o1
      · subst h1
        rw [AS.set_objs_same] at ho
        cases ho
        exact hX
      · rw [AS.set_objs_ne _ h1] at ho
        simp [s0] at ho
  have hk0 : ∀ c ∈ Aes.key0.map byteV, c = byteV 0 := by
    intro c hc
    rw [Aes.key0, List.map_replicate] at hc
    exact (List.mem_replicate.1 hc).2
  have hn0 : ∀ c ∈ Aes.nonce0.map byteV, c = byteV 0 := by
    intro c hc
    rw [Aes.nonce0, List.map_replicate] at hc
    exact (List.mem_replicate.1 hc).2
  have hown : ∀ (o1 o2 : Nat) (X Y : List AV) t, ((s0.set o1 X).set o2 Y).own t = none := fun o1 o2 X Y t => rfl
  refine aq_two 0 1 (by kernel_rfl) rfl rfl ?_ ?_
  · simp only [↓DN, UP, DF, ashift, aconv, aindexAddr, aindex, aslice, abuiltin, AV.cells, AV.one, reduceCtorEq, ↓reduceIte, nLT, nLE, nEQ, nAdd, nMul, nPow, nSub, zLT, zLE, zNat, RAes2074, T.c5, T.b5, T.z5]
    refine ⟨by decide, by decide, fun o1 ho1 => ?_⟩
    refine aq_two 1 2 (by kernel_rfl) rfl rfl ?_ ?_
    · simp only [↓DN, UP, DF, ashift, aconv, aindexAddr, aindex, aslice, abuiltin, AV.cells, AV.one, reduceCtorEq, ↓reduceIte, nLT, nLE, nEQ, nAdd, nMul, nPow, nSub, zLT, zLE, zNat, RAes2074, T.c5, T.b5, T.z5]
      refine ⟨by decide, by decide, fun o2 ho2 => ?_⟩
      have hne : o1 ≠ o2 := fun e => by rw [e] at ho2; simp only [if_true] at ho2; cases ho2
      rw [if_neg (Ne.symm hne)] at ho2
      refine aq_one 2 (by kernel_rfl) rfl ?_
      simp only [↓DN, UP, DF, ashift, aconv, aindexAddr, aindex, aslice, abuiltin, AV.cells, AV.one, reduceCtorEq, ↓reduceIte, nLT, nLE, nEQ, nAdd, nMul, nPow, nSub, zLT, zLE, zNat, RAes2074]
      refine aq_one 3 (by kernel_rfl) rfl ?_
      simp only [↓DN, UP, DF, ashift, aconv, aindexAddr, aindex, aslice, abuiltin, AV.cells, AV.one, reduceCtorEq, ↓reduceIte, nLT, nLE, nEQ, nAdd, nMul, nPow, nSub, zLT, zLE, zNat, RAes2074]
      rw [hz48, hz16]
      refine aq_nil (by kernel_rfl) (hgo o1 o2 _ _ hne ?_ (AS.set_objs_same _ _ _) (hown _ _ _ _) (hob _ _ _ _ hk0 hn0) ?_ ?_)
      · rw [AS.set_objs_ne _ hne]; exact AS.set_objs_same _ _ _
      · simp only [upd, Nat.reduceEqDiff, ↓reduceIte]
      · simp only [upd, Nat.reduceEqDiff, ↓reduceIte]
    · simp only [↓DN, UP, DF, ashift, aconv, aindexAddr, aindex, aslice, abuiltin, AV.cells, AV.one, reduceCtorEq, ↓reduceIte, nLT, nLE, nEQ, nAdd, nMul, nPow, nSub, zLT, zLE, zNat, RAes2074]
      refine aq_one 1 (by kernel_rfl) rfl ?_
      simp only [↓DN, UP, DF, ashift, aconv, aindexAddr, aindex, aslice, abuiltin, AV.cells, AV.one, reduceCtorEq, ↓reduceIte, nLT, nLE, nEQ, nAdd, nMul, nPow, nSub, zLT, zLE, zNat, RAes2074, T.c5, T.b5, T.z5]
      refine ⟨by decide, by decide, fun o2 ho2 => ?_⟩
      have hne : o1 ≠ o2 := fun e => by rw [e] at ho2; simp only [if_true] at ho2; cases ho2
      rw [if_neg (Ne.symm hne)] at ho2
      refine aq_one 3 (by kernel_rfl) rfl ?_
      simp only [↓DN, UP, DF, ashift, aconv, aindexAddr, aindex, aslice, abuiltin, AV.cells, AV.one, reduceCtorEq, ↓reduceIte, nLT, nLE, nEQ, nAdd, nMul, nPow, nSub, zLT, zLE, zNat, RAes2074]
      rw [hz48, hz16]
      refine aq_nil (by kernel_rfl) (hgo o1 o2 _ _ hne ?_ (AS.set_objs_same _ _ _) (hown _ _ _ _) (hob _ _ _ _ hk0 hn0) ?_ ?_)
      · rw [AS.set_objs_ne _ hne]; exact AS.set_objs_same _ _ _
      · simp only [upd, Nat.reduceEqDiff, ↓reduceIte]
      · simp only [upd, Nat.reduceEqDiff, ↓reduceIte]
  · simp only [↓DN, UP, DF, ashift, aconv, aindexAddr, aindex, aslice, abuiltin, AV.cells, AV.one, reduceCtorEq, ↓reduceIte, nLT, nLE, nEQ, nAdd, nMul, nPow, nSub, zLT, zLE, zNat, RAes2074, T.c5, T.b5, T.z5]
    refine ⟨by decide, by decide, fun o2 ho2 => ?_⟩
    refine aq_one 0 (by kernel_rfl) rfl ?_
    simp only [↓DN, UP, DF, ashift, aconv, aindexAddr, aindex, aslice, abuiltin, AV.cells, AV.one, reduceCtorEq, ↓reduceIte, nLT, nLE, nEQ, nAdd, nMul, nPow, nSub, zLT, zLE, zNat, RAes2074, T.c5, T.b5, T.z5]
    refine ⟨by decide, by decide, fun o1 ho1 => ?_⟩
    have hne : o1 ≠ o2 := fun e => by rw [e] at ho1; simp only [if_true] at ho1; cases ho1
    rw [if_neg hne] at ho1
    refine aq_one 2 (by kernel_rfl) rfl ?_
    simp only [↓DN, UP, DF, ashift, aconv, aindexAddr, aindex, aslice, abuiltin, AV.cells, AV.one, reduceCtorEq, ↓reduceIte, nLT, nLE, nEQ, nAdd, nMul, nPow, nSub, zLT, zLE, zNat, RAes2074]
    refine aq_one 3 (by kernel_rfl) rfl ?_
    simp only [↓DN, UP, DF, ashift, aconv, aindexAddr, aindex, aslice, abuiltin, AV.cells, AV.one, reduceCtorEq, ↓reduceIte, nLT, nLE, nEQ, nAdd, nMul, nPow, nSub, zLT, zLE, zNat, RAes2074]
    rw [hz48, hz16]
    refine aq_nil (by kernel_rfl) (hgo o1 o2 _ _ hne (AS.set_objs_same _ _ _) ?_ (hown _ _ _ _) (hob _ _ _ _ hn0 hk0) ?_ ?_)
    · rw [AS.set_objs_ne _ (Ne.symm hne)]; exact AS.set_objs_same _ _ _
    · simp only [upd, Nat.reduceEqDiff, ↓reduceIte]
    · simp only [upd, Nat.reduceEqDiff, ↓reduceIte]

end Go.Proofs.YtpakgjmcaefnmaaDoor


set_option autoImplicit false
namespace Go.Proofs.YtpakgjmcaefnmaaDoor
open Go Go.AM Go.Proofs

theorem RAes2175 : type_of% (And.intro (And.intro (And.intro (And.intro (And.intro @Tryd.underlying3 (And.intro T.c3 T.g3)) (And.intro T.b3 (And.intro T.z3 @Tryd.underlying5))) (And.intro (And.intro T.c5 (And.intro T.g5 T.b5)) (And.intro (And.intro T.z5 @Tryd.underlying22) (And.intro T.c22 T.g22)))) (And.intro (And.intro (And.intro T.b22 (And.intro T.z22 T.s22)) (And.intro @Tryd.underlying89 (And.intro T.c89 T.g89))) (And.intro (And.intro T.b89 (And.intro T.z89 T.h89)) (And.intro (And.intro T.f89_0 T.f89_1) (And.intro T.f89_2 T.f89_3))))) Tryd.ntmps75) :=
  (And.intro (And.intro (And.intro (And.intro (And.intro @Tryd.underlying3 (And.intro T.c3 T.g3)) (And.intro T.b3 (And.intro T.z3 @Tryd.underlying5))) (And.intro (And.intro T.c5 (And.intro T.g5 T.b5)) (And.intro (And.intro T.z5 @Tryd.underlying22) (And.intro T.c22 T.g22)))) (And.intro (And.intro (And.intro T.b22 (And.intro T.z22 T.s22)) (And.intro @Tryd.underlying89 (And.intro T.c89 T.g89))) (And.intro (And.intro T.b89 (And.intro T.z89 T.h89)) (And.intro (And.intro T.f89_0 T.f89_1) (And.intro T.f89_2 T.f89_3))))) Tryd.ntmps75)
variable {Γ : Nat → List AV}

abbrev caseC (k n b t : List UInt8) : List AV := [bytesV k .any, bytesV n .any, bytesV b .any, bytesV t .any]

set_option maxHeartbeats 1000000 in
theorem small06_calls (k n b t : List UInt8) (s : AS) : ACalls Tryd.prog Γ 75 [.agg (caseC k n b t)] s (fun r s' => ∃ v, r = .v (.bool v) ∧ s' = s ∧ (v = true → k.length ≤ 60 ∧ n.length ≤ 30 ∧ b.length ≤ 200 ∧ t.length ≤ 400)) := by
  refine acalls_body Tryd.func75 rfl Tryd.ntmps75 Tryd.results75 (by simp) ?_
  unfold caseC
  refine awp_reg_frz 1 (by simp [dsts]) ?_
  intro K hK
  simp only [↓AXq_nil, ↓AXq_cons, pval, DX, Nat.reduceBEq, ↓DN, UP, DF, ashift, aconv, aindexAddr, aindex, aslice, abuiltin, AV.cells, AV.one, reduceCtorEq, ↓reduceIte, nLT, nLE, nEQ, nAdd, nMul, nPow, nSub, zLT, zLE, zNat, RAes2175]
  intro o ho
  refine hK _ _ o _ (by simp only [upd, Nat.reduceEqDiff, ↓reduceIte]) ho ?_
  clear hK K ho
  rcases ff4 (decide ((k.length : Int) ≤ 60)) (decide ((n.length : Int) ≤ 30)) (decide ((b.length : Int) ≤ 200)) (decide ((t.length : Int) ≤ 400)) with hd | hd | hd | hd | hd
  all_goals
    refine awp_reg_seq ?_
    intro K hK
    simp only [↓DN, UP, DF, ashift, aconv, aindexAddr, aindex, aslice, abuiltin, AV.cells, AV.one, reduceCtorEq, ↓reduceIte, nLT, nLE, nEQ, nAdd, nMul, nPow, nSub, zLT, zLE, zNat, RAes2175, hd]
    refine hK _ _ ?_
    clear hK K
    refine awp_ret ?_
    simp only [retQ, AEnds, aresL, ares, List.toList_toArray, ↓upd_same]; try simp only [↓DN, UP, DF, ashift, aconv, aindexAddr, aindex, aslice, abuiltin, AV.cells, AV.one, reduceCtorEq, ↓reduceIte, nLT, nLE, nEQ, nAdd, nMul, nPow, nSub, zLT, zLE, zNat, RAes2175, DT]
    refine ⟨_, _, AV.weak.refl _, AS.le.refl _, _, rfl, rfl, ?_⟩
    intro ht
    try cases ht
  · simp only [decide_eq_true_eq, decide_eq_false_iff_not] at hd
    omega

end Go.Proofs.YtpakgjmcaefnmaaDoor


set_option autoImplicit false
namespace Go.Proofs.YtpakgjmcaefnmaaDoor
open Go Go.AM Go.Proofs

variable {Γ : Nat → List AV}

theorem len48 {n : Nat} (h : n = 48) : ((n : Int) != 48) = false := by subst h; rfl
theorem len48T {n : Nat} (h : n ≠ 48) : ((n : Int) != 48) = true := by simp only [bne_iff_ne, ne_eq]; omega
theorem len16 {n : Nat} (h : n = 16) : ((n : Int) != 16) = false := by subst h; rfl
theorem len16T {n : Nat} (h : n ≠ 16) : ((n : Int) != 16) = true := by simp only [bne_iff_ne, ne_eq]; omega

end Go.Proofs.YtpakgjmcaefnmaaDoor


set_option autoImplicit false
namespace Go.Proofs.YtpakgjmcaefnmaaDoor
open Go Go.AM Go.Proofs



/-- The given tables, as words. -/
def Γd (g : Nat) : List AV := if g = 0 then [wV Sha.H0.a, wV Sha.H0.b, wV Sha.H0.c, wV Sha.H0.d, wV Sha.H0.e, wV Sha.H0.f, wV Sha.H0.g, wV Sha.H0.h] else if g = 1 then Sha.K.map wV else []
abbrev laidD : List (String × DataW Unit) := [("engrosser/sha.rounds", Rows.laid_engrosser_sha_rounds), ("engrosser/sha.start", Rows.laid_engrosser_sha_start)]

theorem ints_of_trod {H : Type} {enc : TypeId × Value → H} {P : Program} {W : World} {base : Nat} {sp : Nat → Bool} {held : Bool} {fuel : Nat} {t e : TypeId} {n : Nat} {cs : List Value} {p : List MemPlace} {l : List Nat}
    (hT : P.underlying t = some (.array n e)) (he : P.underlying e = some (.int .u32)) (hc : P.cellsOf e = 1)
    (h : DataW.trod enc P W base sp held fuel t cs = some (.agg (l.map fun (x : Nat) => .lit (.int .u32 (x : Int))), p)) : ∀ (i x : Nat), l[i]? = some x → cs[i]? = some (.int .u32 (x : Int)) := by
  obtain ⟨xs, m, rfl, hx, hlen, hn, hel⟩ := DataW.trod_array hT h
  simp only [Prod.mk.injEq, DataW.agg.injEq] at hx
  intro i x hi
  have h1 : (l.map fun (x : Nat) => DataW.lit (H := H) (.int .u32 (x : Int)))[i]? = some (.lit (.int .u32 (x : Int))) := by rw [List.getElem?_map, hi]; rfl
  rw [hx.1, List.getElem?_map] at h1
  cases hy : xs[i]? with
  | none => rw [hy] at h1; cases h1
  | some y =>
    rw [hy] at h1
    simp only [Option.map_some, Option.some.injEq] at h1
    have hlt := (List.getElem?_eq_some_iff.1 hy).1
    have h2 := hel i (by omega)
    rw [hy, hc, Nat.mul_one] at h2
    obtain ⟨k, e1, e2, _⟩ := DataW.trod_int he h2
    rw [e2] at h1
    simp only [DataW.lit.injEq, Lit.int.injEq, true_and] at h1
    have h3 : (List.take 1 (List.drop i cs))[0]? = some (.int .u32 k) := by rw [e1]; rfl
    rw [List.getElem?_take, if_pos (by decide), List.getElem?_drop, Nat.add_zero, h1] at h3
    exact h3

theorem gRounds : Tryd.prog.globalNamed "engrosser/sha.rounds" = some 1 := by kernel_rfl
theorem gStart : Tryd.prog.globalNamed "engrosser/sha.start" = some 0 := by kernel_rfl
theorem tRounds : (Tryd.prog.globals[1]?).map (·.type) = some 138 := by kernel_rfl
theorem tStart : (Tryd.prog.globals[0]?).map (·.type) = some 100 := by kernel_rfl

theorem words_at {W : World} {g : Nat} {cs : Array Value} {l : List Nat} (hc : ∀ i, W.cell? ⟨g, i, none⟩ = cs[i]?) (h : ∀ (i x : Nat), l[i]? = some x → cs.toList[i]? = some (.int .u32 (x : Int))) :
    ∃ vs, VRels (G0 W) (l.map wV) vs ∧ RoAt (G0 W) g 0 vs := by
  refine ⟨l.map fun (x : Nat) => .int .u32 (x : Int), ?_, ?_⟩
  · have := VRels.vals (G := G0 W) (l.map fun (x : Nat) => Value.int .u32 (x : Int))
    rwa [List.map_map] at this
  · intro j u hu
    rw [List.getElem?_map] at hu
    cases hj : l[j]? with
    | none => rw [hj] at hu; cases hu
    | some x =>
      rw [hj] at hu
      simp only [Option.map_some, Option.some.injEq] at hu
      have := h j x hj
      show W.cell? ⟨g, 0 + j, none⟩ = some u
      rw [Nat.zero_add, hc j, ← hu]
      simpa using this

/-- What the condition gives the walks: the two tables' cells. -/
theorem of_laid {W : World} (h : laidMetH Tryd.prog laidD W) : ∀ g, ∃ vs, VRels (G0 W) (Γd g) vs ∧ RoAt (G0 W) g 0 vs := by
  rw [MakeChecks.laidMetH_plain _ _ _ (by kernel_rfl)] at h
  obtain ⟨ps, ⟨g0, t0, cs0, f0, p0, q0, hg0, ht0, hv0, hd0, ⟨g1, t1, cs1, f1, p1, q1, hg1, ht1, hv1, hd1, _, _⟩, _⟩, _, _⟩ := h
  obtain rfl := Option.some.inj (gRounds.symm.trans hg0)
  obtain rfl := Option.some.inj (gStart.symm.trans hg1)
  obtain rfl := Option.some.inj (tRounds.symm.trans ht0)
  obtain rfl := Option.some.inj (tStart.symm.trans ht1)
  have h1 := words_at (World.var?_cell hg0 hv0) (ints_of_trod (l := Sha.K) Tryd.underlying138 Tryd.underlying99 T.c99 hd0)
  have h0 := words_at (World.var?_cell hg1 hv1) (ints_of_trod (l := Sha.H0.list) Tryd.underlying100 Tryd.underlying99 T.c99 hd1)
  intro g
  by_cases e0 : g = 0
  · subst e0; exact h0
  · by_cases e1 : g = 1
    · subst e1; exact h1
    · refine ⟨[], ?_, fun j u h => by simp at h⟩
      simp [Γd, e0, e1, VRels]

/-- The door's own heap meets the condition. -/
theorem door_met (os : Os) (args : Array Value) : laidMetH Tryd.prog laidD ((World.doorLaid Tryd.prog 400 os).forCall (fun _ _ => 0) ⟨#[], args, []⟩).memory := by
  rw [MakeChecks.laidMetH_plain _ _ _ (by kernel_rfl)]
  exact laidMet_of_run' 8 (by kernel_rfl) (by kernel_rfl)

end Go.Proofs.YtpakgjmcaefnmaaDoor


set_option autoImplicit false
namespace Go.AM
open Go

/-! ### Records -/
structure Rec where
  kind : Int
  group : List UInt8
  epoch : Int
  time : Int
  bucket : Int
  body : List UInt8
  tree : List UInt8
  script : List UInt8
  wrapped : List UInt8
  deriving DecidableEq

def Rec.cells (r : Rec) : List AV := [.v (.int .i64 r.kind), bytesV r.group .any, .v (.int .i64 r.epoch), .v (.int .i64 r.time), .v (.int .i64 r.bucket), bytesV r.body .any, bytesV r.tree .any, bytesV r.script .any, bytesV r.wrapped .any]
def Rec.right (r : Rec) : Prop :=
  1 ≤ r.kind ∧ r.kind ≤ 3 ∧ 1 ≤ r.group.length ∧ r.group.length ≤ 16 ∧ 0 ≤ r.epoch ∧ r.epoch ≤ 1048576 ∧ 0 ≤ r.time ∧ r.time ≤ 1099511627776 ∧ 0 ≤ r.bucket ∧ r.bucket ≤ 1099511627776 ∧ r.body.length ≤ 60000 ∧
    r.tree.length = (if r.kind = 3 then 0 else 32) ∧ r.script.length = (if r.kind = 3 then 0 else 32) ∧ r.wrapped.length = (if r.kind = 3 then 0 else 48)
instance (r : Rec) : Decidable r.right := by unfold Rec.right; infer_instance

def Rec.text (r : Rec) : List UInt8 :=
  be 1 r.kind.toNat ++ (be 1 r.group.length ++ r.group ++ (be 8 r.epoch.toNat ++ (be 8 r.time.toNat ++ (be 8 r.bucket.toNat ++
    (be 2 r.body.length ++ r.body ++ (be 1 r.tree.length ++ r.tree ++ (be 1 r.script.length ++ r.script ++ (be 1 r.wrapped.length ++ r.wrapped ++ []))))))))

/-! What was read is written back. -/
end Go.AM


set_option autoImplicit false
namespace Go.AM
open Go

theorem IsTy.record {avs : List AV} (h : IsTy (.struct (.cons tyI (.cons tyB (.cons tyI (.cons tyI (.cons tyI (.cons tyB (.cons tyB (.cons tyB (.cons tyB .nil)))))))))) avs) : ∃ R : Rec, avs = R.cells := by
  obtain ⟨x1, y1, rfl, t1, h⟩ := isF_cons (isTy_struct h)
  obtain ⟨x2, y2, rfl, t2, h⟩ := isF_cons h
  obtain ⟨x3, y3, rfl, t3, h⟩ := isF_cons h
  obtain ⟨x4, y4, rfl, t4, h⟩ := isF_cons h
  obtain ⟨x5, y5, rfl, t5, h⟩ := isF_cons h
  obtain ⟨x6, y6, rfl, t6, h⟩ := isF_cons h
  obtain ⟨x7, y7, rfl, t7, h⟩ := isF_cons h
  obtain ⟨x8, y8, rfl, t8, h⟩ := isF_cons h
  obtain ⟨x9, y9, rfl, t9, h⟩ := isF_cons h
  obtain rfl := isF_nil h
  obtain ⟨n1, rfl, _⟩ := isTy_int t1
  obtain ⟨l2, rfl, _⟩ := t2.bytes
  obtain ⟨n3, rfl, _⟩ := isTy_int t3
  obtain ⟨n4, rfl, _⟩ := isTy_int t4
  obtain ⟨n5, rfl, _⟩ := isTy_int t5
  obtain ⟨l6, rfl, _⟩ := t6.bytes
  obtain ⟨l7, rfl, _⟩ := t7.bytes
  obtain ⟨l8, rfl, _⟩ := t8.bytes
  obtain ⟨l9, rfl, _⟩ := t9.bytes
  exact ⟨⟨n1, l2, n3, n4, n5, l6, l7, l8, l9⟩, rfl⟩
end Go.AM


set_option autoImplicit false
namespace Go.Proofs.YtpakgjmcaefnmaaDoor
open Go Go.AM Go.Proofs



theorem case06 {avs : List AV} (h : IsTy (.struct (.cons tyB (.cons tyB (.cons tyB (.cons tyB .nil))))) avs) : ∃ k n b t : List UInt8, avs = caseC k n b t := by
  obtain ⟨x1, y1, rfl, t1, h⟩ := isF_cons (isTy_struct h)
  obtain ⟨x2, y2, rfl, t2, h⟩ := isF_cons h
  obtain ⟨x3, y3, rfl, t3, h⟩ := isF_cons h
  obtain ⟨x4, y4, rfl, t4, h⟩ := isF_cons h
  obtain rfl := isF_nil h
  obtain ⟨l1, rfl, _⟩ := t1.bytes
  obtain ⟨l2, rfl, _⟩ := t2.bytes
  obtain ⟨l3, rfl, _⟩ := t3.bytes
  obtain ⟨l4, rfl, _⟩ := t4.bytes
  exact ⟨l1, l2, l3, l4, rfl⟩
theorem gd_flat : ∀ g, ∀ c ∈ Γd g, ∃ x, c = .v x := by
  intro g c hc
  unfold Γd at hc
  split at hc
  · simp only [List.mem_cons, List.not_mem_nil, or_false] at hc
    rcases hc with rfl | rfl | rfl | rfl | rfl | rfl | rfl | rfl <;> exact ⟨_, rfl⟩
  · split at hc
    · simp only [List.mem_map] at hc
      obtain ⟨x, _, rfl⟩ := hc
      exact ⟨_, rfl⟩
    · simp at hc

end Go.Proofs.YtpakgjmcaefnmaaDoor


set_option autoImplicit false
namespace Go.Proofs.YtpakgjmcaefnmaaDoor
open Go Go.AM Go.Proofs



variable {Γ : Nat → List AV}

def turnL (l : List UInt8) (i : Nat) (w : UInt8) : List UInt8 := l.set i (l.getD i 0 ^^^ w)
theorem turn_len (l : List UInt8) (i : Nat) (w : UInt8) : (turnL l i w).length = l.length := by simp [turnL]
theorem xor_ne (a w : UInt8) (hw : w ≠ 0) : a ^^^ w ≠ a := by
  intro h
  have := congrArg (a ^^^ ·) h
  simp only [← UInt8.xor_assoc, UInt8.xor_self, UInt8.zero_xor] at this
  exact hw this
theorem turn_ne (l : List UInt8) (i : Nat) (w : UInt8) (hi : i < l.length) (hw : w ≠ 0) : turnL l i w ≠ l := by
  intro h
  have h1 := congrArg (fun x => x.getD i 0) h
  simp only [turnL, List.getD_eq_getElem?_getD, List.getElem?_set_self hi, Option.getD_some] at h1
  rw [List.getElem?_eq_getElem hi] at h1
  exact xor_ne _ w hw h1
theorem turn_left (a b : List UInt8) (i : Nat) (w : UInt8) (hi : i < a.length) : turnL (a ++ b) i w = turnL a i w ++ b := by
  unfold turnL
  rw [List.set_append_left _ _ hi]
  simp only [List.getD_eq_getElem?_getD, List.getElem?_append_left hi]
theorem turn_right (a b : List UInt8) (i : Nat) (w : UInt8) (hi : a.length ≤ i) : turnL (a ++ b) i w = a ++ turnL b (i - a.length) w := by
  unfold turnL
  rw [List.set_append_right _ _ hi]
  simp only [List.getD_eq_getElem?_getD, List.getElem?_append_right hi]
theorem turned_law (k n b t : List UInt8) (i : Nat) (w : UInt8) (hi : i < t.length + 16) (hw : w ≠ 0) :
    openedE k n b (turnL (Aes.sealed k n b t) i w) = 14 ∨ (openedE k n b (turnL (Aes.sealed k n b t) i w) = 0 ∧ openedT k n b (turnL (Aes.sealed k n b t) i w) ≠ t ∧ i < t.length) := by
  have hM := Aes.mask_len k n t
  have hT := Aes.tag_len k n b (Aes.mask k n t)
  have hb := Aes.mask_back k n t
  unfold Aes.sealed
  generalize Aes.mask k n t = M at *
  generalize hTT : Aes.tag k n b M = T at *
  have hl : ¬ (turnL (M ++ T) i w).length < 16 := by rw [turn_len]; simp [hT]
  have hl2 : (turnL (M ++ T) i w).length - 16 = M.length := by rw [turn_len]; simp [hT]
  unfold openedE openedT
  rw [if_neg hl, if_neg hl, hl2]
  by_cases ht : Aes.tag k n b ((turnL (M ++ T) i w).take M.length) = (turnL (M ++ T) i w).drop M.length
  · rw [if_pos ht, if_pos ht]
    refine Or.inr ⟨rfl, ?_⟩
    by_cases h : i < M.length
    · refine ⟨?_, by omega⟩
      rw [turn_left _ _ _ _ h, List.take_left' (turn_len _ _ _)]
      intro he
      have h2 := Aes.mask_back k n (turnL M i w)
      rw [he] at h2
      exact turn_ne M i w h hw (by rw [← h2, ← hb, Aes.mask_back])
    · exfalso
      rw [turn_right _ _ _ _ (by omega), List.take_left' rfl, List.drop_left' rfl, hTT] at ht
      exact turn_ne T (i - M.length) w (by omega) hw ht.symm
  · rw [if_neg ht]
    exact Or.inl rfl

end Go.Proofs.YtpakgjmcaefnmaaDoor


set_option autoImplicit false
namespace Go.Proofs.YtpakgjmcaefnmaaDoor
open Go Go.AM Go.Proofs

theorem RAes2521 : type_of% (And.intro (And.intro (And.intro (And.intro (And.intro (And.intro @Tryd.underlying3 T.c3) (And.intro T.g3 (And.intro T.b3 T.z3))) (And.intro (And.intro @Tryd.underlying4 (And.intro T.c4 T.g4)) (And.intro T.b4 (And.intro T.z4 @Tryd.underlying5)))) (And.intro (And.intro (And.intro T.c5 (And.intro T.g5 T.b5)) (And.intro T.z5 (And.intro @Tryd.underlying9 T.c9))) (And.intro (And.intro T.g9 (And.intro T.b9 T.z9)) (And.intro @Tryd.underlying22 (And.intro T.c22 T.g22))))) (And.intro (And.intro (And.intro (And.intro T.b22 (And.intro T.z22 T.s22)) (And.intro @Tryd.underlying89 (And.intro T.c89 T.g89))) (And.intro (And.intro T.b89 (And.intro T.z89 T.h89)) (And.intro @Tryd.underlying91 (And.intro T.c91 T.g91)))) (And.intro (And.intro (And.intro T.b91 (And.intro T.z91 T.f89_0)) (And.intro T.f89_1 (And.intro T.f89_2 T.f89_3))) (And.intro (And.intro T.k77 (And.intro T.k79 T.k76)) (And.intro T.k25 (And.intro T.k74 T.k75)))))) Tryd.ntmps21) :=
  (And.intro (And.intro (And.intro (And.intro (And.intro (And.intro @Tryd.underlying3 T.c3) (And.intro T.g3 (And.intro T.b3 T.z3))) (And.intro (And.intro @Tryd.underlying4 (And.intro T.c4 T.g4)) (And.intro T.b4 (And.intro T.z4 @Tryd.underlying5)))) (And.intro (And.intro (And.intro T.c5 (And.intro T.g5 T.b5)) (And.intro T.z5 (And.intro @Tryd.underlying9 T.c9))) (And.intro (And.intro T.g9 (And.intro T.b9 T.z9)) (And.intro @Tryd.underlying22 (And.intro T.c22 T.g22))))) (And.intro (And.intro (And.intro (And.intro T.b22 (And.intro T.z22 T.s22)) (And.intro @Tryd.underlying89 (And.intro T.c89 T.g89))) (And.intro (And.intro T.b89 (And.intro T.z89 T.h89)) (And.intro @Tryd.underlying91 (And.intro T.c91 T.g91)))) (And.intro (And.intro (And.intro T.b91 (And.intro T.z91 T.f89_0)) (And.intro T.f89_1 (And.intro T.f89_2 T.f89_3))) (And.intro (And.intro T.k77 (And.intro T.k79 T.k76)) (And.intro T.k25 (And.intro T.k74 T.k75)))))) Tryd.ntmps21)

variable {Γ : Nat → List AV}

theorem w_noughtT : (((0 : UInt8).toNat : Int) == 0) = true := rfl
theorem w_nought {w : UInt8} (h : w ≠ 0) : ((w.toNat : Int) == 0) = false := by
  have : w.toNat ≠ 0 := fun e => h (UInt8.toNat_inj.1 e)
  simp only [beq_eq_false_iff_ne, ne_eq]; omega

theorem turn_set (l : List UInt8) (i : Nat) (w : UInt8) : (l.map byteV).set i (bV (l.getD i 0 ^^^ w)) = (turnL l i w).map byteV := by
  unfold turnL
  rw [List.map_set]; rfl

set_option maxHeartbeats 8000000 in
set_option maxRecDepth 100000 in
theorem sealTurned_calls (hG0 : Γ 0 = stC Sha.H0) (hG : Γ 1 = Sha.K.map wV) (hΓ : ∀ g, ∀ c ∈ Γ g, ∃ x, c = .v x) (k n b t : List UInt8) (a : Int) (w : UInt8) :
    ACalls Tryd.prog Γ 21 [.agg (caseC k n b t), .v (.int .i64 a), .v (.int .u8 w.toNat)] s0 (fun r s' => r = .v (.bool true)) := by
  refine gcalls_body Tryd.func21 rfl Tryd.ntmps21 Tryd.results21 (by simp) ?_
  have hsm := fun s => small06_calls (Γ := Γ) k n b t s
  unfold caseC at *
  refine gwp_reg_frz 3 (by simp [dsts]) ?_
  intro K hK
  simp only [↓AXq_nil, ↓AXq_cons, pval, DX, Nat.reduceBEq, ↓DN, UP, DF, ashift, aconv, aindexAddr, aindex, aslice, abuiltin, AV.cells, AV.one, reduceCtorEq, ↓reduceIte, nLT, nLE, nEQ, nAdd, nMul, nPow, nSub, zLT, zLE, zNat, RAes2521]
  intro o ho
  refine hK _ _ o _ (by simp only [upd, Nat.reduceEqDiff, ↓reduceIte]) ho ?_
  clear hK K ho
  refine gwp_seq_k ?_
  intro K hK
  refine awp_reg_seq ?_
  intro K hK
  simp only [↓DN, UP, DF, ashift, aconv, aindexAddr, aindex, aslice, abuiltin, AV.cells, AV.one, reduceCtorEq, ↓reduceIte, nLT, nLE, nEQ, nAdd, nMul, nPow, nSub, zLT, zLE, zNat, RAes2521]
  refine acallk (awake06_calls hG0 hG hΓ) ?_
  rintro r s1 ⟨rfl, rfl⟩
  simp only [↓AXq_nil, ↓AXq_cons, pval, DX, Nat.reduceBEq, ↓DN, UP, DF, ashift, aconv, aindexAddr, aindex, aslice, abuiltin, AV.cells, AV.one, reduceCtorEq, ↓reduceIte, nLT, nLE, nEQ, nAdd, nMul, nPow, nSub, zLT, zLE, zNat, RAes2521]
  refine acallk (hsm _) ?_
  rintro r s2 ⟨v, rfl, rfl, hv⟩
  by_cases hall : v = true ∧ k.length = 48 ∧ n.length = 16 ∧ w ≠ 0
  · obtain ⟨rfl, hk, hn, hw⟩ := hall
    obtain ⟨_, _, hb, ht⟩ := hv rfl
    clear hv
    simp only [↓AXq_nil, ↓AXq_cons, pval, DX, Nat.reduceBEq, ↓DN, UP, DF, ashift, aconv, aindexAddr, aindex, aslice, abuiltin, AV.cells, AV.one, reduceCtorEq, ↓reduceIte, nLT, nLE, nEQ, nAdd, nMul, nPow, nSub, zLT, zLE, zNat, RAes2521, len48 hk, len16 hn, w_nought hw]
    refine hK _ _ ?_
    clear hK K
    refine awp_cond_k ?_
    intro X Y hX hY
    simp only [↓DN, UP, DF, ashift, aconv, aindexAddr, aindex, aslice, abuiltin, AV.cells, AV.one, reduceCtorEq, ↓reduceIte, nLT, nLE, nEQ, nAdd, nMul, nPow, nSub, zLT, zLE, zNat, RAes2521, DB]
    refine hY ?_
    clear hX hY X Y
    refine awp_skip ?_
    refine hK _ _ ?_
    clear hK K
    have hf : k.length = 48 ∧ n.length = 16 := ⟨hk, hn⟩
    have h1 : sealT k n b t = Aes.sealed k n b t := by unfold sealT; rw [if_pos hf]
    have h2 : sealE k n = 0 := by unfold sealE; rw [if_pos hf]
    have hsl := sealed_len k n b t
    have c1 := fun s => seal_calls (Γ := Γ) hG0 hG k n b t (by omega) (by omega) s
    rw [h1, h2] at c1
    have claw := fun i (hi : i < t.length + 16) => turned_law k n b t i w hi hw
    generalize Aes.sealed k n b t = S0 at *
    refine gwp_seq_k ?_
    intro K1 hK1
    refine awp_reg_end ?_
    intro K hK
    simp only [↓DN, UP, DF, ashift, aconv, aindexAddr, aindex, aslice, abuiltin, AV.cells, AV.one, reduceCtorEq, ↓reduceIte, nLT, nLE, nEQ, nAdd, nMul, nPow, nSub, zLT, zLE, zNat, RAes2521]
    refine acallk (c1 _) ?_
    rintro r s3 ⟨rfl, rfl⟩
    simp only [↓AXq_nil, ↓AXq_cons, pval, DX, Nat.reduceBEq, ↓DN, UP, DF, ashift, aconv, aindexAddr, aindex, aslice, abuiltin, AV.cells, AV.one, reduceCtorEq, ↓reduceIte, nLT, nLE, nEQ, nAdd, nMul, nPow, nSub, zLT, zLE, zNat, RAes2521]
    refine hK _ _ ?_
    clear hK K
    simp only [thenQ]
    refine hK1 _ _ ?_
    clear hK1 K1
    refine gwp_seq_k ?_
    intro K1 hK1
    refine awp_reg_seq ?_
    intro K hK
    simp only [↓DN, UP, DF, ashift, aconv, aindexAddr, aindex, aslice, abuiltin, AV.cells, AV.one, reduceCtorEq, ↓reduceIte, nLT, nLE, nEQ, nAdd, nMul, nPow, nSub, zLT, zLE, zNat, RAes2521, show ((((0 : Nat) : Int) != 0) = false) from rfl, show iadd .i64 (t.length : Int) 16 = ((t.length + 16 : Nat) : Int) from i64_add t.length 16 (by omega), hsl, bne_self_eq_false]
    refine hK _ _ ?_
    clear hK K
    refine awp_cond_k ?_
    intro X Y hX hY
    simp only [↓DN, UP, DF, ashift, aconv, aindexAddr, aindex, aslice, abuiltin, AV.cells, AV.one, reduceCtorEq, ↓reduceIte, nLT, nLE, nEQ, nAdd, nMul, nPow, nSub, zLT, zLE, zNat, RAes2521, DB]
    refine hY ?_
    clear hX hY X Y
    refine awp_skip ?_
    try simp only [thenQ, blockQ]
    refine hK1 _ _ ?_
    clear hK1 K1
    refine gwp_seq_k ?_
    intro K1 hK1
    refine awp_region_clone4 (x := .tmp 68) (y := .tmp 69) (T := 22) (xT := 22) (e := 5) (z := [.v (.int .u8 0)]) (d := 70) rfl rfl rfl (by decide) Tryd.underlying22 (by simp only [↓DN, UP, DF, ashift, aconv, aindexAddr, aindex, aslice, abuiltin, AV.cells, AV.one, reduceCtorEq, ↓reduceIte, nLT, nLE, nEQ, nAdd, nMul, nPow, nSub, zLT, zLE, zNat, RAes2521]; try rfl) (by simp only [↓DN, UP, DF, ashift, aconv, aindexAddr, aindex, aslice, abuiltin, AV.cells, AV.one, reduceCtorEq, ↓reduceIte, nLT, nLE, nEQ, nAdd, nMul, nPow, nSub, zLT, zLE, zNat, RAes2521]; try rfl) (by rw [T.c5]; decide) (by rw [T.c5]; rfl) ?_
    simp only [↓DN, UP, DF, ashift, aconv, aindexAddr, aindex, aslice, abuiltin, AV.cells, AV.one, reduceCtorEq, ↓reduceIte, nLT, nLE, nEQ, nAdd, nMul, nPow, nSub, zLT, zLE, zNat, RAes2521, asrc]
    refine ⟨_, _, rfl, by omega, by omega, by omega, ?_⟩
    intro ob cap hob hcap
    refine hK1 _ _ ?_
    clear hK1 K1
    have j9 : (s0.set ob (S0.map byteV)).objs ob = some (S0.map byteV) := AS.set_objs_same _ _ _
    generalize s0.set ob (S0.map byteV) = s4 at *
    refine gwp_env (fun E s => E 1 = .v (.int .i64 a) ∧ E 2 = .v (.int .u8 w.toNat) ∧ E 3 = .rop [bytesV k .any, bytesV n .any, bytesV b .any, bytesV t .any] ∧ E 7 = .sl 1 (t.length + 16) (S0.map byteV) .any ∧ E 9 = .osl ob 0 1 (t.length + 16) cap ∧ s.objs ob = some (S0.map byteV)) ⟨by simp only [upd, Nat.reduceEqDiff, ↓reduceIte]; try rfl, by simp only [upd, Nat.reduceEqDiff, ↓reduceIte]; try rfl, by simp only [upd, Nat.reduceEqDiff, ↓reduceIte]; try rfl, by simp only [upd, Nat.reduceEqDiff, ↓reduceIte]; try rfl, by simp only [upd, Nat.reduceEqDiff, ↓reduceIte]; try rfl, j9⟩ ?_
    clear j9
    rintro E s4 ⟨e1, e2, e3, e7, e9, j9⟩
    unfold bytesV at e3
    refine gwp_seq_k ?_
    intro K1 hK1
    refine awp_reg_end ?_
    intro K hK
    simp only [↓DN, UP, DF, ashift, aconv, aindexAddr, aindex, aslice, abuiltin, AV.cells, AV.one, reduceCtorEq, ↓reduceIte, nLT, nLE, nEQ, nAdd, nMul, nPow, nSub, zLT, zLE, zNat, RAes2521, e1, e9]
    refine acallk (rest_calls a _ (by omega) (by omega) _) ?_
    rintro r s5 ⟨i, rfl, hi, rfl⟩
    simp only [↓AXq_nil, ↓AXq_cons, pval, DX, Nat.reduceBEq, ↓DN, UP, DF, ashift, aconv, aindexAddr, aindex, aslice, abuiltin, AV.cells, AV.one, reduceCtorEq, ↓reduceIte, nLT, nLE, nEQ, nAdd, nMul, nPow, nSub, zLT, zLE, zNat, RAes2521]
    refine hK _ _ ?_
    clear hK K
    simp only [thenQ]
    refine hK1 _ _ ?_
    clear hK1 K1
    refine gwp_seq_k ?_
    intro K1 hK1
    have m0 : (0 : Int) ≤ (i : Int) := by omega
    have m1 : (i : Int) < ((t.length + 16 : Nat) : Int) := by omega
    have m2 : i + 1 ≤ t.length + 16 := by omega
    have hdr := bytes_drop (l := S0) i (by omega)
    have hset := turn_set S0 i w
    have hlen : (S0.map byteV).length = t.length + 16 := by rw [List.length_map, hsl]
    refine awp_reg_end ?_
    intro K hK
    simp only [↓DN, UP, DF, ashift, aconv, aindexAddr, aindex, aslice, abuiltin, AV.cells, AV.one, reduceCtorEq, ↓reduceIte, nLT, nLE, nEQ, nAdd, nMul, nPow, nSub, zLT, zLE, zNat, RAes2521, e2, e9, m0, m1, m2, j9, hdr, byteV, b_xor, hset, hlen]
    refine hK _ _ ?_
    clear hK K
    simp only [thenQ]
    refine hK1 _ _ ?_
    clear hK1 K1
    have hlen2 : ((turnL S0 i w).map byteV).length = t.length + 16 := by rw [List.length_map, turn_len, hsl]
    refine gwp_freeze (d := 9) (o := ob) (n := t.length + 16) (cap := cap) (by simp only [upd, e9, Nat.reduceEqDiff, ↓reduceIte]) (AS.set_objs_same _ _ _) hlen2 ?_
    have hlaw := claw i (by omega)
    have hD : (turnL S0 i w).length = t.length + 16 := by rw [turn_len, hsl]
    clear hset hdr
    generalize turnL S0 i w = D at *
    refine gwp_env (fun E s => E 1 = .v (.int .i64 a) ∧ E 2 = .v (.int .u8 w.toNat) ∧ E 3 = .rop [bytesV k .any, bytesV n .any, bytesV b .any, bytesV t .any] ∧ E 7 = bytesV S0 .any ∧ E 9 = bytesV D .any ∧ E 10 = .v (.int .i64 (i : Int))) ⟨by simp only [upd, e1, Nat.reduceEqDiff, ↓reduceIte], by simp only [upd, e2, Nat.reduceEqDiff, ↓reduceIte], by simp only [upd, e3, Nat.reduceEqDiff, ↓reduceIte]; try rfl, by simp only [upd, e7, Nat.reduceEqDiff, ↓reduceIte]; rw [← hsl]; rfl, by simp only [upd, ↓reduceIte]; rw [← hD]; rfl, by simp only [upd, Nat.reduceEqDiff, ↓reduceIte]⟩ ?_
    clear e1 e2 e3 e7 e9 j9 hlen hlen2
    rintro E s6 ⟨e1, e2, e3, e7, e9, e10⟩
    have hkey : opT k n b D = openedT k n b D ∧ opE k n b D = openedE k n b D := by
      constructor
      · unfold opT; rw [if_pos hf]
      · unfold opE; rw [if_pos hf]
    have c2 := fun s => open_seal_calls (Γ := Γ) hG0 hG k n b D (by omega) (by omega) s
    have c3 := fun s => refOpen_calls (Γ := Γ) k n b D hk hn (by omega) (by omega) s
    rw [hkey.1, hkey.2] at c2
    clear hkey claw c1 h1 h2
    generalize openedT k n b D = T1 at *
    generalize openedE k n b D = E1 at *
    unfold bytesV at e3 e7 e9
    refine gwp_seq_k ?_
    intro K1 hK1
    refine awp_reg_end ?_
    intro K hK
    simp only [↓DN, UP, DF, ashift, aconv, aindexAddr, aindex, aslice, abuiltin, AV.cells, AV.one, reduceCtorEq, ↓reduceIte, nLT, nLE, nEQ, nAdd, nMul, nPow, nSub, zLT, zLE, zNat, RAes2521, e3, e9]
    refine acallk (c2 _) ?_
    rintro r s7 ⟨rfl, rfl⟩
    simp only [↓AXq_nil, ↓AXq_cons, pval, DX, Nat.reduceBEq, ↓DN, UP, DF, ashift, aconv, aindexAddr, aindex, aslice, abuiltin, AV.cells, AV.one, reduceCtorEq, ↓reduceIte, nLT, nLE, nEQ, nAdd, nMul, nPow, nSub, zLT, zLE, zNat, RAes2521]
    refine hK _ _ ?_
    clear hK K
    simp only [thenQ]
    refine hK1 _ _ ?_
    clear hK1 K1
    refine gwp_seq_k ?_
    intro K1 hK1
    refine awp_reg_end ?_
    intro K hK
    simp only [↓DN, UP, DF, ashift, aconv, aindexAddr, aindex, aslice, abuiltin, AV.cells, AV.one, reduceCtorEq, ↓reduceIte, nLT, nLE, nEQ, nAdd, nMul, nPow, nSub, zLT, zLE, zNat, RAes2521, e3, e9]
    refine acallk (c3 _) ?_
    rintro r s8 ⟨rfl, rfl⟩
    simp only [↓AXq_nil, ↓AXq_cons, pval, DX, Nat.reduceBEq, ↓DN, UP, DF, ashift, aconv, aindexAddr, aindex, aslice, abuiltin, AV.cells, AV.one, reduceCtorEq, ↓reduceIte, nLT, nLE, nEQ, nAdd, nMul, nPow, nSub, zLT, zLE, zNat, RAes2521]
    refine hK _ _ ?_
    clear hK K
    simp only [thenQ]
    refine hK1 _ _ ?_
    clear hK1 K1
    refine gwp_seq_k ?_
    intro K1 hK1
    have hgo : ∀ (E3 : Env), E3 1 = .v (.int .i64 a) → E3 2 = .v (.int .u8 w.toNat) → E3 3 = .rop [bytesV k .any, bytesV n .any, bytesV b .any, bytesV t .any] → E3 7 = bytesV S0 .any → K1 E3 s8 := by
      intro E3 f1 f2 f3 f7
      refine hK1 _ _ ?_
      clear hK1 K1 e1 e2 e3 e7 e9 e10 E hlaw c2 c3 hD hcap hob m0 m1 m2 hi
      unfold bytesV at f3 f7
      refine gwp_seq_k ?_
      intro K1 hK1
      refine awp_region_clone5 (x := .tmp 136) (y := .tmp 138) (T := 22) (xT := 22) (e := 5) (z := [.v (.int .u8 0)]) (d := 139) rfl rfl rfl (by decide) Tryd.underlying22 (by simp only [↓DN, UP, DF, ashift, aconv, aindexAddr, aindex, aslice, abuiltin, AV.cells, AV.one, reduceCtorEq, ↓reduceIte, nLT, nLE, nEQ, nAdd, nMul, nPow, nSub, zLT, zLE, zNat, RAes2521]; try rfl) (by simp only [↓DN, UP, DF, ashift, aconv, aindexAddr, aindex, aslice, abuiltin, AV.cells, AV.one, reduceCtorEq, ↓reduceIte, nLT, nLE, nEQ, nAdd, nMul, nPow, nSub, zLT, zLE, zNat, RAes2521]; try rfl) (by rw [T.c5]; decide) (by rw [T.c5]; rfl) ?_
      simp only [↓DN, UP, DF, ashift, aconv, aindexAddr, aindex, aslice, abuiltin, AV.cells, AV.one, reduceCtorEq, ↓reduceIte, nLT, nLE, nEQ, nAdd, nMul, nPow, nSub, zLT, zLE, zNat, RAes2521, asrc, f3]
      refine ⟨_, _, rfl, by omega, by omega, by omega, ?_⟩
      intro ob cap hob hcap
      refine hK1 _ _ ?_
      clear hK1 K1
      have j9 : (s8.set ob (n.map byteV)).objs ob = some (n.map byteV) := AS.set_objs_same _ _ _
      refine gwp_env (fun E s => E 1 = .v (.int .i64 a) ∧ E 2 = .v (.int .u8 w.toNat) ∧ E 3 = .rop [bytesV k .any, bytesV n .any, bytesV b .any, bytesV t .any] ∧ E 7 = bytesV S0 .any ∧ E 15 = .osl ob 0 1 16 cap ∧ s.objs ob = some (n.map byteV)) ⟨by simp only [upd, f1, Nat.reduceEqDiff, ↓reduceIte]; try rfl, by simp only [upd, f2, Nat.reduceEqDiff, ↓reduceIte]; try rfl, by simp only [upd, f3, Nat.reduceEqDiff, ↓reduceIte]; try rfl, by simp only [upd, f7, Nat.reduceEqDiff, ↓reduceIte]; try rfl, by simp only [upd, Nat.reduceEqDiff, ↓reduceIte, hn], j9⟩ ?_
      clear j9 f1 f2 f3 f7 hob E3
      rintro E s9 ⟨e1, e2, e3, e7, e9, j9⟩
      unfold bytesV at e3 e7
      refine gwp_seq_k ?_
      intro K1 hK1
      refine awp_reg_end ?_
      intro K hK
      simp only [↓DN, UP, DF, ashift, aconv, aindexAddr, aindex, aslice, abuiltin, AV.cells, AV.one, reduceCtorEq, ↓reduceIte, nLT, nLE, nEQ, nAdd, nMul, nPow, nSub, zLT, zLE, zNat, RAes2521, e1]
      refine acallk (rest_calls a 16 (by omega) (by omega) _) ?_
      rintro r s10 ⟨i, rfl, hi, rfl⟩
      simp only [↓AXq_nil, ↓AXq_cons, pval, DX, Nat.reduceBEq, ↓DN, UP, DF, ashift, aconv, aindexAddr, aindex, aslice, abuiltin, AV.cells, AV.one, reduceCtorEq, ↓reduceIte, nLT, nLE, nEQ, nAdd, nMul, nPow, nSub, zLT, zLE, zNat, RAes2521]
      refine hK _ _ ?_
      clear hK K
      simp only [thenQ]
      refine hK1 _ _ ?_
      clear hK1 K1
      refine gwp_seq_k ?_
      intro K1 hK1
      have m0 : (0 : Int) ≤ (i : Int) := by omega
      have m1 : (i : Int) < ((16 : Nat) : Int) := by omega
      have m2 : i + 1 ≤ 16 := by omega
      have hdr := bytes_drop (l := n) i (by omega)
      have hset := turn_set n i w
      have hlen : (n.map byteV).length = 16 := by rw [List.length_map, hn]
      refine awp_reg_end ?_
      intro K hK
      simp only [↓DN, UP, DF, ashift, aconv, aindexAddr, aindex, aslice, abuiltin, AV.cells, AV.one, reduceCtorEq, ↓reduceIte, nLT, nLE, nEQ, nAdd, nMul, nPow, nSub, zLT, zLE, zNat, RAes2521, e2, e9, m0, m1, m2, j9, hdr, byteV, b_xor, hset, hlen]
      refine hK _ _ ?_
      clear hK K
      simp only [thenQ]
      refine hK1 _ _ ?_
      clear hK1 K1
      have hlen2 : ((turnL n i w).map byteV).length = 16 := by rw [List.length_map, turn_len, hn]
      refine gwp_freeze (d := 15) (o := ob) (n := 16) (cap := cap) (by simp only [upd, e9, Nat.reduceEqDiff, ↓reduceIte]) (AS.set_objs_same _ _ _) hlen2 ?_
      have hD : (turnL n i w).length = 16 := by rw [turn_len, hn]
      clear hset hdr
      generalize turnL n i w = D at *
      refine gwp_env (fun E s => E 3 = .rop [bytesV k .any, bytesV n .any, bytesV b .any, bytesV t .any] ∧ E 7 = bytesV S0 .any ∧ E 15 = bytesV D .any) ⟨by simp only [upd, e3, Nat.reduceEqDiff, ↓reduceIte]; try rfl, by simp only [upd, e7, Nat.reduceEqDiff, ↓reduceIte]; try rfl, by simp only [upd, ↓reduceIte]; rw [← hD]; rfl⟩ ?_
      clear e1 e2 e3 e7 e9 j9 hlen hlen2 E
      rintro E s6 ⟨e3, e7, e9⟩
      have hf2 : k.length = 48 ∧ D.length = 16 := ⟨hk, hD⟩
      have hkey : opT k D b S0 = openedT k D b S0 ∧ opE k D b S0 = openedE k D b S0 := by
        constructor
        · unfold opT; rw [if_pos hf2]
        · unfold opE; rw [if_pos hf2]
      have c2 := fun s => open_seal_calls (Γ := Γ) hG0 hG k D b S0 (by omega) (by omega) s
      have c3 := fun s => refOpen_calls (Γ := Γ) k D b S0 hk hD (by omega) (by omega) s
      rw [hkey.1, hkey.2] at c2
      clear hkey
      generalize openedT k D b S0 = T2 at *
      generalize openedE k D b S0 = E2 at *
      unfold bytesV at e3 e7 e9
      refine gwp_seq_k ?_
      intro K1 hK1
      refine awp_reg_end ?_
      intro K hK
      simp only [↓DN, UP, DF, ashift, aconv, aindexAddr, aindex, aslice, abuiltin, AV.cells, AV.one, reduceCtorEq, ↓reduceIte, nLT, nLE, nEQ, nAdd, nMul, nPow, nSub, zLT, zLE, zNat, RAes2521, e3, e7, e9]
      refine acallk (c2 _) ?_
      rintro r s7 ⟨rfl, rfl⟩
      simp only [↓AXq_nil, ↓AXq_cons, pval, DX, Nat.reduceBEq, ↓DN, UP, DF, ashift, aconv, aindexAddr, aindex, aslice, abuiltin, AV.cells, AV.one, reduceCtorEq, ↓reduceIte, nLT, nLE, nEQ, nAdd, nMul, nPow, nSub, zLT, zLE, zNat, RAes2521]
      refine hK _ _ ?_
      clear hK K
      simp only [thenQ]
      refine hK1 _ _ ?_
      clear hK1 K1
      refine AWp.g ?_
      refine awp_reg_seq ?_
      intro K hK
      simp only [↓DN, UP, DF, ashift, aconv, aindexAddr, aindex, aslice, abuiltin, AV.cells, AV.one, reduceCtorEq, ↓reduceIte, nLT, nLE, nEQ, nAdd, nMul, nPow, nSub, zLT, zLE, zNat, RAes2521, e3, e7, e9]
      refine acallk (c3 _) ?_
      rintro r s8 ⟨rfl, rfl⟩
      simp only [↓AXq_nil, ↓AXq_cons, pval, DX, Nat.reduceBEq, ↓DN, UP, DF, ashift, aconv, aindexAddr, aindex, aslice, abuiltin, AV.cells, AV.one, reduceCtorEq, ↓reduceIte, nLT, nLE, nEQ, nAdd, nMul, nPow, nSub, zLT, zLE, zNat, RAes2521]
      refine hK _ _ ?_
      clear hK K
      refine awp_reg_seq ?_
      intro K hK
      simp only [↓DN, UP, DF, ashift, aconv, aindexAddr, aindex, aslice, abuiltin, AV.cells, AV.one, reduceCtorEq, ↓reduceIte, nLT, nLE, nEQ, nAdd, nMul, nPow, nSub, zLT, zLE, zNat, RAes2521, show (((E2 : Nat) : Int) == ((E2 : Nat) : Int)) = true from by simp]
      refine hK _ _ ?_
      clear hK K
      refine awp_ret ?_
      simp only [retQ, AEnds, aresL, ares, List.toList_toArray, ↓upd_same]; try simp only [↓DN, UP, DF, ashift, aconv, aindexAddr, aindex, aslice, abuiltin, AV.cells, AV.one, reduceCtorEq, ↓reduceIte, nLT, nLE, nEQ, nAdd, nMul, nPow, nSub, zLT, zLE, zNat, RAes2521, DT]
      exact ⟨_, _, AV.weak.refl _, AS.le.refl _, rfl⟩
    clear hK1
    rcases hlaw with rfl | ⟨rfl, hT, hi2⟩
    · by_cases hi2 : t.length ≤ i
      · refine awp_reg_seq ?_
        intro K hK
        simp only [↓DN, UP, DF, ashift, aconv, aindexAddr, aindex, aslice, abuiltin, AV.cells, AV.one, reduceCtorEq, ↓reduceIte, nLT, nLE, nEQ, nAdd, nMul, nPow, nSub, zLT, zLE, zNat, RAes2521, e3, e10, bne_self_eq_false, show (((14 : Nat) : Int) == 0) = false from rfl, show (((14 : Nat) : Int) != 14) = false from rfl, decide_eq_true (show (t.length : Int) ≤ (i : Int) by omega)]
        refine hK _ _ ?_
        clear hK K
        refine awp_cond_k ?_
        intro X Y hX hY
        simp only [↓DN, UP, DF, ashift, aconv, aindexAddr, aindex, aslice, abuiltin, AV.cells, AV.one, reduceCtorEq, ↓reduceIte, nLT, nLE, nEQ, nAdd, nMul, nPow, nSub, zLT, zLE, zNat, RAes2521, DB]
        refine hY ?_
        clear hX hY X Y
        refine awp_skip ?_
        try simp only [thenQ, blockQ]
        exact hgo _ (by simp only [upd, e1, Nat.reduceEqDiff, ↓reduceIte]; try rfl) (by simp only [upd, e2, Nat.reduceEqDiff, ↓reduceIte]; try rfl) (by simp only [upd, e3, Nat.reduceEqDiff, ↓reduceIte]; try rfl) (by simp only [upd, e7, Nat.reduceEqDiff, ↓reduceIte]; try rfl)
      · refine awp_reg_seq ?_
        intro K hK
        simp only [↓DN, UP, DF, ashift, aconv, aindexAddr, aindex, aslice, abuiltin, AV.cells, AV.one, reduceCtorEq, ↓reduceIte, nLT, nLE, nEQ, nAdd, nMul, nPow, nSub, zLT, zLE, zNat, RAes2521, e3, e10, bne_self_eq_false, show (((14 : Nat) : Int) == 0) = false from rfl, show (((14 : Nat) : Int) != 14) = false from rfl, decide_eq_false (show ¬ (t.length : Int) ≤ (i : Int) by omega)]
        refine hK _ _ ?_
        clear hK K
        refine awp_cond_k ?_
        intro X Y hX hY
        simp only [↓DN, UP, DF, ashift, aconv, aindexAddr, aindex, aslice, abuiltin, AV.cells, AV.one, reduceCtorEq, ↓reduceIte, nLT, nLE, nEQ, nAdd, nMul, nPow, nSub, zLT, zLE, zNat, RAes2521, DB]
        refine hY ?_
        clear hX hY X Y
        refine awp_skip ?_
        try simp only [thenQ, blockQ]
        exact hgo _ (by simp only [upd, e1, Nat.reduceEqDiff, ↓reduceIte]; try rfl) (by simp only [upd, e2, Nat.reduceEqDiff, ↓reduceIte]; try rfl) (by simp only [upd, e3, Nat.reduceEqDiff, ↓reduceIte]; try rfl) (by simp only [upd, e7, Nat.reduceEqDiff, ↓reduceIte]; try rfl)
    · have hT2 := neq_list _ _ hT
      refine awp_reg_seq ?_
      intro K hK
      simp only [↓DN, UP, DF, ashift, aconv, aindexAddr, aindex, aslice, abuiltin, AV.cells, AV.one, reduceCtorEq, ↓reduceIte, nLT, nLE, nEQ, nAdd, nMul, nPow, nSub, zLT, zLE, zNat, RAes2521, e3, e10, bne_self_eq_false, show (((0 : Nat) : Int) == 0) = true from rfl, hT2, decide_eq_false (show ¬ (t.length : Int) ≤ (i : Int) by omega)]
      refine hK _ _ ?_
      clear hK K
      refine awp_cond_k ?_
      intro X Y hX hY
      simp only [↓DN, UP, DF, ashift, aconv, aindexAddr, aindex, aslice, abuiltin, AV.cells, AV.one, reduceCtorEq, ↓reduceIte, nLT, nLE, nEQ, nAdd, nMul, nPow, nSub, zLT, zLE, zNat, RAes2521, DB]
      refine hY ?_
      clear hX hY X Y
      refine awp_skip ?_
      try simp only [thenQ, blockQ]
      exact hgo _ (by simp only [upd, e1, Nat.reduceEqDiff, ↓reduceIte]; try rfl) (by simp only [upd, e2, Nat.reduceEqDiff, ↓reduceIte]; try rfl) (by simp only [upd, e3, Nat.reduceEqDiff, ↓reduceIte]; try rfl) (by simp only [upd, e7, Nat.reduceEqDiff, ↓reduceIte]; try rfl)
  · have hgo : v = false ∨ (v = true ∧ k.length ≠ 48) ∨ (v = true ∧ k.length = 48 ∧ n.length ≠ 16) ∨ (v = true ∧ k.length = 48 ∧ n.length = 16 ∧ w = 0) := by
      cases v with
      | false => exact Or.inl rfl
      | true =>
        by_cases h : k.length = 48
        · by_cases h' : n.length = 16
          · by_cases h'' : w = 0
            · exact Or.inr (Or.inr (Or.inr ⟨rfl, h, h', h''⟩))
            · exact absurd ⟨rfl, h, h', h''⟩ hall
          · exact Or.inr (Or.inr (Or.inl ⟨rfl, h, h'⟩))
        · exact Or.inr (Or.inl ⟨rfl, h⟩)
    clear hall hv
    rcases hgo with rfl | ⟨rfl, hk⟩ | ⟨rfl, hk, hn⟩ | ⟨rfl, hk, hn, rfl⟩
    · simp only [↓AXq_nil, ↓AXq_cons, pval, DX, Nat.reduceBEq, ↓DN, UP, DF, ashift, aconv, aindexAddr, aindex, aslice, abuiltin, AV.cells, AV.one, reduceCtorEq, ↓reduceIte, nLT, nLE, nEQ, nAdd, nMul, nPow, nSub, zLT, zLE, zNat, RAes2521]
      refine hK _ _ ?_
      clear hK K
      refine awp_cond_k ?_
      intro X Y hX hY
      simp only [↓DN, UP, DF, ashift, aconv, aindexAddr, aindex, aslice, abuiltin, AV.cells, AV.one, reduceCtorEq, ↓reduceIte, nLT, nLE, nEQ, nAdd, nMul, nPow, nSub, zLT, zLE, zNat, RAes2521, DB]
      refine hX ?_
      clear hX hY X Y
      refine awp_reg_seq ?_
      intro K hK
      simp only [↓DN, UP, DF, ashift, aconv, aindexAddr, aindex, aslice, abuiltin, AV.cells, AV.one, reduceCtorEq, ↓reduceIte, nLT, nLE, nEQ, nAdd, nMul, nPow, nSub, zLT, zLE, zNat, RAes2521]
      refine acallk (awake06_calls hG0 hG hΓ) ?_
      rintro r s3 ⟨rfl, rfl⟩
      simp only [↓AXq_nil, ↓AXq_cons, pval, DX, Nat.reduceBEq, ↓DN, UP, DF, ashift, aconv, aindexAddr, aindex, aslice, abuiltin, AV.cells, AV.one, reduceCtorEq, ↓reduceIte, nLT, nLE, nEQ, nAdd, nMul, nPow, nSub, zLT, zLE, zNat, RAes2521]
      refine hK _ _ ?_
      clear hK K
      refine awp_ret ?_
      try simp only [thenQ, blockQ]
      simp only [retQ, AEnds, aresL, ares, List.toList_toArray, ↓upd_same]; try simp only [↓DN, UP, DF, ashift, aconv, aindexAddr, aindex, aslice, abuiltin, AV.cells, AV.one, reduceCtorEq, ↓reduceIte, nLT, nLE, nEQ, nAdd, nMul, nPow, nSub, zLT, zLE, zNat, RAes2521, DT]
      exact ⟨_, _, AV.weak.refl _, AS.le.refl _, rfl⟩
    · simp only [↓AXq_nil, ↓AXq_cons, pval, DX, Nat.reduceBEq, ↓DN, UP, DF, ashift, aconv, aindexAddr, aindex, aslice, abuiltin, AV.cells, AV.one, reduceCtorEq, ↓reduceIte, nLT, nLE, nEQ, nAdd, nMul, nPow, nSub, zLT, zLE, zNat, RAes2521, len48T hk]
      refine hK _ _ ?_
      clear hK K
      refine awp_cond_k ?_
      intro X Y hX hY
      simp only [↓DN, UP, DF, ashift, aconv, aindexAddr, aindex, aslice, abuiltin, AV.cells, AV.one, reduceCtorEq, ↓reduceIte, nLT, nLE, nEQ, nAdd, nMul, nPow, nSub, zLT, zLE, zNat, RAes2521, DB]
      refine hX ?_
      clear hX hY X Y
      refine awp_reg_seq ?_
      intro K hK
      simp only [↓DN, UP, DF, ashift, aconv, aindexAddr, aindex, aslice, abuiltin, AV.cells, AV.one, reduceCtorEq, ↓reduceIte, nLT, nLE, nEQ, nAdd, nMul, nPow, nSub, zLT, zLE, zNat, RAes2521]
      refine acallk (awake06_calls hG0 hG hΓ) ?_
      rintro r s3 ⟨rfl, rfl⟩
      simp only [↓AXq_nil, ↓AXq_cons, pval, DX, Nat.reduceBEq, ↓DN, UP, DF, ashift, aconv, aindexAddr, aindex, aslice, abuiltin, AV.cells, AV.one, reduceCtorEq, ↓reduceIte, nLT, nLE, nEQ, nAdd, nMul, nPow, nSub, zLT, zLE, zNat, RAes2521]
      refine hK _ _ ?_
      clear hK K
      refine awp_ret ?_
      try simp only [thenQ, blockQ]
      simp only [retQ, AEnds, aresL, ares, List.toList_toArray, ↓upd_same]; try simp only [↓DN, UP, DF, ashift, aconv, aindexAddr, aindex, aslice, abuiltin, AV.cells, AV.one, reduceCtorEq, ↓reduceIte, nLT, nLE, nEQ, nAdd, nMul, nPow, nSub, zLT, zLE, zNat, RAes2521, DT]
      exact ⟨_, _, AV.weak.refl _, AS.le.refl _, rfl⟩
    · simp only [↓AXq_nil, ↓AXq_cons, pval, DX, Nat.reduceBEq, ↓DN, UP, DF, ashift, aconv, aindexAddr, aindex, aslice, abuiltin, AV.cells, AV.one, reduceCtorEq, ↓reduceIte, nLT, nLE, nEQ, nAdd, nMul, nPow, nSub, zLT, zLE, zNat, RAes2521, len48 hk, len16T hn]
      refine hK _ _ ?_
      clear hK K
      refine awp_cond_k ?_
      intro X Y hX hY
      simp only [↓DN, UP, DF, ashift, aconv, aindexAddr, aindex, aslice, abuiltin, AV.cells, AV.one, reduceCtorEq, ↓reduceIte, nLT, nLE, nEQ, nAdd, nMul, nPow, nSub, zLT, zLE, zNat, RAes2521, DB]
      refine hX ?_
      clear hX hY X Y
      refine awp_reg_seq ?_
      intro K hK
      simp only [↓DN, UP, DF, ashift, aconv, aindexAddr, aindex, aslice, abuiltin, AV.cells, AV.one, reduceCtorEq, ↓reduceIte, nLT, nLE, nEQ, nAdd, nMul, nPow, nSub, zLT, zLE, zNat, RAes2521]
      refine acallk (awake06_calls hG0 hG hΓ) ?_
      rintro r s3 ⟨rfl, rfl⟩
      simp only [↓AXq_nil, ↓AXq_cons, pval, DX, Nat.reduceBEq, ↓DN, UP, DF, ashift, aconv, aindexAddr, aindex, aslice, abuiltin, AV.cells, AV.one, reduceCtorEq, ↓reduceIte, nLT, nLE, nEQ, nAdd, nMul, nPow, nSub, zLT, zLE, zNat, RAes2521]
      refine hK _ _ ?_
      clear hK K
      refine awp_ret ?_
      try simp only [thenQ, blockQ]
      simp only [retQ, AEnds, aresL, ares, List.toList_toArray, ↓upd_same]; try simp only [↓DN, UP, DF, ashift, aconv, aindexAddr, aindex, aslice, abuiltin, AV.cells, AV.one, reduceCtorEq, ↓reduceIte, nLT, nLE, nEQ, nAdd, nMul, nPow, nSub, zLT, zLE, zNat, RAes2521, DT]
      exact ⟨_, _, AV.weak.refl _, AS.le.refl _, rfl⟩
    · simp only [↓AXq_nil, ↓AXq_cons, pval, DX, Nat.reduceBEq, ↓DN, UP, DF, ashift, aconv, aindexAddr, aindex, aslice, abuiltin, AV.cells, AV.one, reduceCtorEq, ↓reduceIte, nLT, nLE, nEQ, nAdd, nMul, nPow, nSub, zLT, zLE, zNat, RAes2521, len48 hk, len16 hn, w_noughtT]
      refine hK _ _ ?_
      clear hK K
      refine awp_cond_k ?_
      intro X Y hX hY
      simp only [↓DN, UP, DF, ashift, aconv, aindexAddr, aindex, aslice, abuiltin, AV.cells, AV.one, reduceCtorEq, ↓reduceIte, nLT, nLE, nEQ, nAdd, nMul, nPow, nSub, zLT, zLE, zNat, RAes2521, DB]
      refine hX ?_
      clear hX hY X Y
      refine awp_reg_seq ?_
      intro K hK
      simp only [↓DN, UP, DF, ashift, aconv, aindexAddr, aindex, aslice, abuiltin, AV.cells, AV.one, reduceCtorEq, ↓reduceIte, nLT, nLE, nEQ, nAdd, nMul, nPow, nSub, zLT, zLE, zNat, RAes2521]
      refine acallk (awake06_calls hG0 hG hΓ) ?_
      rintro r s3 ⟨rfl, rfl⟩
      simp only [↓AXq_nil, ↓AXq_cons, pval, DX, Nat.reduceBEq, ↓DN, UP, DF, ashift, aconv, aindexAddr, aindex, aslice, abuiltin, AV.cells, AV.one, reduceCtorEq, ↓reduceIte, nLT, nLE, nEQ, nAdd, nMul, nPow, nSub, zLT, zLE, zNat, RAes2521]
      refine hK _ _ ?_
      clear hK K
      refine awp_ret ?_
      try simp only [thenQ, blockQ]
      simp only [retQ, AEnds, aresL, ares, List.toList_toArray, ↓upd_same]; try simp only [↓DN, UP, DF, ashift, aconv, aindexAddr, aindex, aslice, abuiltin, AV.cells, AV.one, reduceCtorEq, ↓reduceIte, nLT, nLE, nEQ, nAdd, nMul, nPow, nSub, zLT, zLE, zNat, RAes2521, DT]
      exact ⟨_, _, AV.weak.refl _, AS.le.refl _, rfl⟩

end Go.Proofs.YtpakgjmcaefnmaaDoor


