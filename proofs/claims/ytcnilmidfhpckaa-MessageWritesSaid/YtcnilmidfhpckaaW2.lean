/- Contracts of the program's functions, each walked once; the conditions stand in each theorem. -/
import Derived.Test.YtcnilmidfhpckaaAMp6
import Derived.Test.YtcnilmidfhpckaaW1
import Derived.Test.YtcnilmidfhpckaaAMp4
import Derived.Test.YtcnilmidfhpckaaAMp3
import Derived.Test.YtcnilmidfhpckaaAMp5
set_option linter.unusedSimpArgs false
set_option linter.unusedVariables false
open Nat renaming reduceLT → nLT, reduceLeDiff → nLE, reduceEqDiff → nEQ, reduceAdd → nAdd, reduceMul → nMul, reducePow → nPow, reduceSub → nSub
open Int renaming reduceLT → zLT, reduceLE → zLE, reduceToNat → zNat
open Go.AM renaming ashift → qSh, aconv → qCv, aindexAddr → qIA, aindex → qIx, aslice → qSl, abuiltin → qBu
open Go.AM.AV renaming cells → qCe, one → qOn
set_option autoImplicit false
namespace Go.Proofs.Ytcnilmidfhpckaa
open Go Go.AM Go.Proofs

theorem REye3113 : type_of% (And.intro (And.intro (And.intro (And.intro (And.intro (And.intro @Try.underlying3 T.c3) (And.intro T.g3 T.b3)) (And.intro (And.intro T.z3 @Try.underlying5) (And.intro T.c5 T.g5))) (And.intro (And.intro (And.intro T.b5 T.z5) (And.intro @Try.underlying28 T.c28)) (And.intro (And.intro T.g28 T.b28) (And.intro T.z28 (And.intro T.s28 @Try.underlying32))))) (And.intro (And.intro (And.intro (And.intro T.c32 T.g32) (And.intro T.b32 T.z32)) (And.intro (And.intro @Try.underlying98 T.c98) (And.intro T.g98 (And.intro T.b98 T.z98)))) (And.intro (And.intro (And.intro T.p98 @Try.underlying145) (And.intro T.c145 T.g145)) (And.intro (And.intro T.b145 T.z145) (And.intro T.h145 (And.intro T.k112 T.k95)))))) Try.ntmps113) :=
  (And.intro (And.intro (And.intro (And.intro (And.intro (And.intro @Try.underlying3 T.c3) (And.intro T.g3 T.b3)) (And.intro (And.intro T.z3 @Try.underlying5) (And.intro T.c5 T.g5))) (And.intro (And.intro (And.intro T.b5 T.z5) (And.intro @Try.underlying28 T.c28)) (And.intro (And.intro T.g28 T.b28) (And.intro T.z28 (And.intro T.s28 @Try.underlying32))))) (And.intro (And.intro (And.intro (And.intro T.c32 T.g32) (And.intro T.b32 T.z32)) (And.intro (And.intro @Try.underlying98 T.c98) (And.intro T.g98 (And.intro T.b98 T.z98)))) (And.intro (And.intro (And.intro T.p98 @Try.underlying145) (And.intro T.c145 T.g145)) (And.intro (And.intro T.b145 T.z145) (And.intro T.h145 (And.intro T.k112 T.k95)))))) Try.ntmps113)
theorem REye356 : type_of% (And.intro (And.intro (And.intro (And.intro (And.intro (And.intro @Try.underlying3 T.c3) (And.intro T.g3 T.b3)) (And.intro (And.intro T.z3 @Try.underlying28) (And.intro T.c28 T.g28))) (And.intro (And.intro (And.intro T.b28 T.z28) (And.intro T.s28 @Try.underlying32)) (And.intro (And.intro T.c32 T.g32) (And.intro T.b32 (And.intro T.z32 @Try.underlying42))))) (And.intro (And.intro (And.intro (And.intro T.c42 T.g42) (And.intro T.b42 T.z42)) (And.intro (And.intro @Try.underlying98 T.c98) (And.intro T.g98 T.b98))) (And.intro (And.intro (And.intro T.z98 T.p98) (And.intro @Try.underlying145 T.c145)) (And.intro (And.intro T.g145 T.b145) (And.intro T.z145 (And.intro T.h145 T.k101)))))) Try.ntmps56) :=
  (And.intro (And.intro (And.intro (And.intro (And.intro (And.intro @Try.underlying3 T.c3) (And.intro T.g3 T.b3)) (And.intro (And.intro T.z3 @Try.underlying28) (And.intro T.c28 T.g28))) (And.intro (And.intro (And.intro T.b28 T.z28) (And.intro T.s28 @Try.underlying32)) (And.intro (And.intro T.c32 T.g32) (And.intro T.b32 (And.intro T.z32 @Try.underlying42))))) (And.intro (And.intro (And.intro (And.intro T.c42 T.g42) (And.intro T.b42 T.z42)) (And.intro (And.intro @Try.underlying98 T.c98) (And.intro T.g98 T.b98))) (And.intro (And.intro (And.intro T.z98 T.p98) (And.intro @Try.underlying145 T.c145)) (And.intro (And.intro T.g145 T.b145) (And.intro T.z145 (And.intro T.h145 T.k101)))))) Try.ntmps56)
theorem REye359 : type_of% (And.intro (And.intro (And.intro (And.intro (And.intro @Try.underlying3 (And.intro T.c3 T.g3)) (And.intro (And.intro T.b3 T.z3) (And.intro @Try.underlying28 T.c28))) (And.intro (And.intro T.g28 (And.intro T.b28 T.z28)) (And.intro (And.intro T.s28 @Try.underlying32) (And.intro T.c32 T.g32)))) (And.intro (And.intro (And.intro T.b32 (And.intro T.z32 @Try.underlying98)) (And.intro (And.intro T.c98 T.g98) (And.intro T.b98 T.z98))) (And.intro (And.intro (And.intro T.p98 @Try.underlying145) (And.intro T.c145 T.g145)) (And.intro (And.intro T.b145 T.z145) (And.intro T.h145 T.k101))))) Try.ntmps59) :=
  (And.intro (And.intro (And.intro (And.intro (And.intro @Try.underlying3 (And.intro T.c3 T.g3)) (And.intro (And.intro T.b3 T.z3) (And.intro @Try.underlying28 T.c28))) (And.intro (And.intro T.g28 (And.intro T.b28 T.z28)) (And.intro (And.intro T.s28 @Try.underlying32) (And.intro T.c32 T.g32)))) (And.intro (And.intro (And.intro T.b32 (And.intro T.z32 @Try.underlying98)) (And.intro (And.intro T.c98 T.g98) (And.intro T.b98 T.z98))) (And.intro (And.intro (And.intro T.p98 @Try.underlying145) (And.intro T.c145 T.g145)) (And.intro (And.intro T.b145 T.z145) (And.intro T.h145 T.k101))))) Try.ntmps59)
theorem REye3102 : type_of% (And.intro (And.intro (And.intro (And.intro (And.intro (And.intro @Try.underlying3 T.c3) (And.intro T.g3 (And.intro T.b3 T.z3))) (And.intro (And.intro @Try.underlying5 T.c5) (And.intro T.g5 (And.intro T.b5 T.z5)))) (And.intro (And.intro (And.intro @Try.underlying28 T.c28) (And.intro T.g28 (And.intro T.b28 T.z28))) (And.intro (And.intro T.s28 (And.intro @Try.underlying32 T.c32)) (And.intro T.g32 (And.intro T.b32 T.z32))))) (And.intro (And.intro (And.intro (And.intro @Try.underlying42 T.c42) (And.intro T.g42 (And.intro T.b42 T.z42))) (And.intro (And.intro @Try.underlying98 T.c98) (And.intro T.g98 (And.intro T.b98 T.z98)))) (And.intro (And.intro (And.intro T.p98 @Try.underlying145) (And.intro T.c145 (And.intro T.g145 T.b145))) (And.intro (And.intro T.z145 (And.intro T.h145 T.f145_0)) (And.intro T.f145_1 (And.intro T.k101 T.k113)))))) Try.ntmps102) :=
  (And.intro (And.intro (And.intro (And.intro (And.intro (And.intro @Try.underlying3 T.c3) (And.intro T.g3 (And.intro T.b3 T.z3))) (And.intro (And.intro @Try.underlying5 T.c5) (And.intro T.g5 (And.intro T.b5 T.z5)))) (And.intro (And.intro (And.intro @Try.underlying28 T.c28) (And.intro T.g28 (And.intro T.b28 T.z28))) (And.intro (And.intro T.s28 (And.intro @Try.underlying32 T.c32)) (And.intro T.g32 (And.intro T.b32 T.z32))))) (And.intro (And.intro (And.intro (And.intro @Try.underlying42 T.c42) (And.intro T.g42 (And.intro T.b42 T.z42))) (And.intro (And.intro @Try.underlying98 T.c98) (And.intro T.g98 (And.intro T.b98 T.z98)))) (And.intro (And.intro (And.intro T.p98 @Try.underlying145) (And.intro T.c145 (And.intro T.g145 T.b145))) (And.intro (And.intro T.z145 (And.intro T.h145 T.f145_0)) (And.intro T.f145_1 (And.intro T.k101 T.k113)))))) Try.ntmps102)
theorem REye358 : type_of% (And.intro (And.intro (And.intro (And.intro (And.intro @Try.underlying3 (And.intro T.c3 T.g3)) (And.intro (And.intro T.b3 T.z3) (And.intro @Try.underlying28 T.c28))) (And.intro (And.intro T.g28 (And.intro T.b28 T.z28)) (And.intro (And.intro T.s28 @Try.underlying32) (And.intro T.c32 T.g32)))) (And.intro (And.intro (And.intro T.b32 (And.intro T.z32 @Try.underlying98)) (And.intro (And.intro T.c98 T.g98) (And.intro T.b98 T.z98))) (And.intro (And.intro (And.intro T.p98 @Try.underlying145) (And.intro T.c145 T.g145)) (And.intro (And.intro T.b145 T.z145) (And.intro T.h145 T.k102))))) Try.ntmps58) :=
  (And.intro (And.intro (And.intro (And.intro (And.intro @Try.underlying3 (And.intro T.c3 T.g3)) (And.intro (And.intro T.b3 T.z3) (And.intro @Try.underlying28 T.c28))) (And.intro (And.intro T.g28 (And.intro T.b28 T.z28)) (And.intro (And.intro T.s28 @Try.underlying32) (And.intro T.c32 T.g32)))) (And.intro (And.intro (And.intro T.b32 (And.intro T.z32 @Try.underlying98)) (And.intro (And.intro T.c98 T.g98) (And.intro T.b98 T.z98))) (And.intro (And.intro (And.intro T.p98 @Try.underlying145) (And.intro T.c145 T.g145)) (And.intro (And.intro T.b145 T.z145) (And.intro T.h145 T.k102))))) Try.ntmps58)
theorem REye3110 : type_of% (And.intro (And.intro (And.intro (And.intro (And.intro @Try.underlying3 (And.intro T.c3 T.g3)) (And.intro (And.intro T.b3 T.z3) (And.intro @Try.underlying28 T.c28))) (And.intro (And.intro T.g28 (And.intro T.b28 T.z28)) (And.intro (And.intro T.s28 @Try.underlying32) (And.intro T.c32 T.g32)))) (And.intro (And.intro (And.intro T.b32 (And.intro T.z32 @Try.underlying98)) (And.intro (And.intro T.c98 T.g98) (And.intro T.b98 T.z98))) (And.intro (And.intro (And.intro T.p98 @Try.underlying145) (And.intro T.c145 T.g145)) (And.intro (And.intro T.b145 T.z145) (And.intro T.h145 T.k102))))) Try.ntmps110) :=
  (And.intro (And.intro (And.intro (And.intro (And.intro @Try.underlying3 (And.intro T.c3 T.g3)) (And.intro (And.intro T.b3 T.z3) (And.intro @Try.underlying28 T.c28))) (And.intro (And.intro T.g28 (And.intro T.b28 T.z28)) (And.intro (And.intro T.s28 @Try.underlying32) (And.intro T.c32 T.g32)))) (And.intro (And.intro (And.intro T.b32 (And.intro T.z32 @Try.underlying98)) (And.intro (And.intro T.c98 T.g98) (And.intro T.b98 T.z98))) (And.intro (And.intro (And.intro T.p98 @Try.underlying145) (And.intro T.c145 T.g145)) (And.intro (And.intro T.b145 T.z145) (And.intro T.h145 T.k102))))) Try.ntmps110)
theorem REye362 : type_of% (And.intro (And.intro (And.intro (And.intro (And.intro @Try.underlying5 T.c5) (And.intro T.g5 (And.intro T.b5 T.z5))) (And.intro (And.intro @Try.underlying28 (And.intro T.c28 T.g28)) (And.intro T.b28 (And.intro T.z28 T.s28)))) (And.intro (And.intro (And.intro @Try.underlying32 (And.intro T.c32 T.g32)) (And.intro T.b32 (And.intro T.z32 @Try.underlying145))) (And.intro (And.intro T.c145 (And.intro T.g145 T.b145)) (And.intro T.z145 (And.intro T.h145 T.f145_1))))) Try.ntmps62) :=
  (And.intro (And.intro (And.intro (And.intro (And.intro @Try.underlying5 T.c5) (And.intro T.g5 (And.intro T.b5 T.z5))) (And.intro (And.intro @Try.underlying28 (And.intro T.c28 T.g28)) (And.intro T.b28 (And.intro T.z28 T.s28)))) (And.intro (And.intro (And.intro @Try.underlying32 (And.intro T.c32 T.g32)) (And.intro T.b32 (And.intro T.z32 @Try.underlying145))) (And.intro (And.intro T.c145 (And.intro T.g145 T.b145)) (And.intro T.z145 (And.intro T.h145 T.f145_1))))) Try.ntmps62)
theorem REye357 : type_of% (And.intro (And.intro (And.intro (And.intro (And.intro @Try.underlying5 T.c5) (And.intro T.g5 (And.intro T.b5 T.z5))) (And.intro (And.intro @Try.underlying28 (And.intro T.c28 T.g28)) (And.intro T.b28 (And.intro T.z28 T.s28)))) (And.intro (And.intro (And.intro @Try.underlying32 (And.intro T.c32 T.g32)) (And.intro T.b32 (And.intro T.z32 @Try.underlying145))) (And.intro (And.intro T.c145 (And.intro T.g145 T.b145)) (And.intro T.z145 (And.intro T.h145 T.f145_1))))) Try.ntmps57) :=
  (And.intro (And.intro (And.intro (And.intro (And.intro @Try.underlying5 T.c5) (And.intro T.g5 (And.intro T.b5 T.z5))) (And.intro (And.intro @Try.underlying28 (And.intro T.c28 T.g28)) (And.intro T.b28 (And.intro T.z28 T.s28)))) (And.intro (And.intro (And.intro @Try.underlying32 (And.intro T.c32 T.g32)) (And.intro T.b32 (And.intro T.z32 @Try.underlying145))) (And.intro (And.intro T.c145 (And.intro T.g145 T.b145)) (And.intro T.z145 (And.intro T.h145 T.f145_1))))) Try.ntmps57)
theorem REye364 : type_of% (And.intro (And.intro (And.intro (And.intro (And.intro @Try.underlying3 (And.intro T.c3 T.g3)) (And.intro (And.intro T.b3 T.z3) (And.intro @Try.underlying5 T.c5))) (And.intro (And.intro T.g5 (And.intro T.b5 T.z5)) (And.intro (And.intro @Try.underlying28 T.c28) (And.intro T.g28 T.b28)))) (And.intro (And.intro (And.intro T.z28 (And.intro T.s28 @Try.underlying32)) (And.intro (And.intro T.c32 T.g32) (And.intro T.b32 T.z32))) (And.intro (And.intro (And.intro @Try.underlying145 T.c145) (And.intro T.g145 T.b145)) (And.intro (And.intro T.z145 T.h145) (And.intro T.f145_0 T.f145_1))))) Try.ntmps64) :=
  (And.intro (And.intro (And.intro (And.intro (And.intro @Try.underlying3 (And.intro T.c3 T.g3)) (And.intro (And.intro T.b3 T.z3) (And.intro @Try.underlying5 T.c5))) (And.intro (And.intro T.g5 (And.intro T.b5 T.z5)) (And.intro (And.intro @Try.underlying28 T.c28) (And.intro T.g28 T.b28)))) (And.intro (And.intro (And.intro T.z28 (And.intro T.s28 @Try.underlying32)) (And.intro (And.intro T.c32 T.g32) (And.intro T.b32 T.z32))) (And.intro (And.intro (And.intro @Try.underlying145 T.c145) (And.intro T.g145 T.b145)) (And.intro (And.intro T.z145 T.h145) (And.intro T.f145_0 T.f145_1))))) Try.ntmps64)

variable {Γ : Nat → List AV}



set_option maxHeartbeats 400000 in
theorem eyeRaw_calls (s0 s : AS) (p : Nat) (st : EyeSt) (n : Int) (hl : st.1.length ≤ 2 ^ 45) (h : EyeS s0 s p st) :
    ACalls Try.prog Γ 113 [.ptr p 0, .v (.int .i64 n)] s (fun r s' => r = bytesV (eyeNext n st).1 .any ∧ EyeS s0 s' p (eyeNext n st).2) := by
  refine acalls_body Try.func113 rfl Try.ntmps113 Try.results113 (by simp) ?_
  refine awp_reg_seq ?_
  intro K hK
  simp only [↓DN, UP, DF, qSh, qCv, qIA, qIx, qSl, qBu, qCe, qOn, reduceCtorEq, ↓reduceIte, nLT, nLE, nEQ, nAdd, nMul, nPow, nSub, zLT, zLE, zNat, REye3113]
  refine hK _ _ ?_
  clear hK K
  refine awp_reg_seq ?_
  intro K hK
  simp only [↓DN, UP, DF, qSh, qCv, qIA, qIx, qSl, qBu, qCe, qOn, reduceCtorEq, ↓reduceIte, nLT, nLE, nEQ, nAdd, nMul, nPow, nSub, zLT, zLE, zNat, REye3113]
  refine acallk (next_calls s0 s p st n h) ?_
  rintro r s' ⟨rfl, he⟩
  simp only [↓AXq_nil, ↓AXq_cons, pval, DX, Nat.reduceBEq, ↓DN, UP, DF, qSh, qCv, qIA, qIx, qSl, qBu, qCe, qOn, reduceCtorEq, ↓reduceIte, nLT, nLE, nEQ, nAdd, nMul, nPow, nSub, zLT, zLE, zNat, REye3113]
  refine acallk (cloneB_calls _ s' (by have := (eyeNext_len n st).1; omega)) ?_
  rintro r' s'' ⟨rfl, rfl⟩
  simp only [↓AXq_nil, ↓AXq_cons, pval, DX, Nat.reduceBEq, ↓DN, UP, DF, qSh, qCv, qIA, qIx, qSl, qBu, qCe, qOn, reduceCtorEq, ↓reduceIte, nLT, nLE, nEQ, nAdd, nMul, nPow, nSub, zLT, zLE, zNat, REye3113]
  refine hK _ _ ?_
  clear hK K
  refine awp_ret ?_
  simp only [retQ, AEnds, aresL, ares, List.toList_toArray, ↓upd_same]; try simp only [↓DN, UP, DF, qSh, qCv, qIA, qIx, qSl, qBu, qCe, qOn, reduceCtorEq, ↓reduceIte, nLT, nLE, nEQ, nAdd, nMul, nPow, nSub, zLT, zLE, zNat, REye3113, DT]
  exact ⟨_, _, AV.weak.refl _, AS.le.refl _, rfl, he⟩

theorem eyeU_conv (k : Nat) (hk : k ≤ 7) (st : EyeSt) : iconv .i64 ((eyeNum k st).1 : Int) = ((eyeNum k st).1 : Int) := by
  have := eyeNum_lt k st
  have h2 : 256 ^ k ≤ 256 ^ 7 := Nat.pow_le_pow_right (by decide) hk
  have h3 : (256 : Nat) ^ 7 = 72057594037927936 := by decide
  exact iconv_i64 (by omega)

set_option maxHeartbeats 400000 in
theorem eyeU8_calls (s0 s : AS) (p : Nat) (st : EyeSt) (h : EyeS s0 s p st) :
    ACalls Try.prog Γ 56 [.ptr p 0] s (fun r s' => r = .v (.int .i64 (eyeNum 1 st).1) ∧ EyeS s0 s' p (eyeNum 1 st).2) := by
  refine acalls_body Try.func56 rfl Try.ntmps56 Try.results56 (by simp) ?_
  refine awp_reg_seq ?_
  intro K hK
  simp only [↓DN, UP, DF, qSh, qCv, qIA, qIx, qSl, qBu, qCe, qOn, reduceCtorEq, ↓reduceIte, nLT, nLE, nEQ, nAdd, nMul, nPow, nSub, zLT, zLE, zNat, REye356]
  refine hK _ _ ?_
  clear hK K
  refine awp_reg_seq ?_
  intro K hK
  simp only [↓DN, UP, DF, qSh, qCv, qIA, qIx, qSl, qBu, qCe, qOn, reduceCtorEq, ↓reduceIte, nLT, nLE, nEQ, nAdd, nMul, nPow, nSub, zLT, zLE, zNat, REye356]
  refine acallk (eyeNumber_calls s0 s p st 1 (by omega) h) ?_
  rintro r s' ⟨rfl, he⟩
  simp only [↓AXq_nil, ↓AXq_cons, pval, DX, Nat.reduceBEq, ↓DN, UP, DF, qSh, qCv, qIA, qIx, qSl, qBu, qCe, qOn, reduceCtorEq, ↓reduceIte, nLT, nLE, nEQ, nAdd, nMul, nPow, nSub, zLT, zLE, zNat, REye356, eyeU_conv 1 (by omega) st]
  refine hK _ _ ?_
  clear hK K
  refine awp_ret ?_
  simp only [retQ, AEnds, aresL, ares, List.toList_toArray, ↓upd_same]; try simp only [↓DN, UP, DF, qSh, qCv, qIA, qIx, qSl, qBu, qCe, qOn, reduceCtorEq, ↓reduceIte, nLT, nLE, nEQ, nAdd, nMul, nPow, nSub, zLT, zLE, zNat, REye356, DT]
  exact ⟨_, _, AV.weak.refl _, AS.le.refl _, rfl, he⟩

set_option maxHeartbeats 400000 in
theorem eyeU64_calls (s0 s : AS) (p : Nat) (st : EyeSt) (h : EyeS s0 s p st) :
    ACalls Try.prog Γ 59 [.ptr p 0] s (fun r s' => r = .v (.int .u64 (eyeNum 8 st).1) ∧ EyeS s0 s' p (eyeNum 8 st).2) := by
  refine acalls_body Try.func59 rfl Try.ntmps59 Try.results59 (by simp) ?_
  refine awp_reg_seq ?_
  intro K hK
  simp only [↓DN, UP, DF, qSh, qCv, qIA, qIx, qSl, qBu, qCe, qOn, reduceCtorEq, ↓reduceIte, nLT, nLE, nEQ, nAdd, nMul, nPow, nSub, zLT, zLE, zNat, REye359]
  refine hK _ _ ?_
  clear hK K
  refine awp_reg_seq ?_
  intro K hK
  simp only [↓DN, UP, DF, qSh, qCv, qIA, qIx, qSl, qBu, qCe, qOn, reduceCtorEq, ↓reduceIte, nLT, nLE, nEQ, nAdd, nMul, nPow, nSub, zLT, zLE, zNat, REye359]
  refine acallk (eyeNumber_calls s0 s p st 8 (by omega) h) ?_
  rintro r s' ⟨rfl, he⟩
  simp only [↓AXq_nil, ↓AXq_cons, pval, DX, Nat.reduceBEq, ↓DN, UP, DF, qSh, qCv, qIA, qIx, qSl, qBu, qCe, qOn, reduceCtorEq, ↓reduceIte, nLT, nLE, nEQ, nAdd, nMul, nPow, nSub, zLT, zLE, zNat, REye359]
  refine hK _ _ ?_
  clear hK K
  refine awp_ret ?_
  simp only [retQ, AEnds, aresL, ares, List.toList_toArray, ↓upd_same]; try simp only [↓DN, UP, DF, qSh, qCv, qIA, qIx, qSl, qBu, qCe, qOn, reduceCtorEq, ↓reduceIte, nLT, nLE, nEQ, nAdd, nMul, nPow, nSub, zLT, zLE, zNat, REye359, DT]
  exact ⟨_, _, AV.weak.refl _, AS.le.refl _, rfl, he⟩

set_option maxHeartbeats 1000000 in
theorem eyeText_calls (s0 s : AS) (p : Nat) (st : EyeSt) (k : Nat) (most : Int) (hk : k ≤ 7) (hl : st.1.length ≤ 2 ^ 45) (h : EyeS s0 s p st) :
    ACalls Try.prog Γ 102 [.ptr p 0, .v (.int .i64 k), .v (.int .i64 most)] s (fun r s' => r = bytesV (eyeText k most st).1 .any ∧ EyeS s0 s' p (eyeText k most st).2) := by
  refine acalls_body Try.func102 rfl Try.ntmps102 Try.results102 (by simp) ?_
  have hx := h.obj
  simp only [bytesV] at hx
  refine awp_reg_seq ?_
  intro K hK
  simp only [↓DN, UP, DF, qSh, qCv, qIA, qIx, qSl, qBu, qCe, qOn, reduceCtorEq, ↓reduceIte, nLT, nLE, nEQ, nAdd, nMul, nPow, nSub, zLT, zLE, zNat, REye3102]
  refine hK _ _ ?_
  clear hK K
  refine awp_reg_seq ?_
  intro K hK
  simp only [↓DN, UP, DF, qSh, qCv, qIA, qIx, qSl, qBu, qCe, qOn, reduceCtorEq, ↓reduceIte, nLT, nLE, nEQ, nAdd, nMul, nPow, nSub, zLT, zLE, zNat, REye3102, hx]
  refine hK _ _ ?_
  clear hK K
  refine awp_reg_seq ?_
  intro K hK
  simp only [↓DN, UP, DF, qSh, qCv, qIA, qIx, qSl, qBu, qCe, qOn, reduceCtorEq, ↓reduceIte, nLT, nLE, nEQ, nAdd, nMul, nPow, nSub, zLT, zLE, zNat, REye3102]
  refine acallk (eyeNumber_calls s0 s p st k (by omega) h) ?_
  rintro r s' ⟨rfl, he⟩
  simp only [↓AXq_nil, ↓AXq_cons, pval, DX, Nat.reduceBEq, ↓DN, UP, DF, qSh, qCv, qIA, qIx, qSl, qBu, qCe, qOn, reduceCtorEq, ↓reduceIte, nLT, nLE, nEQ, nAdd, nMul, nPow, nSub, zLT, zLE, zNat, REye3102, eyeU_conv k hk st]
  refine hK _ _ ?_
  clear hK K
  have hlen := eyeNum_len k st
  obtain ⟨q, hq⟩ : ∃ q, eyeNum k st = q := ⟨_, rfl⟩
  rw [hq] at he hlen
  rw [hq]
  obtain ⟨num, l', er⟩ := q
  have hx' := he.obj
  simp only [bytesV] at hx' hlen
  refine awp_seq_k ?_
  intro K hK
  refine awp_block ?_
  by_cases h0 : er = 0
  · subst h0
    refine awp_reg_seq ?_
    intro K hK
    simp only [↓DN, UP, DF, qSh, qCv, qIA, qIx, qSl, qBu, qCe, qOn, reduceCtorEq, ↓reduceIte, nLT, nLE, nEQ, nAdd, nMul, nPow, nSub, zLT, zLE, zNat, REye3102, hx', i64_ne_false 0 rfl]
    refine hK _ _ ?_
    clear hK K
    refine awp_cond_k ?_
    intro X Y hX hY
    simp only [↓DN, UP, DF, qSh, qCv, qIA, qIx, qSl, qBu, qCe, qOn, reduceCtorEq, ↓reduceIte, nLT, nLE, nEQ, nAdd, nMul, nPow, nSub, zLT, zLE, zNat, REye3102, DB]
    refine hY ?_
    clear hX hY X Y
    by_cases h1 : most < (num : Int)
    · refine awp_reg_seq ?_
      intro K hK
      simp only [↓DN, UP, DF, qSh, qCv, qIA, qIx, qSl, qBu, qCe, qOn, reduceCtorEq, ↓reduceIte, nLT, nLE, nEQ, nAdd, nMul, nPow, nSub, zLT, zLE, zNat, REye3102, decide_eq_true h1]
      refine hK _ _ ?_
      clear hK K
      refine awp_cond_k ?_
      intro X Y hX hY
      simp only [↓DN, UP, DF, qSh, qCv, qIA, qIx, qSl, qBu, qCe, qOn, reduceCtorEq, ↓reduceIte, nLT, nLE, nEQ, nAdd, nMul, nPow, nSub, zLT, zLE, zNat, REye3102, DB]
      refine hX ?_
      clear hX hY X Y
      refine awp_reg_seq ?_
      intro K hK
      simp only [↓DN, UP, DF, qSh, qCv, qIA, qIx, qSl, qBu, qCe, qOn, reduceCtorEq, ↓reduceIte, nLT, nLE, nEQ, nAdd, nMul, nPow, nSub, zLT, zLE, zNat, REye3102, hx']
      refine hK _ _ ?_
      clear hK K
      refine awp_reg_seq ?_
      intro K hK
      simp only [↓DN, UP, DF, qSh, qCv, qIA, qIx, qSl, qBu, qCe, qOn, reduceCtorEq, ↓reduceIte, nLT, nLE, nEQ, nAdd, nMul, nPow, nSub, zLT, zLE, zNat, REye3102]
      refine hK _ _ ?_
      clear hK K
      refine awp_ret ?_
      simp only [retQ, AEnds, aresL, ares, List.toList_toArray, ↓upd_same]; try simp only [↓DN, UP, DF, qSh, qCv, qIA, qIx, qSl, qBu, qCe, qOn, reduceCtorEq, ↓reduceIte, nLT, nLE, nEQ, nAdd, nMul, nPow, nSub, zLT, zLE, zNat, REye3102, DT]
      have e : eyeText k most st = ([], st.1, 11) := by unfold eyeText; rw [hq]; exact (if_pos rfl).trans (if_pos h1)
      rw [e]
      exact ⟨_, _, AV.weak_nil, AS.le.refl _, rfl, he.put⟩
    · refine awp_reg_seq ?_
      intro K hK
      simp only [↓DN, UP, DF, qSh, qCv, qIA, qIx, qSl, qBu, qCe, qOn, reduceCtorEq, ↓reduceIte, nLT, nLE, nEQ, nAdd, nMul, nPow, nSub, zLT, zLE, zNat, REye3102, decide_eq_false h1]
      refine hK _ _ ?_
      clear hK K
      refine awp_cond_k ?_
      intro X Y hX hY
      simp only [↓DN, UP, DF, qSh, qCv, qIA, qIx, qSl, qBu, qCe, qOn, reduceCtorEq, ↓reduceIte, nLT, nLE, nEQ, nAdd, nMul, nPow, nSub, zLT, zLE, zNat, REye3102, DB]
      refine hY ?_
      clear hX hY X Y
      by_cases h2 : l'.length < num
      · refine awp_reg_seq ?_
        intro K hK
        simp only [↓DN, UP, DF, qSh, qCv, qIA, qIx, qSl, qBu, qCe, qOn, reduceCtorEq, ↓reduceIte, nLT, nLE, nEQ, nAdd, nMul, nPow, nSub, zLT, zLE, zNat, REye3102, hx', eye_lt_nat, decide_eq_true h2]
        refine hK _ _ ?_
        clear hK K
        refine awp_cond_k ?_
        intro X Y hX hY
        simp only [↓DN, UP, DF, qSh, qCv, qIA, qIx, qSl, qBu, qCe, qOn, reduceCtorEq, ↓reduceIte, nLT, nLE, nEQ, nAdd, nMul, nPow, nSub, zLT, zLE, zNat, REye3102, DB]
        refine hX ?_
        clear hX hY X Y
        refine awp_reg_seq ?_
        intro K hK
        simp only [↓DN, UP, DF, qSh, qCv, qIA, qIx, qSl, qBu, qCe, qOn, reduceCtorEq, ↓reduceIte, nLT, nLE, nEQ, nAdd, nMul, nPow, nSub, zLT, zLE, zNat, REye3102, hx']
        refine hK _ _ ?_
        clear hK K
        refine awp_reg_seq ?_
        intro K hK
        simp only [↓DN, UP, DF, qSh, qCv, qIA, qIx, qSl, qBu, qCe, qOn, reduceCtorEq, ↓reduceIte, nLT, nLE, nEQ, nAdd, nMul, nPow, nSub, zLT, zLE, zNat, REye3102]
        refine hK _ _ ?_
        clear hK K
        refine awp_ret ?_
        simp only [retQ, AEnds, aresL, ares, List.toList_toArray, ↓upd_same]; try simp only [↓DN, UP, DF, qSh, qCv, qIA, qIx, qSl, qBu, qCe, qOn, reduceCtorEq, ↓reduceIte, nLT, nLE, nEQ, nAdd, nMul, nPow, nSub, zLT, zLE, zNat, REye3102, DT]
        have e : eyeText k most st = ([], st.1, 10) := by unfold eyeText; rw [hq]; exact (if_pos rfl).trans ((if_neg h1).trans (if_pos h2))
        rw [e]
        exact ⟨_, _, AV.weak_nil, AS.le.refl _, rfl, he.put⟩
      · have e : eyeText k most st = eyeNext num (l', 0) := by unfold eyeText; rw [hq]; exact (if_pos rfl).trans ((if_neg h1).trans (if_neg h2))
        refine awp_reg_seq ?_
        intro K hK
        simp only [↓DN, UP, DF, qSh, qCv, qIA, qIx, qSl, qBu, qCe, qOn, reduceCtorEq, ↓reduceIte, nLT, nLE, nEQ, nAdd, nMul, nPow, nSub, zLT, zLE, zNat, REye3102, hx', eye_lt_nat, decide_eq_false h2]
        refine hK _ _ ?_
        clear hK K
        refine awp_cond_k ?_
        intro X Y hX hY
        simp only [↓DN, UP, DF, qSh, qCv, qIA, qIx, qSl, qBu, qCe, qOn, reduceCtorEq, ↓reduceIte, nLT, nLE, nEQ, nAdd, nMul, nPow, nSub, zLT, zLE, zNat, REye3102, DB]
        refine hY ?_
        clear hX hY X Y
        refine awp_skip ?_
        simp only [thenQ, blockQ, if_true, if_false]
        refine hK _ _ ?_
        clear hK K
        refine awp_reg_seq ?_
        intro K hK
        simp only [↓DN, UP, DF, qSh, qCv, qIA, qIx, qSl, qBu, qCe, qOn, reduceCtorEq, ↓reduceIte, nLT, nLE, nEQ, nAdd, nMul, nPow, nSub, zLT, zLE, zNat, REye3102]
        refine acallk (eyeRaw_calls s0 s' p (l', 0) num (by simp only; omega) he) ?_
        rintro r s'' ⟨rfl, he'⟩
        simp only [↓AXq_nil, ↓AXq_cons, pval, DX, Nat.reduceBEq, ↓DN, UP, DF, qSh, qCv, qIA, qIx, qSl, qBu, qCe, qOn, reduceCtorEq, ↓reduceIte, nLT, nLE, nEQ, nAdd, nMul, nPow, nSub, zLT, zLE, zNat, REye3102]
        refine hK _ _ ?_
        clear hK K
        refine awp_ret ?_
        simp only [retQ, AEnds, aresL, ares, List.toList_toArray, ↓upd_same]; try simp only [↓DN, UP, DF, qSh, qCv, qIA, qIx, qSl, qBu, qCe, qOn, reduceCtorEq, ↓reduceIte, nLT, nLE, nEQ, nAdd, nMul, nPow, nSub, zLT, zLE, zNat, REye3102, DT]
        rw [e]
        exact ⟨_, _, AV.weak.refl _, AS.le.refl _, rfl, he'⟩
  · refine awp_reg_seq ?_
    intro K hK
    simp only [↓DN, UP, DF, qSh, qCv, qIA, qIx, qSl, qBu, qCe, qOn, reduceCtorEq, ↓reduceIte, nLT, nLE, nEQ, nAdd, nMul, nPow, nSub, zLT, zLE, zNat, REye3102, hx', i64_ne_true er h0]
    refine hK _ _ ?_
    clear hK K
    refine awp_cond_k ?_
    intro X Y hX hY
    simp only [↓DN, UP, DF, qSh, qCv, qIA, qIx, qSl, qBu, qCe, qOn, reduceCtorEq, ↓reduceIte, nLT, nLE, nEQ, nAdd, nMul, nPow, nSub, zLT, zLE, zNat, REye3102, DB]
    refine hX ?_
    clear hX hY X Y
    refine awp_reg_seq ?_
    intro K hK
    simp only [↓DN, UP, DF, qSh, qCv, qIA, qIx, qSl, qBu, qCe, qOn, reduceCtorEq, ↓reduceIte, nLT, nLE, nEQ, nAdd, nMul, nPow, nSub, zLT, zLE, zNat, REye3102]
    refine hK _ _ ?_
    clear hK K
    refine awp_ret ?_
    simp only [retQ, AEnds, aresL, ares, List.toList_toArray, ↓upd_same]; try simp only [↓DN, UP, DF, qSh, qCv, qIA, qIx, qSl, qBu, qCe, qOn, reduceCtorEq, ↓reduceIte, nLT, nLE, nEQ, nAdd, nMul, nPow, nSub, zLT, zLE, zNat, REye3102, DT]
    have e : eyeText k most st = ([], l', er) := by unfold eyeText; rw [hq]; exact if_neg h0
    rw [e]
    exact ⟨_, _, AV.weak_nil, AS.le.refl _, rfl, he⟩

set_option maxHeartbeats 400000 in
theorem eyeShort_calls (s0 s : AS) (p : Nat) (st : EyeSt) (most : Int) (hl : st.1.length ≤ 2 ^ 45) (h : EyeS s0 s p st) :
    ACalls Try.prog Γ 58 [.ptr p 0, .v (.int .i64 most)] s (fun r s' => r = bytesV (eyeText 1 most st).1 .any ∧ EyeS s0 s' p (eyeText 1 most st).2) := by
  refine acalls_body Try.func58 rfl Try.ntmps58 Try.results58 (by simp) ?_
  refine awp_reg_seq ?_
  intro K hK
  simp only [↓DN, UP, DF, qSh, qCv, qIA, qIx, qSl, qBu, qCe, qOn, reduceCtorEq, ↓reduceIte, nLT, nLE, nEQ, nAdd, nMul, nPow, nSub, zLT, zLE, zNat, REye358]
  refine hK _ _ ?_
  clear hK K
  refine awp_reg_seq ?_
  intro K hK
  simp only [↓DN, UP, DF, qSh, qCv, qIA, qIx, qSl, qBu, qCe, qOn, reduceCtorEq, ↓reduceIte, nLT, nLE, nEQ, nAdd, nMul, nPow, nSub, zLT, zLE, zNat, REye358]
  refine acallk (eyeText_calls s0 s p st 1 most (by omega) hl h) ?_
  rintro r s' ⟨rfl, he⟩
  simp only [↓AXq_nil, ↓AXq_cons, pval, DX, Nat.reduceBEq, ↓DN, UP, DF, qSh, qCv, qIA, qIx, qSl, qBu, qCe, qOn, reduceCtorEq, ↓reduceIte, nLT, nLE, nEQ, nAdd, nMul, nPow, nSub, zLT, zLE, zNat, REye358]
  refine hK _ _ ?_
  clear hK K
  refine awp_ret ?_
  simp only [retQ, AEnds, aresL, ares, List.toList_toArray, ↓upd_same]; try simp only [↓DN, UP, DF, qSh, qCv, qIA, qIx, qSl, qBu, qCe, qOn, reduceCtorEq, ↓reduceIte, nLT, nLE, nEQ, nAdd, nMul, nPow, nSub, zLT, zLE, zNat, REye358, DT]
  exact ⟨_, _, AV.weak.refl _, AS.le.refl _, rfl, he⟩

set_option maxHeartbeats 400000 in
theorem eyeLong_calls (s0 s : AS) (p : Nat) (st : EyeSt) (most : Int) (hl : st.1.length ≤ 2 ^ 45) (h : EyeS s0 s p st) :
    ACalls Try.prog Γ 110 [.ptr p 0, .v (.int .i64 most)] s (fun r s' => r = bytesV (eyeText 2 most st).1 .any ∧ EyeS s0 s' p (eyeText 2 most st).2) := by
  refine acalls_body Try.func110 rfl Try.ntmps110 Try.results110 (by simp) ?_
  refine awp_reg_seq ?_
  intro K hK
  simp only [↓DN, UP, DF, qSh, qCv, qIA, qIx, qSl, qBu, qCe, qOn, reduceCtorEq, ↓reduceIte, nLT, nLE, nEQ, nAdd, nMul, nPow, nSub, zLT, zLE, zNat, REye3110]
  refine hK _ _ ?_
  clear hK K
  refine awp_reg_seq ?_
  intro K hK
  simp only [↓DN, UP, DF, qSh, qCv, qIA, qIx, qSl, qBu, qCe, qOn, reduceCtorEq, ↓reduceIte, nLT, nLE, nEQ, nAdd, nMul, nPow, nSub, zLT, zLE, zNat, REye3110]
  refine acallk (eyeText_calls s0 s p st 2 most (by omega) hl h) ?_
  rintro r s' ⟨rfl, he⟩
  simp only [↓AXq_nil, ↓AXq_cons, pval, DX, Nat.reduceBEq, ↓DN, UP, DF, qSh, qCv, qIA, qIx, qSl, qBu, qCe, qOn, reduceCtorEq, ↓reduceIte, nLT, nLE, nEQ, nAdd, nMul, nPow, nSub, zLT, zLE, zNat, REye3110]
  refine hK _ _ ?_
  clear hK K
  refine awp_ret ?_
  simp only [retQ, AEnds, aresL, ares, List.toList_toArray, ↓upd_same]; try simp only [↓DN, UP, DF, qSh, qCv, qIA, qIx, qSl, qBu, qCe, qOn, reduceCtorEq, ↓reduceIte, nLT, nLE, nEQ, nAdd, nMul, nPow, nSub, zLT, zLE, zNat, REye3110, DT]
  exact ⟨_, _, AV.weak.refl _, AS.le.refl _, rfl, he⟩

set_option maxHeartbeats 400000 in
theorem eyeErr_calls (s0 s : AS) (p : Nat) (st : EyeSt) (h : EyeS s0 s p st) :
    ACalls Try.prog Γ 62 [.ptr p 0] s (fun r s' => r = .v (.int .i64 st.2) ∧ s' = s) := by
  refine acalls_body Try.func62 rfl Try.ntmps62 Try.results62 (by simp) ?_
  have hx := h.obj
  refine awp_reg_seq ?_
  intro K hK
  simp only [↓DN, UP, DF, qSh, qCv, qIA, qIx, qSl, qBu, qCe, qOn, reduceCtorEq, ↓reduceIte, nLT, nLE, nEQ, nAdd, nMul, nPow, nSub, zLT, zLE, zNat, REye362]
  refine hK _ _ ?_
  clear hK K
  refine awp_reg_seq ?_
  intro K hK
  simp only [↓DN, UP, DF, qSh, qCv, qIA, qIx, qSl, qBu, qCe, qOn, reduceCtorEq, ↓reduceIte, nLT, nLE, nEQ, nAdd, nMul, nPow, nSub, zLT, zLE, zNat, REye362, hx]
  refine hK _ _ ?_
  clear hK K
  refine awp_ret ?_
  simp only [retQ, AEnds, aresL, ares, List.toList_toArray, ↓upd_same]; try simp only [↓DN, UP, DF, qSh, qCv, qIA, qIx, qSl, qBu, qCe, qOn, reduceCtorEq, ↓reduceIte, nLT, nLE, nEQ, nAdd, nMul, nPow, nSub, zLT, zLE, zNat, REye362, DT]
  exact ⟨_, _, AV.weak.refl _, AS.le.refl _, rfl, rfl⟩

set_option maxHeartbeats 400000 in
theorem eyeFail_calls (s0 s : AS) (p : Nat) (st : EyeSt) (e : Int) (h : EyeS s0 s p st) :
    ACalls Try.prog Γ 57 [.ptr p 0, .v (.int .i64 e)] s (fun r s' => r = .tup [] ∧ EyeS s0 s' p (st.1, if st.2 = 0 then e else st.2)) := by
  refine acalls_body Try.func57 rfl Try.ntmps57 Try.results57 (by simp) ?_
  have hx := h.obj
  obtain ⟨l, er⟩ := st
  simp only at hx ⊢
  by_cases h0 : er = 0
  · refine awp_reg_seq ?_
    intro K hK
    simp only [↓DN, UP, DF, qSh, qCv, qIA, qIx, qSl, qBu, qCe, qOn, reduceCtorEq, ↓reduceIte, nLT, nLE, nEQ, nAdd, nMul, nPow, nSub, zLT, zLE, zNat, REye357, hx, i64_eq_true er h0]
    refine hK _ _ ?_
    clear hK K
    refine awp_cond_k ?_
    intro X Y hX hY
    simp only [↓DN, UP, DF, qSh, qCv, qIA, qIx, qSl, qBu, qCe, qOn, reduceCtorEq, ↓reduceIte, nLT, nLE, nEQ, nAdd, nMul, nPow, nSub, zLT, zLE, zNat, REye357, DB]
    refine hX ?_
    clear hX hY X Y
    refine awp_reg_end ?_
    intro K hK
    simp only [↓DN, UP, DF, qSh, qCv, qIA, qIx, qSl, qBu, qCe, qOn, reduceCtorEq, ↓reduceIte, nLT, nLE, nEQ, nAdd, nMul, nPow, nSub, zLT, zLE, zNat, REye357, hx]
    refine hK _ _ ?_
    clear hK K
    simp only [retQ, AEnds, aresL, ares, List.toList_toArray, ↓upd_same]; try simp only [↓DN, UP, DF, qSh, qCv, qIA, qIx, qSl, qBu, qCe, qOn, reduceCtorEq, ↓reduceIte, nLT, nLE, nEQ, nAdd, nMul, nPow, nSub, zLT, zLE, zNat, REye357, DT]
    rw [if_pos h0]
    exact ⟨_, _, AV.weak.refl _, AS.le.refl _, rfl, h.put⟩
  · refine awp_reg_seq ?_
    intro K hK
    simp only [↓DN, UP, DF, qSh, qCv, qIA, qIx, qSl, qBu, qCe, qOn, reduceCtorEq, ↓reduceIte, nLT, nLE, nEQ, nAdd, nMul, nPow, nSub, zLT, zLE, zNat, REye357, hx, i64_eq_false er h0]
    refine hK _ _ ?_
    clear hK K
    refine awp_cond_k ?_
    intro X Y hX hY
    simp only [↓DN, UP, DF, qSh, qCv, qIA, qIx, qSl, qBu, qCe, qOn, reduceCtorEq, ↓reduceIte, nLT, nLE, nEQ, nAdd, nMul, nPow, nSub, zLT, zLE, zNat, REye357, DB]
    refine hY ?_
    clear hX hY X Y
    refine awp_skip ?_
    simp only [retQ, AEnds, aresL, ares, List.toList_toArray, ↓upd_same]; try simp only [↓DN, UP, DF, qSh, qCv, qIA, qIx, qSl, qBu, qCe, qOn, reduceCtorEq, ↓reduceIte, nLT, nLE, nEQ, nAdd, nMul, nPow, nSub, zLT, zLE, zNat, REye357, DT]
    rw [if_neg h0]
    exact ⟨_, _, AV.weak.refl _, AS.le.refl _, rfl, h⟩

set_option maxHeartbeats 400000 in
theorem eyeEnd_calls (s0 s : AS) (p : Nat) (st : EyeSt) (h : EyeS s0 s p st) :
    ACalls Try.prog Γ 64 [.ptr p 0] s (fun r s' => r = .v (.int .i64 (eyeEnd st)) ∧ s' = s) := by
  refine acalls_body Try.func64 rfl Try.ntmps64 Try.results64 (by simp) ?_
  have hx := h.obj
  obtain ⟨l, er⟩ := st
  simp only [bytesV] at hx
  refine awp_reg_seq ?_
  intro K hK
  simp only [↓DN, UP, DF, qSh, qCv, qIA, qIx, qSl, qBu, qCe, qOn, reduceCtorEq, ↓reduceIte, nLT, nLE, nEQ, nAdd, nMul, nPow, nSub, zLT, zLE, zNat, REye364]
  refine hK _ _ ?_
  clear hK K
  refine awp_seq_k ?_
  intro K hK
  have hgo : ∀ E1 : Env, E1 0 = .ptr p 0 → eyeEnd (l, er) = er → K E1 s := by
    intro E1 e0 e
    refine hK _ _ ?_
    clear hK K
    refine awp_reg_seq ?_
    intro K hK
    simp only [↓DN, UP, DF, qSh, qCv, qIA, qIx, qSl, qBu, qCe, qOn, reduceCtorEq, ↓reduceIte, nLT, nLE, nEQ, nAdd, nMul, nPow, nSub, zLT, zLE, zNat, REye364, e0, hx]
    refine hK _ _ ?_
    clear hK K
    refine awp_ret ?_
    simp only [retQ, AEnds, aresL, ares, List.toList_toArray, ↓upd_same]; try simp only [↓DN, UP, DF, qSh, qCv, qIA, qIx, qSl, qBu, qCe, qOn, reduceCtorEq, ↓reduceIte, nLT, nLE, nEQ, nAdd, nMul, nPow, nSub, zLT, zLE, zNat, REye364, DT]
    exact ⟨_, _, AV.weak.refl _, AS.le.refl _, by rw [e], rfl⟩
  clear hK
  by_cases h0 : er = 0
  · by_cases h1 : 0 < l.length
    · refine awp_reg_seq ?_
      intro K hK
      simp only [↓DN, UP, DF, qSh, qCv, qIA, qIx, qSl, qBu, qCe, qOn, reduceCtorEq, ↓reduceIte, nLT, nLE, nEQ, nAdd, nMul, nPow, nSub, zLT, zLE, zNat, REye364, hx, i64_eq_true er h0, decide_eq_true (show (0 : Int) < (l.length : Int) by omega)]
      refine hK _ _ ?_
      clear hK K
      refine awp_cond_k ?_
      intro X Y hX hY
      simp only [↓DN, UP, DF, qSh, qCv, qIA, qIx, qSl, qBu, qCe, qOn, reduceCtorEq, ↓reduceIte, nLT, nLE, nEQ, nAdd, nMul, nPow, nSub, zLT, zLE, zNat, REye364, DB]
      refine hX ?_
      clear hX hY X Y
      refine awp_reg_seq ?_
      intro K hK
      simp only [↓DN, UP, DF, qSh, qCv, qIA, qIx, qSl, qBu, qCe, qOn, reduceCtorEq, ↓reduceIte, nLT, nLE, nEQ, nAdd, nMul, nPow, nSub, zLT, zLE, zNat, REye364]
      refine hK _ _ ?_
      clear hK K
      refine awp_ret ?_
      simp only [retQ, AEnds, aresL, ares, List.toList_toArray, ↓upd_same]; try simp only [↓DN, UP, DF, qSh, qCv, qIA, qIx, qSl, qBu, qCe, qOn, reduceCtorEq, ↓reduceIte, nLT, nLE, nEQ, nAdd, nMul, nPow, nSub, zLT, zLE, zNat, REye364, DT]
      exact ⟨_, _, AV.weak.refl _, AS.le.refl _, by simp [eyeEnd, h0, h1, atuple], rfl⟩
    · refine awp_reg_seq ?_
      intro K hK
      simp only [↓DN, UP, DF, qSh, qCv, qIA, qIx, qSl, qBu, qCe, qOn, reduceCtorEq, ↓reduceIte, nLT, nLE, nEQ, nAdd, nMul, nPow, nSub, zLT, zLE, zNat, REye364, hx, i64_eq_true er h0, decide_eq_false (show ¬ (0 : Int) < (l.length : Int) by omega)]
      refine hK _ _ ?_
      clear hK K
      refine awp_cond_k ?_
      intro X Y hX hY
      simp only [↓DN, UP, DF, qSh, qCv, qIA, qIx, qSl, qBu, qCe, qOn, reduceCtorEq, ↓reduceIte, nLT, nLE, nEQ, nAdd, nMul, nPow, nSub, zLT, zLE, zNat, REye364, DB]
      refine hY ?_
      clear hX hY X Y
      refine awp_skip ?_
      exact hgo _ (by simp only [upd, initE, List.getD_cons_zero, nEQ, ↓reduceIte]) (by simp [eyeEnd, h1])
  · refine awp_reg_seq ?_
    intro K hK
    simp only [↓DN, UP, DF, qSh, qCv, qIA, qIx, qSl, qBu, qCe, qOn, reduceCtorEq, ↓reduceIte, nLT, nLE, nEQ, nAdd, nMul, nPow, nSub, zLT, zLE, zNat, REye364, hx, i64_eq_false er h0]
    refine hK _ _ ?_
    clear hK K
    refine awp_cond_k ?_
    intro X Y hX hY
    simp only [↓DN, UP, DF, qSh, qCv, qIA, qIx, qSl, qBu, qCe, qOn, reduceCtorEq, ↓reduceIte, nLT, nLE, nEQ, nAdd, nMul, nPow, nSub, zLT, zLE, zNat, REye364, DB]
    refine hY ?_
    clear hX hY X Y
    refine awp_skip ?_
    exact hgo _ (by simp only [upd, initE, List.getD_cons_zero, nEQ, ↓reduceIte]) (by simp [eyeEnd, h0])

end Go.Proofs.Ytcnilmidfhpckaa


set_option autoImplicit false
namespace Go.Proofs.Ytcnilmidfhpckaa
open Go Go.AM Go.Proofs

theorem RRef0167 : type_of% (And.intro (And.intro (And.intro (And.intro (And.intro @Try.underlying3 (And.intro T.c3 T.g3)) (And.intro T.b3 (And.intro T.z3 @Try.underlying5))) (And.intro (And.intro T.c5 (And.intro T.g5 T.b5)) (And.intro (And.intro T.z5 @Try.underlying9) (And.intro T.c9 T.g9)))) (And.intro (And.intro (And.intro T.b9 (And.intro T.z9 @Try.underlying28)) (And.intro T.c28 (And.intro T.g28 T.b28))) (And.intro (And.intro T.z28 (And.intro T.s28 @Try.underlying42)) (And.intro (And.intro T.c42 T.g42) (And.intro T.b42 T.z42))))) Try.ntmps67) :=
  (And.intro (And.intro (And.intro (And.intro (And.intro @Try.underlying3 (And.intro T.c3 T.g3)) (And.intro T.b3 (And.intro T.z3 @Try.underlying5))) (And.intro (And.intro T.c5 (And.intro T.g5 T.b5)) (And.intro (And.intro T.z5 @Try.underlying9) (And.intro T.c9 T.g9)))) (And.intro (And.intro (And.intro T.b9 (And.intro T.z9 @Try.underlying28)) (And.intro T.c28 (And.intro T.g28 T.b28))) (And.intro (And.intro T.z28 (And.intro T.s28 @Try.underlying42)) (And.intro (And.intro T.c42 T.g42) (And.intro T.b42 T.z42))))) Try.ntmps67)
theorem RRef0165 : type_of% (And.intro (And.intro (And.intro (And.intro (And.intro @Try.underlying3 T.c3) (And.intro T.g3 T.b3)) (And.intro (And.intro T.z3 @Try.underlying9) (And.intro T.c9 T.g9))) (And.intro (And.intro (And.intro T.b9 T.z9) (And.intro @Try.underlying42 T.c42)) (And.intro (And.intro T.g42 T.b42) (And.intro T.z42 T.k67)))) Try.ntmps65) :=
  (And.intro (And.intro (And.intro (And.intro (And.intro @Try.underlying3 T.c3) (And.intro T.g3 T.b3)) (And.intro (And.intro T.z3 @Try.underlying9) (And.intro T.c9 T.g9))) (And.intro (And.intro (And.intro T.b9 T.z9) (And.intro @Try.underlying42 T.c42)) (And.intro (And.intro T.g42 T.b42) (And.intro T.z42 T.k67)))) Try.ntmps65)
variable {Γ : Nat → List AV}

theorem n256 : ((256 : Int) = 0) = False := by simp
theorem num_byte (q : Nat) : iconv .u8 (irem (q : Int) 256) = ((UInt8.ofNat q).toNat : Int) := by
  rw [show (256 : Int) = ((256 : Nat) : Int) from rfl, irem_u, iconv_u rfl]
  simp [IntKind.bits]
theorem num_quo (n i : Nat) (h : n < 2 ^ 64) : iquo .u64 ((n / 256 ^ i : Nat) : Int) 256 = ((n / 256 ^ (i + 1) : Nat) : Int) := by
  have hq : n / 256 ^ i < 2 ^ IntKind.u64.bits := Nat.lt_of_le_of_lt (Nat.div_le_self _ _) h
  have := iquo_u (k := .u64) rfl (n / 256 ^ i) 256 hq
  rw [show (256 : Int) = ((256 : Nat) : Int) from rfl, this, Nat.div_div_eq_div_mul, Nat.pow_succ]
theorem byte_one (c : UInt8) : toBytes [AV.v (.int .u8 (c.toNat : Int))] = ByteArray.mk [c].toArray := toBytes_map [c]
theorem byte_is (c : UInt8) : isByte (AV.v (.int .u8 (c.toNat : Int))) = true := rfl

set_option maxHeartbeats 1000000 in
theorem refNumber_calls (n size : Nat) (hn : n < 2 ^ 64) (hs : size ≤ 8) (s : AS) :
    ACalls Try.prog Γ 67 [.v (.int .u64 n), .v (.int .i64 size)] s (fun r s' => r = .v (.string ⟨(be size n).toArray⟩) ∧ s' = s) := by
  refine acalls_body Try.func67 rfl Try.ntmps67 Try.results67 (by simp) ?_
  refine awp_reg_seq ?_
  intro K hK
  simp only [↓DN, UP, DF, qSh, qCv, qIA, qIx, qSl, qBu, qCe, qOn, reduceCtorEq, ↓reduceIte, nLT, nLE, nEQ, nAdd, nMul, nPow, nSub, zLT, zLE, zNat, RRef0167]
  refine hK _ _ ?_
  clear hK K
  refine awp_reg_seq ?_
  intro K hK
  simp only [↓DN, UP, DF, qSh, qCv, qIA, qIx, qSl, qBu, qCe, qOn, reduceCtorEq, ↓reduceIte, nLT, nLE, nEQ, nAdd, nMul, nPow, nSub, zLT, zLE, zNat, RRef0167]
  refine hK _ _ ?_
  clear hK K
  refine awp_seq_k ?_
  intro K hK
  refine awp_reg_seq ?_
  intro K hK
  simp only [↓DN, UP, DF, qSh, qCv, qIA, qIx, qSl, qBu, qCe, qOn, reduceCtorEq, ↓reduceIte, nLT, nLE, nEQ, nAdd, nMul, nPow, nSub, zLT, zLE, zNat, RRef0167]
  refine hK _ _ ?_
  clear hK K
  refine awp_block ?_
  refine awp_loop (fun E s1 => ∃ i : Nat, i ≤ size ∧ E 6 = .v (.int .i64 i) ∧ E 1 = .v (.int .i64 size) ∧ E 0 = .v (.int .u64 (n / 256 ^ i : Nat)) ∧ E 5 = .v (.string ⟨(be i n).toArray⟩) ∧ s1 = s)
    (fun E _ => match E 6 with | .v (.int _ i) => size - i.toNat | _ => 0) ?_ ?_
  · exact ⟨0, Nat.zero_le _, by simp [upd], by simp [upd, initE], by simp [upd, initE], by simp [upd, be], rfl⟩
  · rintro E1 s1 ⟨i, hi, h6, h1, h0, h5, rfl⟩ -
    refine awp_seq_k ?_
    intro K2 hK2
    by_cases hi' : i < size
    · refine awp_reg_seq ?_
      intro K hK
      simp only [↓DN, UP, DF, qSh, qCv, qIA, qIx, qSl, qBu, qCe, qOn, reduceCtorEq, ↓reduceIte, nLT, nLE, nEQ, nAdd, nMul, nPow, nSub, zLT, zLE, zNat, RRef0167, h6, h1, eye_lt_nat, decide_eq_true hi']
      refine hK _ _ ?_
      clear hK K
      refine awp_cond_k ?_
      intro X Y hX hY
      simp only [↓DN, UP, DF, qSh, qCv, qIA, qIx, qSl, qBu, qCe, qOn, reduceCtorEq, ↓reduceIte, nLT, nLE, nEQ, nAdd, nMul, nPow, nSub, zLT, zLE, zNat, RRef0167, DB]
      refine hX ?_
      clear hX hY X Y
      refine awp_skip ?_
      refine hK2 _ _ ?_
      clear hK2 K2
      refine awp_seq_k ?_
      intro K3 hK3
      refine awp_block ?_
      refine awp_reg_seq ?_
      intro K hK
      simp only [↓DN, UP, DF, qSh, qCv, qIA, qIx, qSl, qBu, qCe, qOn, reduceCtorEq, ↓reduceIte, nLT, nLE, nEQ, nAdd, nMul, nPow, nSub, zLT, zLE, zNat, RRef0167, h0, h5, n256, num_byte, byte_one, byte_is, List.replicate_succ, bs_size, bs_append, length_be, i64_room (show 1 + i < 2 ^ 62 by omega)]
      refine hK _ _ ?_
      clear hK K
      refine awp_reg_end ?_
      intro K hK
      simp only [↓DN, UP, DF, qSh, qCv, qIA, qIx, qSl, qBu, qCe, qOn, reduceCtorEq, ↓reduceIte, nLT, nLE, nEQ, nAdd, nMul, nPow, nSub, zLT, zLE, zNat, RRef0167, h0, n256, num_quo n i hn]
      refine hK _ _ ?_
      clear hK K
      simp only [blockQ, thenQ, if_true, if_false]
      refine hK3 _ _ ?_
      clear hK3 K3
      refine awp_reg_end ?_
      intro K hK
      simp only [↓DN, UP, DF, qSh, qCv, qIA, qIx, qSl, qBu, qCe, qOn, reduceCtorEq, ↓reduceIte, nLT, nLE, nEQ, nAdd, nMul, nPow, nSub, zLT, zLE, zNat, RRef0167, h6, eye_succ i (by omega)]
      refine hK _ _ ?_
      clear hK K
      refine ⟨⟨i + 1, by omega, by simp only [upd, ↓reduceIte], by simp only [upd, h1, nEQ, ↓reduceIte], by simp only [upd, nEQ, ↓reduceIte], ?_, rfl⟩, ?_⟩
      · simp only [upd, nEQ, ↓reduceIte, be, show 2 ^ (8 * i) = 256 ^ i from by rw [Nat.pow_mul]]
      · simp only [h6, upd, ↓reduceIte]
        omega
    · refine awp_reg_seq ?_
      intro K hK
      simp only [↓DN, UP, DF, qSh, qCv, qIA, qIx, qSl, qBu, qCe, qOn, reduceCtorEq, ↓reduceIte, nLT, nLE, nEQ, nAdd, nMul, nPow, nSub, zLT, zLE, zNat, RRef0167, h6, h1, eye_lt_nat, decide_eq_false hi']
      refine hK _ _ ?_
      clear hK K
      refine awp_cond_k ?_
      intro X Y hX hY
      simp only [↓DN, UP, DF, qSh, qCv, qIA, qIx, qSl, qBu, qCe, qOn, reduceCtorEq, ↓reduceIte, nLT, nLE, nEQ, nAdd, nMul, nPow, nSub, zLT, zLE, zNat, RRef0167, DB]
      refine hY ?_
      clear hX hY X Y
      refine awp_exit ?_
      simp only [thenQ, blockQ, if_true]
      refine hK _ _ ?_
      clear hK hK2 K K2
      refine awp_reg_seq ?_
      intro K hK
      simp only [↓DN, UP, DF, qSh, qCv, qIA, qIx, qSl, qBu, qCe, qOn, reduceCtorEq, ↓reduceIte, nLT, nLE, nEQ, nAdd, nMul, nPow, nSub, zLT, zLE, zNat, RRef0167, h5]
      refine hK _ _ ?_
      clear hK K
      refine awp_ret ?_
      simp only [retQ, AEnds, aresL, ares, List.toList_toArray, ↓upd_same]; try simp only [↓DN, UP, DF, qSh, qCv, qIA, qIx, qSl, qBu, qCe, qOn, reduceCtorEq, ↓reduceIte, nLT, nLE, nEQ, nAdd, nMul, nPow, nSub, zLT, zLE, zNat, RRef0167, DT]
      obtain rfl : i = size := by omega
      exact ⟨_, _, AV.weak.refl _, AS.le.refl _, rfl, rfl⟩

theorem u64_len (n : Nat) (h : n < 2 ^ 63) : iconv .u64 (n : Int) = n := iconv_u64_nat n (by omega)

set_option maxHeartbeats 400000 in
theorem refText_calls (l : List UInt8) (size : Nat) (hl : l.length < 2 ^ 61) (hs : size ≤ 8) (s : AS) :
    ACalls Try.prog Γ 65 [.v (.string ⟨l.toArray⟩), .v (.int .i64 size)] s (fun r s' => r = .v (.string ⟨(be size l.length ++ l).toArray⟩) ∧ s' = s) := by
  refine acalls_body Try.func65 rfl Try.ntmps65 Try.results65 (by simp) ?_
  refine awp_reg_seq ?_
  intro K hK
  simp only [↓DN, UP, DF, qSh, qCv, qIA, qIx, qSl, qBu, qCe, qOn, reduceCtorEq, ↓reduceIte, nLT, nLE, nEQ, nAdd, nMul, nPow, nSub, zLT, zLE, zNat, RRef0165]
  refine hK _ _ ?_
  clear hK K
  refine awp_reg_seq ?_
  intro K hK
  simp only [↓DN, UP, DF, qSh, qCv, qIA, qIx, qSl, qBu, qCe, qOn, reduceCtorEq, ↓reduceIte, nLT, nLE, nEQ, nAdd, nMul, nPow, nSub, zLT, zLE, zNat, RRef0165, bs_size, u64_len l.length (by omega)]
  refine acallk (refNumber_calls l.length size (by omega) hs s) ?_
  rintro r s' ⟨rfl, rfl⟩
  simp only [↓AXq_nil, ↓AXq_cons, pval, DX, Nat.reduceBEq, ↓DN, UP, DF, qSh, qCv, qIA, qIx, qSl, qBu, qCe, qOn, reduceCtorEq, ↓reduceIte, nLT, nLE, nEQ, nAdd, nMul, nPow, nSub, zLT, zLE, zNat, RRef0165, bs_size, bs_append, length_be, i64_room (show size + l.length < 2 ^ 62 by omega)]
  refine hK _ _ ?_
  clear hK K
  refine awp_ret ?_
  simp only [retQ, AEnds, aresL, ares, List.toList_toArray, ↓upd_same]; try simp only [↓DN, UP, DF, qSh, qCv, qIA, qIx, qSl, qBu, qCe, qOn, reduceCtorEq, ↓reduceIte, nLT, nLE, nEQ, nAdd, nMul, nPow, nSub, zLT, zLE, zNat, RRef0165, DT]
  exact ⟨_, _, AV.weak.refl _, AS.le.refl _, rfl, rfl⟩

end Go.Proofs.Ytcnilmidfhpckaa


set_option autoImplicit false
namespace Go.Proofs.Ytcnilmidfhpckaa
open Go Go.AM Go.Proofs



variable {Γ : Nat → List AV}



theorem open_set (l : List UInt8) (s : AS) (hl : l.length ≤ 2 ^ 45) : ACalls Try.prog Γ 55 [bytesV l .any] s (fun r s' => ∃ p, s.objs p = none ∧ r = .ptr p 0 ∧ s' = s.set p (eyeC (l, 0))) := EyeS.open (open_calls l s hl)
theorem eyeU8_set (s : AS) (p : Nat) (st : EyeSt) (h : s.objs p = some (eyeC st)) : ACalls Try.prog Γ 56 [.ptr p 0] s (fun r s' => r = .v (.int .i64 (eyeNum 1 st).1) ∧ s' = s.set p (eyeC (eyeNum 1 st).2)) := EyeS.call (eyeU8_calls _ s p st (EyeS.at h))
theorem eyeU64_set (s : AS) (p : Nat) (st : EyeSt) (h : s.objs p = some (eyeC st)) : ACalls Try.prog Γ 59 [.ptr p 0] s (fun r s' => r = .v (.int .u64 (eyeNum 8 st).1) ∧ s' = s.set p (eyeC (eyeNum 8 st).2)) := EyeS.call (eyeU64_calls _ s p st (EyeS.at h))
theorem eyeShort_set (s : AS) (p : Nat) (st : EyeSt) (most : Int) (hl : st.1.length ≤ 2 ^ 45) (h : s.objs p = some (eyeC st)) : ACalls Try.prog Γ 58 [.ptr p 0, .v (.int .i64 most)] s (fun r s' => r = bytesV (eyeText 1 most st).1 .any ∧ s' = s.set p (eyeC (eyeText 1 most st).2)) := EyeS.call (eyeShort_calls _ s p st most hl (EyeS.at h))
theorem eyeLong_set (s : AS) (p : Nat) (st : EyeSt) (most : Int) (hl : st.1.length ≤ 2 ^ 45) (h : s.objs p = some (eyeC st)) : ACalls Try.prog Γ 110 [.ptr p 0, .v (.int .i64 most)] s (fun r s' => r = bytesV (eyeText 2 most st).1 .any ∧ s' = s.set p (eyeC (eyeText 2 most st).2)) := EyeS.call (eyeLong_calls _ s p st most hl (EyeS.at h))
theorem eyeFail_set (s : AS) (p : Nat) (st : EyeSt) (e : Int) (h : s.objs p = some (eyeC st)) : ACalls Try.prog Γ 57 [.ptr p 0, .v (.int .i64 e)] s (fun r s' => r = .tup [] ∧ s' = s.set p (eyeC (st.1, if st.2 = 0 then e else st.2))) := EyeS.call (eyeFail_calls _ s p st e (EyeS.at h))
theorem eyeEnd_at (s : AS) (p : Nat) (st : EyeSt) (h : s.objs p = some (eyeC st)) : ACalls Try.prog Γ 64 [.ptr p 0] s (fun r s' => r = .v (.int .i64 (eyeEnd st)) ∧ s' = s) := eyeEnd_calls _ s p st (EyeS.at h)
theorem eyeErr_at (s : AS) (p : Nat) (st : EyeSt) (h : s.objs p = some (eyeC st)) : ACalls Try.prog Γ 62 [.ptr p 0] s (fun r s' => r = .v (.int .i64 st.2) ∧ s' = s) := eyeErr_calls _ s p st (EyeS.at h)
end Go.Proofs.Ytcnilmidfhpckaa


set_option autoImplicit false
namespace Go.AM
open Go

/-! ### What is written is read back; and what is cut off is too short -/
theorem take_be {k n : Nat} (m : List UInt8) : (be k n ++ m).take k = be k n := by
  rw [List.take_append_of_le_length (by simp), List.take_of_length_le (by simp)]
theorem drop_be {k n : Nat} (m : List UInt8) : (be k n ++ m).drop k = m := by
  rw [List.drop_append_of_le_length (by simp), List.drop_eq_nil_of_le (by simp)]; rfl
theorem eyeNum_be {k n : Nat} {rest : List UInt8} (h : n < 256 ^ k) : eyeNum k (be k n ++ rest, 0) = (n, rest, 0) := by
  rw [eyeNum_ok (by simp), take_be, drop_be, beNat_be k n h]
theorem eyeText_be {k : Nat} {m rest : List UInt8} {most : Int} (h : m.length < 256 ^ k) (hm : (m.length : Int) ≤ most) : eyeText k most (be k m.length ++ m ++ rest, 0) = (m, rest, 0) := by
  unfold eyeText
  rw [List.append_assoc, eyeNum_be h]
  refine (if_pos rfl).trans ((if_neg (by simp only; omega)).trans ((if_neg (by simp)).trans ?_))
  simp only
  rw [eyeNext_ok (by simp), List.take_left, List.drop_left]
end Go.AM


set_option autoImplicit false
namespace Go.AM
open Go

/-! ### Slices of whole numbers; nodes -/
def intC (n : Int) : AV := .v (.int .i64 n)
def intsV (l : List Int) (sp : Sp) : AV := .sl 1 l.length (l.map intC) sp
structure NodeV where
  kind : Int
  name : List UInt8
  key : Nat
  parent : List UInt8
  unm : List Int
  deriving DecidableEq
def NodeV.cells (n : NodeV) : List AV := [.v (.int .i64 n.kind), bytesV n.name .any, .v (.int .u64 n.key), bytesV n.parent .any, intsV n.unm .any]
def NodeV.nought : NodeV := ⟨0, [], 0, [], []⟩

def okAt (l : List Int) (i : Nat) : Prop := 0 ≤ l.getD i 0 ∧ l.getD i 0 < 32 ∧ (0 < i → l.getD (i - 1) 0 < l.getD i 0)
instance decOkAt (l : List Int) (i : Nat) : Decidable (okAt l i) := by unfold okAt; infer_instance
def Rising (l : List Int) : Prop := ∀ i, i < l.length → okAt l i
instance decRising (l : List Int) : Decidable (Rising l) := by unfold Rising; infer_instance
def NodeV.held (N : NodeV) : Prop := 2 ≤ N.key ∧ N.key ≤ 2305843009213693949 ∧ (N.parent.length = 0 ∨ N.parent.length = 32)
instance decNodeHeld (N : NodeV) : Decidable N.held := by unfold NodeV.held; infer_instance
def NodeV.right (N : NodeV) : Prop :=
  if N.kind = 0 then N = NodeV.nought
  else if N.kind = 1 then (1 ≤ N.name.length ∧ N.name.length ≤ 16 ∧ N.held ∧ N.unm.length = 0)
  else if N.kind = 2 then (N.name.length = 0 ∧ N.held ∧ Rising N.unm)
  else False
instance decNodeRight (N : NodeV) : Decidable N.right := by unfold NodeV.right; infer_instance
theorem right_one {N : NodeV} (h : N.kind = 1) : N.right ↔ (1 ≤ N.name.length ∧ N.name.length ≤ 16 ∧ N.held ∧ N.unm.length = 0) := by unfold NodeV.right; rw [if_neg (by omega), if_pos h]
theorem right_two {N : NodeV} (h : N.kind = 2) : N.right ↔ (N.name.length = 0 ∧ N.held ∧ Rising N.unm) := by unfold NodeV.right; rw [if_neg (by omega), if_neg (by omega), if_pos h]
end Go.AM


set_option autoImplicit false
namespace Go.Proofs.Ytcnilmidfhpckaa
open Go Go.AM Go.Proofs

theorem RNode199 : type_of% (And.intro (And.intro (And.intro @Try.underlying42 T.c42) (And.intro T.g42 (And.intro T.b42 T.z42))) Try.ntmps99) :=
  (And.intro (And.intro (And.intro @Try.underlying42 T.c42) (And.intro T.g42 (And.intro T.b42 T.z42))) Try.ntmps99)
theorem RNode154 : type_of% (And.intro (And.intro (And.intro @Try.underlying42 T.c42) (And.intro T.g42 (And.intro T.b42 T.z42))) Try.ntmps54) :=
  (And.intro (And.intro (And.intro @Try.underlying42 T.c42) (And.intro T.g42 (And.intro T.b42 T.z42))) Try.ntmps54)
variable {Γ : Nat → List AV}



set_option maxHeartbeats 400000 in
theorem powerRight_calls (n : Nat) (s : AS) : ACalls Try.prog Γ 99 [.v (.int .u64 n)] s (fun r s' => r = .v (.bool (decide (2 ≤ (n : Int)) && decide ((n : Int) ≤ 2305843009213693949))) ∧ s' = s) := by
  refine acalls_body Try.func99 rfl Try.ntmps99 Try.results99 (by simp) ?_
  rcases ff2 (decide (2 ≤ (n : Int))) (decide ((n : Int) ≤ 2305843009213693949)) with hd | hd | hd
  all_goals
    refine awp_reg_seq ?_
    intro K hK
    simp only [↓DN, UP, DF, qSh, qCv, qIA, qIx, qSl, qBu, qCe, qOn, reduceCtorEq, ↓reduceIte, nLT, nLE, nEQ, nAdd, nMul, nPow, nSub, zLT, zLE, zNat, RNode199]
    refine hK _ _ ?_
    clear hK K
    refine awp_reg_seq ?_
    intro K hK
    simp only [↓DN, UP, DF, qSh, qCv, qIA, qIx, qSl, qBu, qCe, qOn, reduceCtorEq, ↓reduceIte, nLT, nLE, nEQ, nAdd, nMul, nPow, nSub, zLT, zLE, zNat, RNode199, hd]
    refine hK _ _ ?_
    clear hK K
    refine awp_ret ?_
    simp only [retQ, AEnds, aresL, ares, List.toList_toArray, ↓upd_same]; try simp only [↓DN, UP, DF, qSh, qCv, qIA, qIx, qSl, qBu, qCe, qOn, reduceCtorEq, ↓reduceIte, nLT, nLE, nEQ, nAdd, nMul, nPow, nSub, zLT, zLE, zNat, RNode199, DT]
    refine ⟨_, _, AV.weak.refl _, AS.le.refl _, ?_, rfl⟩
    simp only [hd, Bool.and_true, Bool.true_and, Bool.false_and, Bool.and_false]

set_option maxHeartbeats 400000 in
theorem refRight07_calls (n : Nat) (s : AS) : ACalls Try.prog Γ 54 [.v (.int .u64 n)] s (fun r s' => r = .v (.bool (decide (2 ≤ (n : Int)) && decide ((n : Int) ≤ 2305843009213693949))) ∧ s' = s) := by
  refine acalls_body Try.func54 rfl Try.ntmps54 Try.results54 (by simp) ?_
  rcases ff2 (decide (2 ≤ (n : Int))) (decide ((n : Int) ≤ 2305843009213693949)) with hd | hd | hd
  all_goals
    refine awp_reg_seq ?_
    intro K hK
    simp only [↓DN, UP, DF, qSh, qCv, qIA, qIx, qSl, qBu, qCe, qOn, reduceCtorEq, ↓reduceIte, nLT, nLE, nEQ, nAdd, nMul, nPow, nSub, zLT, zLE, zNat, RNode154]
    refine hK _ _ ?_
    clear hK K
    refine awp_reg_seq ?_
    intro K hK
    simp only [↓DN, UP, DF, qSh, qCv, qIA, qIx, qSl, qBu, qCe, qOn, reduceCtorEq, ↓reduceIte, nLT, nLE, nEQ, nAdd, nMul, nPow, nSub, zLT, zLE, zNat, RNode154, hd]
    refine hK _ _ ?_
    clear hK K
    refine awp_ret ?_
    simp only [retQ, AEnds, aresL, ares, List.toList_toArray, ↓upd_same]; try simp only [↓DN, UP, DF, qSh, qCv, qIA, qIx, qSl, qBu, qCe, qOn, reduceCtorEq, ↓reduceIte, nLT, nLE, nEQ, nAdd, nMul, nPow, nSub, zLT, zLE, zNat, RNode154, DT]
    refine ⟨_, _, AV.weak.refl _, AS.le.refl _, ?_, rfl⟩
    simp only [hd, Bool.and_true, Bool.true_and, Bool.false_and, Bool.and_false]

end Go.Proofs.Ytcnilmidfhpckaa


set_option autoImplicit false
namespace Go.AM
open Go

/-! ### Parts that are written or read -/
structure PartV where
  kind : Int
  n : Int
  b : List UInt8
def PartV.cells (p : PartV) : List AV := [.v (.int .i64 p.kind), .v (.int .i64 p.n), bytesV p.b .any]
def partsC (ps : List PartV) : List AV := (ps.map PartV.cells).flatten

theorem IsTy.parts {avs : List AV} (h : IsTy (.slice 3 (.struct (.cons tyI (.cons tyI (.cons tyB .nil))))) avs) : ∃ ps : List PartV, avs = [.sl 3 ps.length (partsC ps) .any] := by
  obtain ⟨els, rfl, _, hall⟩ := IsTy.rows h
  have key : ∀ els : List (List AV), (∀ el ∈ els, el.length = 3 ∧ IsTy (.struct (.cons tyI (.cons tyI (.cons tyB .nil)))) el) → ∃ ps : List PartV, els = ps.map PartV.cells := by
    intro els
    induction els with
    | nil => intro _; exact ⟨[], rfl⟩
    | cons e els ih =>
      intro h
      obtain ⟨ps, rfl⟩ := ih (fun el hel => h el (by simp [hel]))
      obtain ⟨_, h1⟩ := h e (by simp)
      obtain ⟨x1, y1, rfl, t1, h1⟩ := isF_cons (isTy_struct h1)
      obtain ⟨x2, y2, rfl, t2, h1⟩ := isF_cons h1
      obtain ⟨x3, y3, rfl, t3, h1⟩ := isF_cons h1
      obtain rfl := isF_nil h1
      obtain ⟨n1, rfl, _⟩ := isTy_int t1
      obtain ⟨n2, rfl, _⟩ := isTy_int t2
      obtain ⟨l3, rfl, _⟩ := t3.bytes
      exact ⟨⟨n1, n2, l3⟩ :: ps, rfl⟩
  obtain ⟨ps, rfl⟩ := key els hall
  exact ⟨ps, by simp [partsC]⟩

end Go.AM


set_option autoImplicit false
namespace Go.AM
open Go

/-! ### Records -/
structure Rec where
  kind : Int
  group : List UInt8
  epoch : Int
  time : Int
  bucket : Int
  body : List UInt8
  tree : List UInt8
  script : List UInt8
  wrapped : List UInt8
  deriving DecidableEq

def Rec.cells (r : Rec) : List AV := [.v (.int .i64 r.kind), bytesV r.group .any, .v (.int .i64 r.epoch), .v (.int .i64 r.time), .v (.int .i64 r.bucket), bytesV r.body .any, bytesV r.tree .any, bytesV r.script .any, bytesV r.wrapped .any]
def Rec.nought : Rec := ⟨0, [], 0, 0, 0, [], [], [], []⟩

def Rec.right (r : Rec) : Prop :=
  1 ≤ r.kind ∧ r.kind ≤ 3 ∧ 1 ≤ r.group.length ∧ r.group.length ≤ 16 ∧ 0 ≤ r.epoch ∧ r.epoch ≤ 1048576 ∧ 0 ≤ r.time ∧ r.time ≤ 1099511627776 ∧ 0 ≤ r.bucket ∧ r.bucket ≤ 1099511627776 ∧ r.body.length ≤ 60000 ∧
    r.tree.length = (if r.kind = 3 then 0 else 32) ∧ r.script.length = (if r.kind = 3 then 0 else 32) ∧ r.wrapped.length = (if r.kind = 3 then 0 else 48)
instance (r : Rec) : Decidable r.right := by unfold Rec.right; infer_instance

def Rec.text (r : Rec) : List UInt8 :=
  be 1 r.kind.toNat ++ (be 1 r.group.length ++ r.group ++ (be 8 r.epoch.toNat ++ (be 8 r.time.toNat ++ (be 8 r.bucket.toNat ++
    (be 2 r.body.length ++ r.body ++ (be 1 r.tree.length ++ r.tree ++ (be 1 r.script.length ++ r.script ++ (be 1 r.wrapped.length ++ r.wrapped ++ []))))))))

theorem i64_back (x : Int) (h : 0 ≤ x) (k : x < 2 ^ 62) : iconv .i64 ((x.toNat : Nat) : Int) = x := by
  rw [i64_conv (by omega)]; omega

/-! What was read is written back. -/
end Go.AM


set_option autoImplicit false
namespace Go.AM
open Go

/-! ### Pens: octets put, whether bad or not -/
theorem penNum_raw (k n : Nat) (st : List UInt8 × Bool) : penNum k n st = penRaw (be k n) st := rfl
theorem penSmall_raw {k n : Nat} (h : n < 256 ^ k) (st : List UInt8 × Bool) : penSmall k (n : Int) st = penRaw (be k n) st := by
  have e : (256 : Nat) ^ k = 2 ^ (8 * k) := by rw [Nat.pow_mul]
  have hh : (n : Int) < 2 ^ (8 * k) := by
    rw [e] at h
    exact_mod_cast h
  unfold penSmall
  rw [if_pos ⟨by omega, hh⟩]
  simp only [Int.toNat_natCast, penNum_raw]
theorem penRaw_raw (a b : List UInt8) (st : List UInt8 × Bool) : penRaw a (penRaw b st) = penRaw (b ++ a) st := by
  unfold penRaw
  by_cases h : st.2 = true
  · simp [h]
  · simp [h]
theorem penText_raw {k : Nat} {m : List UInt8} (h : m.length < 256 ^ k) (st : List UInt8 × Bool) : penText k m st = penRaw (be k m.length ++ m) st := by
  unfold penText
  rw [penSmall_raw h, penRaw_raw]
theorem penRaw_nil (st : List UInt8 × Bool) : penRaw [] st = st := by
  unfold penRaw
  split
  · rfl
  · rename_i h
    obtain ⟨a, b⟩ := st
    simp at h
    simp [h]

/-! ### A node's octets, and back -/
def intsText (l : List Int) : List UInt8 := (l.map fun x => be 1 x.toNat).flatten
def NodeV.text (N : NodeV) : List UInt8 :=
  if N.kind = 0 then be 1 0
  else if N.kind = 1 then be 1 1 ++ (be 1 N.name.length ++ N.name) ++ be 8 N.key ++ (be 1 N.parent.length ++ N.parent)
  else be 1 2 ++ be 8 N.key ++ (be 1 N.parent.length ++ N.parent) ++ be 1 N.unm.length ++ intsText N.unm

theorem rising_at {l : List Int} (h : Rising l) : ∀ i, i < l.length → (i : Int) ≤ l.getD i 0
  | 0, k => (h 0 k).1
  | i + 1, k => by
    have := rising_at h i (by omega)
    have h3 := (h (i + 1) k).2.2 (by omega)
    simp only [Nat.add_sub_cancel] at h3
    omega
theorem rising_len {l : List Int} (h : Rising l) : l.length ≤ 32 := by
  by_cases k : l.length = 0
  · omega
  · have h1 := rising_at h (l.length - 1) (by omega)
    have h2 := (h (l.length - 1) (by omega)).2.1
    omega
theorem intsText_len : ∀ (l : List Int), (intsText l).length = l.length
  | [] => rfl
  | x :: l => by
    have := intsText_len l
    simp only [intsText, List.map_cons, List.flatten_cons, List.length_append, length_be, List.length_cons] at *
    omega
theorem node_kind {N : NodeV} (h : N.right) : N.kind = 0 ∨ N.kind = 1 ∨ N.kind = 2 := by
  unfold NodeV.right at h
  split at h
  · left; assumption
  · split at h
    · right; left; assumption
    · split at h
      · right; right; assumption
      · exact h.elim

theorem NodeV.text_len {N : NodeV} (h : N.right) : N.text.length ≤ 100 := by
  obtain ⟨k, m, y, p, u⟩ := N
  rcases node_kind h with hk | hk | hk
  · simp only at hk
    simp [NodeV.text, hk]
  · obtain ⟨h1, h2, ⟨h3, h4, h5⟩, h6⟩ := (right_one hk).1 h
    simp only at hk h1 h2 h3 h4 h5 h6
    simp [NodeV.text, hk]
    omega
  · obtain ⟨h1, ⟨h3, h4, h5⟩, h6⟩ := (right_two hk).1 h
    simp only at hk h1 h3 h4 h5 h6
    have hu := rising_len h6
    simp [NodeV.text, hk, intsText_len]
    omega

/-! ### A reader: an eye at p, the result at o2, the variable at o3 -/
structure RdS (s s1 : AS) (p o2 o3 : Nat) (ce z cs : List AV) : Prop where
  le : (s.drop p).le s1
  eye : s1.objs p = some ce
  res : s1.objs o2 = some z
  var : s1.objs o3 = some cs
  n2 : s.objs o2 = none
  n3 : s.objs o3 = none
  p2 : p ≠ o2
  p3 : p ≠ o3
  d : o2 ≠ o3
theorem AS.drop_objs_none {s : AS} {p o : Nat} (h : s.objs o = none) : (s.drop p).objs o = none := by
  simp only [AS.drop, upd]; split
  · rfl
  · exact h
theorem AS.drop_self (s : AS) (p : Nat) : (s.drop p).objs p = none := by simp [AS.drop]
theorem RdS.setEye {s s1 : AS} {p o2 o3 : Nat} {ce z cs : List AV} (h : RdS s s1 p o2 o3 ce z cs) (ce' : List AV) : RdS s (s1.set p ce') p o2 o3 ce' z cs :=
  ⟨AS.le_set h.le (AS.drop_self _ _) _, AS.set_objs_same _ _ _, by rw [AS.set_objs_ne _ h.p2.symm]; exact h.res, by rw [AS.set_objs_ne _ h.p3.symm]; exact h.var, h.n2, h.n3, h.p2, h.p3, h.d⟩
theorem RdS.setRes {s s1 : AS} {p o2 o3 : Nat} {ce z cs : List AV} (h : RdS s s1 p o2 o3 ce z cs) (z' : List AV) : RdS s (s1.set o2 z') p o2 o3 ce z' cs :=
  ⟨AS.le_set h.le (AS.drop_objs_none h.n2) _, by rw [AS.set_objs_ne _ h.p2]; exact h.eye, AS.set_objs_same _ _ _, by rw [AS.set_objs_ne _ h.d.symm]; exact h.var, h.n2, h.n3, h.p2, h.p3, h.d⟩
theorem RdS.setVar {s s1 : AS} {p o2 o3 : Nat} {ce z cs : List AV} (h : RdS s s1 p o2 o3 ce z cs) (cs' : List AV) : RdS s (s1.set o3 cs') p o2 o3 ce z cs' :=
  ⟨AS.le_set h.le (AS.drop_objs_none h.n3) _, by rw [AS.set_objs_ne _ h.p3]; exact h.eye, by rw [AS.set_objs_ne _ h.d]; exact h.res, AS.set_objs_same _ _ _, h.n2, h.n3, h.p2, h.p3, h.d⟩
theorem RdS.gain {s s1 : AS} {p o2 o3 : Nat} {ce z cs : List AV} (h : RdS s s1 p o2 o3 ce z cs) {t : Nat} (ht : s.own t = none) (e : Nat) : RdS s (s1.gain t e) p o2 o3 ce z cs :=
  ⟨AS.le_gain h.le (by simpa [AS.drop] using ht) e, h.eye, h.res, h.var, h.n2, h.n3, h.p2, h.p3, h.d⟩
theorem RdS.out {s s1 : AS} {p o2 o3 : Nat} {ce z cs : List AV} (h : RdS s s1 p o2 o3 ce z cs) : (s.set p ce).le s1 := AS.set_le_of h.le h.eye
theorem RdS.own_none {s s1 : AS} {p o2 o3 : Nat} {ce z cs : List AV} (h : RdS s s1 p o2 o3 ce z cs) {t : Nat} (ht : s1.own t = none) : s.own t = none := by
  cases h0 : s.own t with
  | none => rfl
  | some e =>
    have := h.le.own t e (by simpa [AS.drop] using h0)
    rw [ht] at this
    cases this
/-- A slice of whole numbers that grows. -/
def IBuf (s0 s : AS) (x : AV) (l : List Int) : Prop := (x = nilS ∧ l = []) ∨ ∃ t e, x = intsV l (.own t e) ∧ s.own t = some e ∧ s0.own t = none
theorem IBuf.weak {s0 s : AS} {x : AV} {l : List Int} (h : IBuf s0 s x l) : x.weak (intsV l .any) := by
  rcases h with ⟨rfl, rfl⟩ | ⟨t, e, rfl, _, _⟩
  · exact AV.weak_nil
  · exact AV.weak_any
end Go.AM


set_option autoImplicit false
namespace Go.AM
open Go

/-! ### Rows of cells that stand for a list -/
def rowC {α : Type} (c : α → List AV) (l : List α) : List AV := (l.map c).flatten
theorem row_at {α : Type} {c : α → List AV} {k : Nat} (hk : ∀ a, (c a).length = k) {l : List α} {i : Nat} (h : i < l.length) : List.take k (List.drop (i * k) (rowC c l)) = c l[i] := by
  have := flatten_at (sz := k) (els := l.map c) (i := i) (by simpa using h) (by
    intro el hel
    obtain ⟨p, _, rfl⟩ := List.mem_map.1 hel
    exact hk p)
  unfold rowC
  rw [this]
  simp
theorem row_snoc {α : Type} {c : α → List AV} (l : List α) (a : α) : rowC c (l ++ [a]) = rowC c l ++ c a := by simp [rowC]
theorem IsTy.row {α : Type} {c : α → List AV} {ty : Ty} {k : Nat} {Q : α → Prop} (hel : ∀ el, IsTy ty el → ∃ a, el = c a ∧ Q a) {avs : List AV} (h : IsTy (.slice k ty) avs) :
    ∃ l : List α, avs = [.sl k l.length (rowC c l) .any] ∧ (∀ a ∈ l, Q a) ∧ l.length ≤ maxLen := by
  obtain ⟨els, rfl, hlen, hall⟩ := IsTy.rows h
  have key : ∀ els : List (List AV), (∀ el ∈ els, el.length = k ∧ IsTy ty el) → ∃ l : List α, els = l.map c ∧ ∀ a ∈ l, Q a := by
    intro els
    induction els with
    | nil => intro _; exact ⟨[], rfl, by simp⟩
    | cons e els ih =>
      intro h
      obtain ⟨l, rfl, hl⟩ := ih (fun el hel => h el (by simp [hel]))
      obtain ⟨_, h1⟩ := h e (by simp)
      obtain ⟨a, rfl, ha⟩ := hel e h1
      refine ⟨a :: l, rfl, ?_⟩
      intro b hb
      rcases List.mem_cons.1 hb with rfl | hb
      · exact ha
      · exact hl b hb
  obtain ⟨l, rfl, hl⟩ := key els hall
  exact ⟨l, by simp [rowC], hl, by simpa using hlen⟩

/-! ### Commits -/
def Pub (n : Nat) : Prop := 2 ≤ n ∧ n ≤ 2305843009213693949
instance (n : Nat) : Decidable (Pub n) := by unfold Pub; infer_instance
structure PropV where
  kind : Int
  leaf : Int
  name : List UInt8
  key : Nat
  init : Nat
  deriving DecidableEq
structure SealV where
  frm : Nat
  text : List UInt8
  deriving DecidableEq
structure StepV where
  key : Nat
  seals : List SealV
  deriving DecidableEq
structure PathV where
  key : Nat
  parent : List UInt8
  steps : List StepV
  deriving DecidableEq
structure CommitV where
  group : List UInt8
  epoch : Int
  sender : Int
  props : List PropV
  hasPath : Bool
  path : PathV
  confirm : List UInt8
  member : List UInt8
  deriving DecidableEq
def PropV.cells (p : PropV) : List AV := [.v (.int .i64 p.kind), .v (.int .i64 p.leaf), bytesV p.name .any, .v (.int .u64 p.key), .v (.int .u64 p.init)]
def SealV.cells (p : SealV) : List AV := [.v (.int .u64 p.frm), bytesV p.text .any]
def StepV.cells (p : StepV) : List AV := [.v (.int .u64 p.key), .sl 2 p.seals.length (rowC SealV.cells p.seals) .any]
def PathV.cells (p : PathV) : List AV := [.v (.int .u64 p.key), bytesV p.parent .any, .sl 2 p.steps.length (rowC StepV.cells p.steps) .any]
def CommitV.cells (c : CommitV) : List AV :=
  [bytesV c.group .any, .v (.int .i64 c.epoch), .v (.int .i64 c.sender), .sl 5 c.props.length (rowC PropV.cells c.props) .any, .v (.bool c.hasPath),
   .v (.int .u64 c.path.key), bytesV c.path.parent .any, .sl 2 c.path.steps.length (rowC StepV.cells c.path.steps) .any, bytesV c.confirm .any, bytesV c.member .any]

/-! what fits -/
def PropV.wf (p : PropV) : Prop := p.key < 2 ^ 64 ∧ p.init < 2 ^ 64
def SealV.wf (p : SealV) : Prop := p.frm < 2 ^ 64
def StepV.wf (p : StepV) : Prop := p.key < 2 ^ 64 ∧ (∀ x ∈ p.seals, x.wf) ∧ p.seals.length ≤ maxLen
def PathV.wf (p : PathV) : Prop := p.key < 2 ^ 64 ∧ (∀ x ∈ p.steps, x.wf) ∧ p.steps.length ≤ maxLen
def CommitV.wf (c : CommitV) : Prop := (∀ x ∈ c.props, x.wf) ∧ c.path.wf ∧ c.props.length ≤ maxLen

abbrev tyU : Ty := .int .u64
abbrev tyProp : Ty := .struct (.cons tyI (.cons tyI (.cons tyB (.cons tyU (.cons tyU .nil)))))
abbrev tySeal : Ty := .struct (.cons tyU (.cons tyB .nil))
abbrev tyStep : Ty := .struct (.cons tyU (.cons (.slice 2 tySeal) .nil))
abbrev tyPath : Ty := .struct (.cons tyU (.cons tyB (.cons (.slice 2 tyStep) .nil)))
abbrev tyCommit : Ty := .struct (.cons tyB (.cons tyI (.cons tyI (.cons (.slice 5 tyProp) (.cons .bool (.cons tyPath (.cons tyB (.cons tyB .nil))))))))

theorem isTy_u64 {x : List AV} (h : IsTy tyU x) : ∃ n : Nat, x = [.v (.int .u64 n)] ∧ n < 2 ^ 64 := by
  obtain ⟨a, rfl, ha⟩ := isTy_int h
  obtain ⟨n, rfl, hn⟩ := nat_u64 ha
  exact ⟨n, rfl, hn⟩
theorem IsTy.prop {x : List AV} (h : IsTy tyProp x) : ∃ p : PropV, x = p.cells ∧ p.wf := by
  obtain ⟨x1, y1, rfl, t1, h⟩ := isF_cons (isTy_struct h)
  obtain ⟨x2, y2, rfl, t2, h⟩ := isF_cons h
  obtain ⟨x3, y3, rfl, t3, h⟩ := isF_cons h
  obtain ⟨x4, y4, rfl, t4, h⟩ := isF_cons h
  obtain ⟨x5, y5, rfl, t5, h⟩ := isF_cons h
  obtain rfl := isF_nil h
  obtain ⟨n1, rfl, _⟩ := isTy_int t1
  obtain ⟨n2, rfl, _⟩ := isTy_int t2
  obtain ⟨l3, rfl, _⟩ := t3.bytes
  obtain ⟨n4, rfl, h4⟩ := isTy_u64 t4
  obtain ⟨n5, rfl, h5⟩ := isTy_u64 t5
  exact ⟨⟨n1, n2, l3, n4, n5⟩, rfl, h4, h5⟩
theorem IsTy.sealV {x : List AV} (h : IsTy tySeal x) : ∃ p : SealV, x = p.cells ∧ p.wf := by
  obtain ⟨x1, y1, rfl, t1, h⟩ := isF_cons (isTy_struct h)
  obtain ⟨x2, y2, rfl, t2, h⟩ := isF_cons h
  obtain rfl := isF_nil h
  obtain ⟨n1, rfl, h1⟩ := isTy_u64 t1
  obtain ⟨l2, rfl, _⟩ := t2.bytes
  exact ⟨⟨n1, l2⟩, rfl, h1⟩
theorem IsTy.stepV {x : List AV} (h : IsTy tyStep x) : ∃ p : StepV, x = p.cells ∧ p.wf := by
  obtain ⟨x1, y1, rfl, t1, h⟩ := isF_cons (isTy_struct h)
  obtain ⟨x2, y2, rfl, t2, h⟩ := isF_cons h
  obtain rfl := isF_nil h
  obtain ⟨n1, rfl, h1⟩ := isTy_u64 t1
  obtain ⟨l, rfl, hl, hm⟩ := IsTy.row (c := SealV.cells) (Q := SealV.wf) (fun el h => IsTy.sealV h) t2
  exact ⟨⟨n1, l⟩, rfl, h1, hl, hm⟩
theorem IsTy.pathV {x : List AV} (h : IsTy tyPath x) : ∃ p : PathV, x = p.cells ∧ p.wf := by
  obtain ⟨x1, y1, rfl, t1, h⟩ := isF_cons (isTy_struct h)
  obtain ⟨x2, y2, rfl, t2, h⟩ := isF_cons h
  obtain ⟨x3, y3, rfl, t3, h⟩ := isF_cons h
  obtain rfl := isF_nil h
  obtain ⟨n1, rfl, h1⟩ := isTy_u64 t1
  obtain ⟨l2, rfl, _⟩ := t2.bytes
  obtain ⟨l, rfl, hl, hm⟩ := IsTy.row (c := StepV.cells) (Q := StepV.wf) (fun el h => IsTy.stepV h) t3
  exact ⟨⟨n1, l2, l⟩, rfl, h1, hl, hm⟩
theorem IsTy.commit {x : List AV} (h : IsTy tyCommit x) : ∃ c : CommitV, x = c.cells ∧ c.wf := by
  obtain ⟨x1, y1, rfl, t1, h⟩ := isF_cons (isTy_struct h)
  obtain ⟨x2, y2, rfl, t2, h⟩ := isF_cons h
  obtain ⟨x3, y3, rfl, t3, h⟩ := isF_cons h
  obtain ⟨x4, y4, rfl, t4, h⟩ := isF_cons h
  obtain ⟨x5, y5, rfl, t5, h⟩ := isF_cons h
  obtain ⟨x6, y6, rfl, t6, h⟩ := isF_cons h
  obtain ⟨x7, y7, rfl, t7, h⟩ := isF_cons h
  obtain ⟨x8, y8, rfl, t8, h⟩ := isF_cons h
  obtain rfl := isF_nil h
  obtain ⟨l1, rfl, _⟩ := t1.bytes
  obtain ⟨n2, rfl, _⟩ := isTy_int t2
  obtain ⟨n3, rfl, _⟩ := isTy_int t3
  obtain ⟨l4, rfl, h4, m4⟩ := IsTy.row (c := PropV.cells) (Q := PropV.wf) (fun el h => IsTy.prop h) t4
  obtain ⟨b5, rfl⟩ : ∃ b, x5 = [.v (.bool b)] := t5
  obtain ⟨p6, rfl, h6⟩ := IsTy.pathV t6
  obtain ⟨l7, rfl, _⟩ := t7.bytes
  obtain ⟨l8, rfl, _⟩ := t8.bytes
  exact ⟨⟨l1, n2, n3, l4, b5, p6, l7, l8⟩, rfl, h4, h6, m4⟩

/-! what is right -/
def PropV.right (p : PropV) : Prop :=
  (p.kind = 1 ∧ p.leaf = 0 ∧ 1 ≤ p.name.length ∧ p.name.length ≤ 16 ∧ Pub p.key ∧ Pub p.init) ∨
  (p.kind = 2 ∧ 0 ≤ p.leaf ∧ p.leaf < 32 ∧ p.name.length = 0 ∧ Pub p.key ∧ p.init = 0) ∨
  (p.kind = 3 ∧ 0 ≤ p.leaf ∧ p.leaf < 32 ∧ p.name.length = 0 ∧ p.key = 0 ∧ p.init = 0)
def SealV.right (p : SealV) : Prop := Pub p.frm ∧ p.text.length = 48
def StepV.right (p : StepV) : Prop := (∀ x ∈ p.seals, x.right) ∧ Pub p.key ∧ p.seals.length ≤ 32
def PathV.right (p : PathV) : Prop := (∀ x ∈ p.steps, x.right) ∧ Pub p.key ∧ (p.parent.length = 0 ∨ p.parent.length = 32) ∧ p.steps.length ≤ 5
def PathV.none (p : PathV) : Prop := p.key = 0 ∧ p.parent.length = 0 ∧ p.steps.length = 0
def CommitV.pathed (c : CommitV) : Prop := (c.hasPath = true → c.path.right) ∧ (c.hasPath = false → c.path.none)
def CommitV.right (c : CommitV) : Prop :=
  (∀ x ∈ c.props, x.right) ∧ (1 ≤ c.group.length ∧ c.group.length ≤ 16) ∧ (0 ≤ c.epoch ∧ c.epoch ≤ 1048576) ∧ (0 ≤ c.sender ∧ c.sender < 32) ∧ c.props.length ≤ 16 ∧ c.pathed ∧ c.confirm.length = 32 ∧ c.member.length = 32
instance (p : PropV) : Decidable p.right := by unfold PropV.right; infer_instance
instance (p : SealV) : Decidable p.right := by unfold SealV.right; infer_instance
instance (p : StepV) : Decidable p.right := by unfold StepV.right; infer_instance
instance (p : PathV) : Decidable p.right := by unfold PathV.right; infer_instance
instance (p : PathV) : Decidable p.none := by unfold PathV.none; infer_instance
instance (c : CommitV) : Decidable c.pathed := by unfold CommitV.pathed; infer_instance
instance (c : CommitV) : Decidable c.right := by unfold CommitV.right; infer_instance

end Go.AM


