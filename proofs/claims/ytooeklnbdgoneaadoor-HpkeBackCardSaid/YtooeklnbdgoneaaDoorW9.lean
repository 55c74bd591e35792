/- Contracts of the program's functions, each walked once; the conditions stand in each theorem. -/
import Derived.Test.YtooeklnbdgoneaaDoorAMp6
import Derived.Test.YtooeklnbdgoneaaDoorW5
import Derived.Test.YtooeklnbdgoneaaDoorW7
import Derived.Test.YtooeklnbdgoneaaDoorW8
import Derived.Test.YtooeklnbdgoneaaDoorW6
import Derived.Test.YtooeklnbdgoneaaDoorW4
import Derived.Test.YtooeklnbdgoneaaDoorAMp4
import Derived.Test.YtooeklnbdgoneaaDoorAMp5
set_option linter.unusedSimpArgs false
set_option linter.unusedVariables false
open Nat renaming reduceLT → nLT, reduceLeDiff → nLE, reduceEqDiff → nEQ, reduceAdd → nAdd, reduceMul → nMul, reducePow → nPow, reduceSub → nSub
open Int renaming reduceLT → zLT, reduceLE → zLE, reduceToNat → zNat
open Go.AM renaming ashift → qSh, aconv → qCv, aindexAddr → qIA, aindex → qIx, aslice → qSl, abuiltin → qBu
open Go.AM.AV renaming cells → qCe, one → qOn
set_option autoImplicit false
namespace Go.Proofs.YtooeklnbdgoneaaDoor
open Go Go.AM Go.Proofs

theorem RPower125 : type_of% (And.intro (And.intro (And.intro @Tryd.underlying41 T.c41) (And.intro T.g41 (And.intro T.b41 T.z41))) Tryd.ntmps125) :=
  (And.intro (And.intro (And.intro @Tryd.underlying41 T.c41) (And.intro T.g41 (And.intro T.b41 T.z41))) Tryd.ntmps125)
theorem RPower124 : type_of% (And.intro (And.intro (And.intro @Tryd.underlying41 T.c41) (And.intro T.g41 (And.intro T.b41 T.z41))) Tryd.ntmps124) :=
  (And.intro (And.intro (And.intro @Tryd.underlying41 T.c41) (And.intro T.g41 (And.intro T.b41 T.z41))) Tryd.ntmps124)
theorem RPower113 : type_of% (And.intro (And.intro (And.intro @Tryd.underlying41 (And.intro T.c41 T.g41)) (And.intro (And.intro T.b41 T.z41) (And.intro T.k125 T.k124))) Tryd.ntmps113) :=
  (And.intro (And.intro (And.intro @Tryd.underlying41 (And.intro T.c41 T.g41)) (And.intro (And.intro T.b41 T.z41) (And.intro T.k125 T.k124))) Tryd.ntmps113)
theorem RPower91 : type_of% (And.intro (And.intro (And.intro @Tryd.underlying41 (And.intro T.c41 T.g41)) (And.intro T.b41 (And.intro T.z41 T.k113))) Tryd.ntmps91) :=
  (And.intro (And.intro (And.intro @Tryd.underlying41 (And.intro T.c41 T.g41)) (And.intro T.b41 (And.intro T.z41 T.k113))) Tryd.ntmps91)

variable {Γ : Nat → List AV}

set_option maxHeartbeats 400000 in
theorem fold_calls (n : Nat) (hn : n < 2 ^ 64) (s : AS) : ACalls Tryd.prog Γ 125 [.v (.int .u64 n)] s (fun r s' => r = .v (.int .u64 (n % PP : Nat)) ∧ s' = s) := by
  refine acalls_body Tryd.func125 rfl Tryd.ntmps125 Tryd.results125 (by simp) ?_
  refine awp_reg_seq ?_
  intro K hK
  simp only [↓DN, UP, DF, qSh, qCv, qIA, qIx, qSl, qBu, qCe, qOn, reduceCtorEq, ↓reduceIte, nLT, nLE, nEQ, nAdd, nMul, nPow, nSub, zLT, zLE, zNat, RPower125]
  refine hK _ _ ?_
  clear hK K
  refine awp_reg_seq ?_
  intro K hK
  simp only [↓DN, UP, DF, qSh, qCv, qIA, qIx, qSl, qBu, qCe, qOn, reduceCtorEq, ↓reduceIte, nLT, nLE, nEQ, nAdd, nMul, nPow, nSub, zLT, zLE, zNat, RPower125]
  refine hK _ _ ?_
  clear hK K
  refine awp_seq_k ?_
  intro K hK
  have hf := fold_plain n hn
  unfold foldRaw at hf
  simp only at hf
  refine awp_reg_seq ?_
  intro K hK
  simp only [↓DN, UP, DF, qSh, qCv, qIA, qIx, qSl, qBu, qCe, qOn, reduceCtorEq, ↓reduceIte, nLT, nLE, nEQ, nAdd, nMul, nPow, nSub, zLT, zLE, zNat, RPower125]
  refine hK _ _ ?_
  clear hK K
  by_cases hc : (2305843009213693951 : Int) ≤ iadd .u64 (iand .u64 n 2305843009213693951) (ishr .u64 n 61)
  · rw [if_pos hc] at hf
    refine awp_cond_k ?_
    intro X Y hX hY
    simp only [↓DN, UP, DF, qSh, qCv, qIA, qIx, qSl, qBu, qCe, qOn, reduceCtorEq, ↓reduceIte, nLT, nLE, nEQ, nAdd, nMul, nPow, nSub, zLT, zLE, zNat, RPower125, DB, hc]
    refine hX ?_
    clear hX hY X Y
    refine awp_reg_end ?_
    intro K hK
    simp only [↓DN, UP, DF, qSh, qCv, qIA, qIx, qSl, qBu, qCe, qOn, reduceCtorEq, ↓reduceIte, nLT, nLE, nEQ, nAdd, nMul, nPow, nSub, zLT, zLE, zNat, RPower125]
    refine hK _ _ ?_
    clear hK K
    refine hK _ _ ?_
    clear hK K
    refine awp_reg_seq ?_
    intro K hK
    simp only [↓DN, UP, DF, qSh, qCv, qIA, qIx, qSl, qBu, qCe, qOn, reduceCtorEq, ↓reduceIte, nLT, nLE, nEQ, nAdd, nMul, nPow, nSub, zLT, zLE, zNat, RPower125]
    refine hK _ _ ?_
    clear hK K
    refine awp_ret ?_
    simp only [retQ, AEnds, aresL, ares, List.toList_toArray, ↓upd_same]; try simp only [↓DN, UP, DF, qSh, qCv, qIA, qIx, qSl, qBu, qCe, qOn, reduceCtorEq, ↓reduceIte, nLT, nLE, nEQ, nAdd, nMul, nPow, nSub, zLT, zLE, zNat, RPower125, DT]
    exact ⟨_, _, AV.weak.refl _, AS.le.refl _, by rw [hf], rfl⟩
  · rw [if_neg hc] at hf
    refine awp_cond_k ?_
    intro X Y hX hY
    simp only [↓DN, UP, DF, qSh, qCv, qIA, qIx, qSl, qBu, qCe, qOn, reduceCtorEq, ↓reduceIte, nLT, nLE, nEQ, nAdd, nMul, nPow, nSub, zLT, zLE, zNat, RPower125, DB, hc]
    refine hY ?_
    clear hX hY X Y
    refine awp_skip ?_
    refine hK _ _ ?_
    clear hK K
    refine awp_reg_seq ?_
    intro K hK
    simp only [↓DN, UP, DF, qSh, qCv, qIA, qIx, qSl, qBu, qCe, qOn, reduceCtorEq, ↓reduceIte, nLT, nLE, nEQ, nAdd, nMul, nPow, nSub, zLT, zLE, zNat, RPower125]
    refine hK _ _ ?_
    clear hK K
    refine awp_ret ?_
    simp only [retQ, AEnds, aresL, ares, List.toList_toArray, ↓upd_same]; try simp only [↓DN, UP, DF, qSh, qCv, qIA, qIx, qSl, qBu, qCe, qOn, reduceCtorEq, ↓reduceIte, nLT, nLE, nEQ, nAdd, nMul, nPow, nSub, zLT, zLE, zNat, RPower125, DT]
    exact ⟨_, _, AV.weak.refl _, AS.le.refl _, by rw [hf], rfl⟩

set_option maxHeartbeats 800000 in
theorem mul64_calls (x y : Nat) (hx : x < 2 ^ 64) (hy : y < 2 ^ 64) (s : AS) : ACalls Tryd.prog Γ 124 [.v (.int .u64 x), .v (.int .u64 y)] s
    (fun r s' => r = .tup [.v (.int .u64 (x * y / 18446744073709551616 : Nat)), .v (.int .u64 (x * y % 18446744073709551616 : Nat))] ∧ s' = s) := by
  refine acalls_body Tryd.func124 rfl Tryd.ntmps124 Tryd.results124 (by simp) ?_
  refine awp_reg_seq ?_
  intro K hK
  simp only [↓DN, UP, DF, qSh, qCv, qIA, qIx, qSl, qBu, qCe, qOn, reduceCtorEq, ↓reduceIte, nLT, nLE, nEQ, nAdd, nMul, nPow, nSub, zLT, zLE, zNat, RPower124]
  refine hK _ _ ?_
  clear hK K
  refine awp_reg_seq ?_
  intro K hK
  simp only [↓DN, UP, DF, qSh, qCv, qIA, qIx, qSl, qBu, qCe, qOn, reduceCtorEq, ↓reduceIte, nLT, nLE, nEQ, nAdd, nMul, nPow, nSub, zLT, zLE, zNat, RPower124]
  refine hK _ _ ?_
  clear hK K
  refine awp_reg_seq ?_
  intro K hK
  simp only [↓DN, UP, DF, qSh, qCv, qIA, qIx, qSl, qBu, qCe, qOn, reduceCtorEq, ↓reduceIte, nLT, nLE, nEQ, nAdd, nMul, nPow, nSub, zLT, zLE, zNat, RPower124]
  refine hK _ _ ?_
  clear hK K
  refine awp_reg_seq ?_
  intro K hK
  simp only [↓DN, UP, DF, qSh, qCv, qIA, qIx, qSl, qBu, qCe, qOn, reduceCtorEq, ↓reduceIte, nLT, nLE, nEQ, nAdd, nMul, nPow, nSub, zLT, zLE, zNat, RPower124]
  refine hK _ _ ?_
  clear hK K
  refine awp_reg_seq ?_
  intro K hK
  simp only [↓DN, UP, DF, qSh, qCv, qIA, qIx, qSl, qBu, qCe, qOn, reduceCtorEq, ↓reduceIte, nLT, nLE, nEQ, nAdd, nMul, nPow, nSub, zLT, zLE, zNat, RPower124]
  refine hK _ _ ?_
  clear hK K
  refine awp_reg_seq ?_
  intro K hK
  simp only [↓DN, UP, DF, qSh, qCv, qIA, qIx, qSl, qBu, qCe, qOn, reduceCtorEq, ↓reduceIte, nLT, nLE, nEQ, nAdd, nMul, nPow, nSub, zLT, zLE, zNat, RPower124]
  refine hK _ _ ?_
  clear hK K
  refine awp_reg_seq ?_
  intro K hK
  simp only [↓DN, UP, DF, qSh, qCv, qIA, qIx, qSl, qBu, qCe, qOn, reduceCtorEq, ↓reduceIte, nLT, nLE, nEQ, nAdd, nMul, nPow, nSub, zLT, zLE, zNat, RPower124]
  refine hK _ _ ?_
  clear hK K
  refine awp_reg_seq ?_
  intro K hK
  simp only [↓DN, UP, DF, qSh, qCv, qIA, qIx, qSl, qBu, qCe, qOn, reduceCtorEq, ↓reduceIte, nLT, nLE, nEQ, nAdd, nMul, nPow, nSub, zLT, zLE, zNat, RPower124]
  refine hK _ _ ?_
  clear hK K
  refine awp_reg_seq ?_
  intro K hK
  simp only [↓DN, UP, DF, qSh, qCv, qIA, qIx, qSl, qBu, qCe, qOn, reduceCtorEq, ↓reduceIte, nLT, nLE, nEQ, nAdd, nMul, nPow, nSub, zLT, zLE, zNat, RPower124]
  refine hK _ _ ?_
  clear hK K
  refine awp_reg_seq ?_
  intro K hK
  simp only [↓DN, UP, DF, qSh, qCv, qIA, qIx, qSl, qBu, qCe, qOn, reduceCtorEq, ↓reduceIte, nLT, nLE, nEQ, nAdd, nMul, nPow, nSub, zLT, zLE, zNat, RPower124]
  refine hK _ _ ?_
  clear hK K
  refine awp_reg_seq ?_
  intro K hK
  simp only [↓DN, UP, DF, qSh, qCv, qIA, qIx, qSl, qBu, qCe, qOn, reduceCtorEq, ↓reduceIte, nLT, nLE, nEQ, nAdd, nMul, nPow, nSub, zLT, zLE, zNat, RPower124]
  refine hK _ _ ?_
  clear hK K
  refine awp_reg_seq ?_
  intro K hK
  simp only [↓DN, UP, DF, qSh, qCv, qIA, qIx, qSl, qBu, qCe, qOn, reduceCtorEq, ↓reduceIte, nLT, nLE, nEQ, nAdd, nMul, nPow, nSub, zLT, zLE, zNat, RPower124]
  refine hK _ _ ?_
  clear hK K
  refine awp_ret ?_
  simp only [retQ, AEnds, aresL, ares, List.toList_toArray, ↓upd_same]; try simp only [↓DN, UP, DF, qSh, qCv, qIA, qIx, qSl, qBu, qCe, qOn, reduceCtorEq, ↓reduceIte, nLT, nLE, nEQ, nAdd, nMul, nPow, nSub, zLT, zLE, zNat, RPower124, DT]
  refine ⟨_, _, AV.weak.refl _, AS.le.refl _, ?_, rfl⟩
  have x1 : x / 4294967296 < 4294967296 := by omega
  have y1 : y / 4294967296 < 4294967296 := by omega
  have x0 : x % 4294967296 < 4294967296 := by omega
  have y0 : y % 4294967296 < 4294967296 := by omega
  have b1 := mul_lt32 x1 y1
  have b2 := mul_lt32 x1 y0
  have b3 := mul_lt32 x0 y1
  have b4 := mul_lt32 x0 y0
  have key := mul64_hi _ _ _ _ x1 x0 y1 y0
  rw [show x / 4294967296 * 4294967296 + x % 4294967296 = x from by omega, show y / 4294967296 * 4294967296 + y % 4294967296 = y from by omega] at key
  rw [u64_and32 x hx, u64_and32 y hy, u64_shr32, u64_shr32, u64_mul _ _ (by omega : x % 4294967296 * (y % 4294967296) < 2 ^ 64), u64_mul _ _ (by omega : x / 4294967296 * (y % 4294967296) < 2 ^ 64),
    u64_mul _ _ (by omega : x % 4294967296 * (y / 4294967296) < 2 ^ 64), u64_mul _ _ (by omega : x / 4294967296 * (y / 4294967296) < 2 ^ 64), u64_mulw, u64_shr32]
  generalize x / 4294967296 * (y / 4294967296) = A at *
  generalize x / 4294967296 * (y % 4294967296) = B at *
  generalize x % 4294967296 * (y / 4294967296) = C at *
  generalize x % 4294967296 * (y % 4294967296) = D at *
  rw [u64_add _ _ (by omega : B + D / 4294967296 < 2 ^ 64), u64_and32 _ (by omega), u64_add _ _ (by omega : (B + D / 4294967296) % 4294967296 + C < 2 ^ 64), u64_shr32, u64_shr32, u64_add _ _ (by omega), u64_add _ _ (by omega), key]

set_option maxHeartbeats 400000 in
theorem mul_calls (a b : Nat) (ha : a < 2 ^ 64) (hb : b < 2 ^ 64) (s : AS) : ACalls Tryd.prog Γ 113 [.v (.int .u64 a), .v (.int .u64 b)] s (fun r s' => r = .v (.int .u64 (a * b % PP : Nat)) ∧ s' = s) := by
  refine acalls_body Tryd.func113 rfl Tryd.ntmps113 Tryd.results113 (by simp) ?_
  have l1 := mod_pp_lt a
  have l2 := mod_pp_lt b
  have l3 := pp_lt
  have l4 := mulPP_lt a b
  refine awp_reg_seq ?_
  intro K hK
  simp only [↓DN, UP, DF, qSh, qCv, qIA, qIx, qSl, qBu, qCe, qOn, reduceCtorEq, ↓reduceIte, nLT, nLE, nEQ, nAdd, nMul, nPow, nSub, zLT, zLE, zNat, RPower113]
  refine hK _ _ ?_
  clear hK K
  refine awp_reg_seq ?_
  intro K hK
  simp only [↓DN, UP, DF, qSh, qCv, qIA, qIx, qSl, qBu, qCe, qOn, reduceCtorEq, ↓reduceIte, nLT, nLE, nEQ, nAdd, nMul, nPow, nSub, zLT, zLE, zNat, RPower113]
  refine acallk (fold_calls a ha s) ?_
  rintro r s' ⟨rfl, rfl⟩
  simp only [↓AXq_nil, ↓AXq_cons, pval, DX, Nat.reduceBEq, ↓DN, UP, DF, qSh, qCv, qIA, qIx, qSl, qBu, qCe, qOn, reduceCtorEq, ↓reduceIte, nLT, nLE, nEQ, nAdd, nMul, nPow, nSub, zLT, zLE, zNat, RPower113]
  refine acallk (fold_calls b hb s') ?_
  rintro r s' ⟨rfl, rfl⟩
  simp only [↓AXq_nil, ↓AXq_cons, pval, DX, Nat.reduceBEq, ↓DN, UP, DF, qSh, qCv, qIA, qIx, qSl, qBu, qCe, qOn, reduceCtorEq, ↓reduceIte, nLT, nLE, nEQ, nAdd, nMul, nPow, nSub, zLT, zLE, zNat, RPower113]
  refine acallk (mul64_calls (a % PP) (b % PP) (by omega) (by omega) s') ?_
  rintro r s' ⟨rfl, rfl⟩
  simp only [↓AXq_nil, ↓AXq_cons, pval, DX, Nat.reduceBEq, ↓DN, UP, DF, qSh, qCv, qIA, qIx, qSl, qBu, qCe, qOn, reduceCtorEq, ↓reduceIte, nLT, nLE, nEQ, nAdd, nMul, nPow, nSub, zLT, zLE, zNat, RPower113]
  refine hK _ _ ?_
  clear hK K
  refine awp_reg_seq ?_
  intro K hK
  simp only [↓DN, UP, DF, qSh, qCv, qIA, qIx, qSl, qBu, qCe, qOn, reduceCtorEq, ↓reduceIte, nLT, nLE, nEQ, nAdd, nMul, nPow, nSub, zLT, zLE, zNat, RPower113, mul_sum _ l4]
  refine acallk (fold_calls (a % PP * (b % PP) % 2305843009213693952 + a % PP * (b % PP) / 2305843009213693952) (by omega) s') ?_
  rintro r s' ⟨rfl, rfl⟩
  simp only [↓AXq_nil, ↓AXq_cons, pval, DX, Nat.reduceBEq, ↓DN, UP, DF, qSh, qCv, qIA, qIx, qSl, qBu, qCe, qOn, reduceCtorEq, ↓reduceIte, nLT, nLE, nEQ, nAdd, nMul, nPow, nSub, zLT, zLE, zNat, RPower113]
  refine hK _ _ ?_
  clear hK K
  refine awp_ret ?_
  simp only [retQ, AEnds, aresL, ares, List.toList_toArray, ↓upd_same]; try simp only [↓DN, UP, DF, qSh, qCv, qIA, qIx, qSl, qBu, qCe, qOn, reduceCtorEq, ↓reduceIte, nLT, nLE, nEQ, nAdd, nMul, nPow, nSub, zLT, zLE, zNat, RPower113, DT]
  exact ⟨_, _, AV.weak.refl _, AS.le.refl _, by rw [split_mod, ← Nat.mul_mod], rfl⟩

set_option maxHeartbeats 400000 in
theorem pow_calls (a n : Nat) (ha : a < 2 ^ 64) (hn : n < 2 ^ 64) (s : AS) : ACalls Tryd.prog Γ 91 [.v (.int .u64 a), .v (.int .u64 n)] s (fun r s' => r = .v (.int .u64 (a ^ n % PP : Nat)) ∧ s' = s) := by
  refine acalls_body Tryd.func91 rfl Tryd.ntmps91 Tryd.results91 (by simp) ?_
  refine awp_reg_seq ?_
  intro K hK
  simp only [↓DN, UP, DF, qSh, qCv, qIA, qIx, qSl, qBu, qCe, qOn, reduceCtorEq, ↓reduceIte, nLT, nLE, nEQ, nAdd, nMul, nPow, nSub, zLT, zLE, zNat, RPower91]
  refine hK _ _ ?_
  clear hK K
  refine awp_reg_seq ?_
  intro K hK
  simp only [↓DN, UP, DF, qSh, qCv, qIA, qIx, qSl, qBu, qCe, qOn, reduceCtorEq, ↓reduceIte, nLT, nLE, nEQ, nAdd, nMul, nPow, nSub, zLT, zLE, zNat, RPower91]
  refine hK _ _ ?_
  clear hK K
  refine awp_seq_k ?_
  intro K hK
  refine awp_block ?_
  refine awp_loop (fun E s1 => ∃ o b m : Nat, E 5 = .v (.int .u64 o) ∧ E 0 = .v (.int .u64 b) ∧ E 1 = .v (.int .u64 m) ∧ o < PP ∧ b < 2 ^ 64 ∧ m < 2 ^ 64 ∧ o * b ^ m % PP = a ^ n % PP ∧ s1 = s)
    (fun E _ => match E 1 with | .v (.int _ i) => i.toNat | _ => 0) ?_ ?_
  · exact ⟨1, a, n, by simp [upd], by simp [upd, initE], by simp [upd, initE], by decide, ha, hn, by simp, rfl⟩
  · rintro E1 s1 ⟨o, b, m, h5, h0, h1, ho, hb, hm, hinv, rfl⟩ -
    have hPP : PP = 2305843009213693951 := rfl
    refine awp_seq_k ?_
    intro K2 hK2
    by_cases hm0 : m = 0
    · subst hm0
      refine awp_reg_seq ?_
      intro K hK
      simp only [↓DN, UP, DF, qSh, qCv, qIA, qIx, qSl, qBu, qCe, qOn, reduceCtorEq, ↓reduceIte, nLT, nLE, nEQ, nAdd, nMul, nPow, nSub, zLT, zLE, zNat, RPower91, h5, h0, h1, Int.natCast_zero, Int.lt_irrefl]
      refine hK _ _ ?_
      clear hK K
      refine awp_cond_k ?_
      intro X Y hX hY
      simp only [↓DN, UP, DF, qSh, qCv, qIA, qIx, qSl, qBu, qCe, qOn, reduceCtorEq, ↓reduceIte, nLT, nLE, nEQ, nAdd, nMul, nPow, nSub, zLT, zLE, zNat, RPower91, DB]
      refine hY ?_
      clear hX hY X Y
      refine awp_exit ?_
      simp only [thenQ, blockQ, if_true]
      refine hK _ _ ?_
      clear hK hK2 K K2
      refine awp_reg_seq ?_
      intro K hK
      simp only [↓DN, UP, DF, qSh, qCv, qIA, qIx, qSl, qBu, qCe, qOn, reduceCtorEq, ↓reduceIte, nLT, nLE, nEQ, nAdd, nMul, nPow, nSub, zLT, zLE, zNat, RPower91, h5]
      refine hK _ _ ?_
      clear hK K
      refine awp_ret ?_
      simp only [retQ, AEnds, aresL, ares, List.toList_toArray, ↓upd_same]; try simp only [↓DN, UP, DF, qSh, qCv, qIA, qIx, qSl, qBu, qCe, qOn, reduceCtorEq, ↓reduceIte, nLT, nLE, nEQ, nAdd, nMul, nPow, nSub, zLT, zLE, zNat, RPower91, DT]
      refine ⟨_, _, AV.weak.refl _, AS.le.refl _, ?_, rfl⟩
      rw [← hinv]
      simp [Nat.mod_eq_of_lt ho]
    · have hpos : (0 : Int) < m := by omega
      refine awp_reg_seq ?_
      intro K hK
      simp only [↓DN, UP, DF, qSh, qCv, qIA, qIx, qSl, qBu, qCe, qOn, reduceCtorEq, ↓reduceIte, nLT, nLE, nEQ, nAdd, nMul, nPow, nSub, zLT, zLE, zNat, RPower91, h5, h0, h1, hpos]
      refine hK _ _ ?_
      clear hK K
      refine awp_cond_k ?_
      intro X Y hX hY
      simp only [↓DN, UP, DF, qSh, qCv, qIA, qIx, qSl, qBu, qCe, qOn, reduceCtorEq, ↓reduceIte, nLT, nLE, nEQ, nAdd, nMul, nPow, nSub, zLT, zLE, zNat, RPower91, DB]
      refine hX ?_
      clear hX hY X Y
      refine awp_skip ?_
      refine hK2 _ _ ?_
      clear hK2 K2
      refine awp_seq_k ?_
      intro K3 hK3
      refine awp_block ?_
      refine awp_seq_k ?_
      intro K4 hK4
      have hand : iand .u64 (m : Int) 1 = ((m % 2 : Nat) : Int) := by
        have := iand_u (k := .u64) rfl m 1 hm (by decide)
        rw [Nat.and_one_is_mod] at this
        exact this
      have hshr : ishr .u64 (m : Int) 1 = ((m / 2 : Nat) : Int) := by
        have := ishr_u (k := .u64) m 1
        simpa [IntKind.bits] using this
      have hsq : ∀ (E2 : Env) (o2 : Nat), E2 5 = .v (.int .u64 o2) → E2 0 = .v (.int .u64 b) → E2 1 = .v (.int .u64 m) → o2 < PP → o2 * (b * b % PP) ^ (m / 2) % PP = a ^ n % PP → K4 E2 s1 := by
        intro E2 o2 e5 e0 e1 ho2 hinv2
        refine hK4 _ _ ?_
        clear hK4 K4
        refine awp_reg_end ?_
        intro K hK
        simp only [↓DN, UP, DF, qSh, qCv, qIA, qIx, qSl, qBu, qCe, qOn, reduceCtorEq, ↓reduceIte, nLT, nLE, nEQ, nAdd, nMul, nPow, nSub, zLT, zLE, zNat, RPower91, e0]
        refine acallk (mul_calls b b hb hb s1) ?_
        rintro r s' ⟨rfl, rfl⟩
        simp only [↓AXq_nil, ↓AXq_cons, pval, DX, Nat.reduceBEq, ↓DN, UP, DF, qSh, qCv, qIA, qIx, qSl, qBu, qCe, qOn, reduceCtorEq, ↓reduceIte, nLT, nLE, nEQ, nAdd, nMul, nPow, nSub, zLT, zLE, zNat, RPower91]
        refine hK _ _ ?_
        clear hK K
        refine hK3 _ _ ?_
        clear hK3 K3
        refine awp_reg_end ?_
        intro K hK
        simp only [↓DN, UP, DF, qSh, qCv, qIA, qIx, qSl, qBu, qCe, qOn, reduceCtorEq, ↓reduceIte, nLT, nLE, nEQ, nAdd, nMul, nPow, nSub, zLT, zLE, zNat, RPower91, e1, hshr]
        refine hK _ _ ?_
        clear hK K
        have hb2 : b * b % PP < PP := mod_pp_lt _
        refine ⟨⟨o2, b * b % PP, m / 2, by simp only [upd, e5, nEQ, ↓reduceIte], by simp only [upd, nEQ, ↓reduceIte], by simp only [upd, ↓reduceIte], ho2, by omega, by omega, hinv2, rfl⟩, ?_⟩
        simp only [h1, upd, ↓reduceIte]
        omega
      by_cases hodd : m % 2 = 1
      · refine awp_reg_seq ?_
        intro K hK
        simp only [↓DN, UP, DF, qSh, qCv, qIA, qIx, qSl, qBu, qCe, qOn, reduceCtorEq, ↓reduceIte, nLT, nLE, nEQ, nAdd, nMul, nPow, nSub, zLT, zLE, zNat, RPower91, h5, h0, h1, hand, hodd, Int.natCast_one]
        refine hK _ _ ?_
        clear hK K
        refine awp_cond_k ?_
        intro X Y hX hY
        simp only [↓DN, UP, DF, qSh, qCv, qIA, qIx, qSl, qBu, qCe, qOn, reduceCtorEq, ↓reduceIte, nLT, nLE, nEQ, nAdd, nMul, nPow, nSub, zLT, zLE, zNat, RPower91, DB]
        refine hX ?_
        clear hX hY X Y
        refine awp_reg_end ?_
        intro K hK
        simp only [↓DN, UP, DF, qSh, qCv, qIA, qIx, qSl, qBu, qCe, qOn, reduceCtorEq, ↓reduceIte, nLT, nLE, nEQ, nAdd, nMul, nPow, nSub, zLT, zLE, zNat, RPower91, h5, h0]
        refine acallk (mul_calls o b (by omega) hb s1) ?_
        rintro r s' ⟨rfl, rfl⟩
        simp only [↓AXq_nil, ↓AXq_cons, pval, DX, Nat.reduceBEq, ↓DN, UP, DF, qSh, qCv, qIA, qIx, qSl, qBu, qCe, qOn, reduceCtorEq, ↓reduceIte, nLT, nLE, nEQ, nAdd, nMul, nPow, nSub, zLT, zLE, zNat, RPower91]
        refine hK _ _ ?_
        clear hK K
        refine hsq _ (o * b % PP) (by simp only [upd, ↓reduceIte]) (by simp only [upd, h0, nEQ, ↓reduceIte]) (by simp only [upd, h1, nEQ, ↓reduceIte]) (mod_pp_lt _) ?_
        rw [← hinv]
        have e : b ^ m = b * (b * b) ^ (m / 2) := by
          have : m = 2 * (m / 2) + 1 := by omega
          conv => lhs; rw [this, Nat.pow_succ, Nat.pow_mul, Nat.pow_two, Nat.mul_comm]
        rw [e, ← Nat.mul_assoc, Nat.mul_mod, Nat.mod_mod, ← Nat.pow_mod, ← Nat.mul_mod]
      · have heven : m % 2 = 0 := by omega
        refine awp_reg_seq ?_
        intro K hK
        simp only [↓DN, UP, DF, qSh, qCv, qIA, qIx, qSl, qBu, qCe, qOn, reduceCtorEq, ↓reduceIte, nLT, nLE, nEQ, nAdd, nMul, nPow, nSub, zLT, zLE, zNat, RPower91, h5, h0, h1, hand, heven, Int.natCast_zero, Int.reduceBEq, Bool.false_eq_true]
        refine hK _ _ ?_
        clear hK K
        refine awp_cond_k ?_
        intro X Y hX hY
        simp only [↓DN, UP, DF, qSh, qCv, qIA, qIx, qSl, qBu, qCe, qOn, reduceCtorEq, ↓reduceIte, nLT, nLE, nEQ, nAdd, nMul, nPow, nSub, zLT, zLE, zNat, RPower91, DB]
        refine hY ?_
        clear hX hY X Y
        refine awp_skip ?_
        refine hsq _ o (by simp only [upd, h5, nEQ, ↓reduceIte]) (by simp only [upd, h0, nEQ, ↓reduceIte]) (by simp only [upd, h1, nEQ, ↓reduceIte]) ho ?_
        rw [← hinv]
        have e : b ^ m = (b * b) ^ (m / 2) := by
          have : m = 2 * (m / 2) := by omega
          conv => lhs; rw [this, Nat.pow_mul, Nat.pow_two]
        rw [e, Nat.mul_mod, ← Nat.pow_mod, ← Nat.mul_mod]

end Go.Proofs.YtooeklnbdgoneaaDoor


set_option autoImplicit false
namespace Go.Proofs.YtooeklnbdgoneaaDoor
open Go Go.AM Go.Proofs

theorem RRefPower96 : type_of% (And.intro (And.intro (And.intro @Tryd.underlying41 T.c41) (And.intro T.g41 (And.intro T.b41 T.z41))) Tryd.ntmps96) :=
  (And.intro (And.intro (And.intro @Tryd.underlying41 T.c41) (And.intro T.g41 (And.intro T.b41 T.z41))) Tryd.ntmps96)
theorem RRefPower68 : type_of% (And.intro (And.intro (And.intro @Tryd.underlying41 (And.intro T.c41 T.g41)) (And.intro T.b41 (And.intro T.z41 T.k96))) Tryd.ntmps68) :=
  (And.intro (And.intro (And.intro @Tryd.underlying41 (And.intro T.c41 T.g41)) (And.intro T.b41 (And.intro T.z41 T.k96))) Tryd.ntmps68)

variable {Γ : Nat → List AV}

theorem zero_one : ((0 : Int) == 1) = false := rfl
theorem u64_half (m : Nat) (hm : m < 2 ^ 64) : iquo .u64 (m : Int) 2 = ((m / 2 : Nat) : Int) := iquo_u rfl m 2 hm
theorem remPP (n : Nat) : irem (n : Int) 2305843009213693951 = ((n % PP : Nat) : Int) := irem_u n 2305843009213693951
theorem remTwo (n : Nat) : irem (n : Int) 2 = ((n % 2 : Nat) : Int) := irem_u n 2

set_option maxHeartbeats 400000 in
theorem refMul_calls (a b : Nat) (ha : a < 2 ^ 64) (hb : b < 2 ^ 64) (s : AS) : ACalls Tryd.prog Γ 96 [.v (.int .u64 a), .v (.int .u64 b)] s (fun r s' => r = .v (.int .u64 (a * b % PP : Nat)) ∧ s' = s) := by
  have hPP : PP = 2305843009213693951 := rfl
  refine acalls_body Tryd.func96 rfl Tryd.ntmps96 Tryd.results96 (by simp) ?_
  refine awp_reg_seq ?_
  intro K hK
  simp only [↓DN, UP, DF, qSh, qCv, qIA, qIx, qSl, qBu, qCe, qOn, reduceCtorEq, ↓reduceIte, nLT, nLE, nEQ, nAdd, nMul, nPow, nSub, zLT, zLE, zNat, RRefPower96]
  refine hK _ _ ?_
  clear hK K
  refine awp_reg_seq ?_
  intro K hK
  simp only [↓DN, UP, DF, qSh, qCv, qIA, qIx, qSl, qBu, qCe, qOn, reduceCtorEq, ↓reduceIte, nLT, nLE, nEQ, nAdd, nMul, nPow, nSub, zLT, zLE, zNat, RRefPower96, remPP]
  refine hK _ _ ?_
  clear hK K
  refine awp_reg_seq ?_
  intro K hK
  simp only [↓DN, UP, DF, qSh, qCv, qIA, qIx, qSl, qBu, qCe, qOn, reduceCtorEq, ↓reduceIte, nLT, nLE, nEQ, nAdd, nMul, nPow, nSub, zLT, zLE, zNat, RRefPower96, remPP]
  refine hK _ _ ?_
  clear hK K
  refine awp_reg_seq ?_
  intro K hK
  simp only [↓DN, UP, DF, qSh, qCv, qIA, qIx, qSl, qBu, qCe, qOn, reduceCtorEq, ↓reduceIte, nLT, nLE, nEQ, nAdd, nMul, nPow, nSub, zLT, zLE, zNat, RRefPower96]
  refine hK _ _ ?_
  clear hK K
  refine awp_seq_k ?_
  intro K hK
  refine awp_block ?_
  refine awp_loop (fun E s1 => ∃ o b' m : Nat, E 5 = .v (.int .u64 o) ∧ E 0 = .v (.int .u64 b') ∧ E 1 = .v (.int .u64 m) ∧ o < PP ∧ b' < PP ∧ m < 2 ^ 64 ∧ (o + b' * m) % PP = a * b % PP ∧ s1 = s)
    (fun E _ => match E 1 with | .v (.int _ i) => i.toNat | _ => 0) ?_ ?_
  · exact ⟨0, a % PP, b % PP, by simp [upd], by simp [upd], by simp [upd], by decide, mod_pp_lt _, by have := mod_pp_lt b; omega, by rw [Nat.zero_add, ← Nat.mul_mod], rfl⟩
  · rintro E1 s1 ⟨o, b', m, h5, h0, h1, ho, hb', hm, hinv, rfl⟩ -
    refine awp_seq_k ?_
    intro K2 hK2
    by_cases hm0 : m = 0
    · subst hm0
      refine awp_reg_seq ?_
      intro K hK
      simp only [↓DN, UP, DF, qSh, qCv, qIA, qIx, qSl, qBu, qCe, qOn, reduceCtorEq, ↓reduceIte, nLT, nLE, nEQ, nAdd, nMul, nPow, nSub, zLT, zLE, zNat, RRefPower96, h5, h0, h1, Int.natCast_zero, Int.lt_irrefl]
      refine hK _ _ ?_
      clear hK K
      refine awp_cond_k ?_
      intro X Y hX hY
      simp only [↓DN, UP, DF, qSh, qCv, qIA, qIx, qSl, qBu, qCe, qOn, reduceCtorEq, ↓reduceIte, nLT, nLE, nEQ, nAdd, nMul, nPow, nSub, zLT, zLE, zNat, RRefPower96, DB]
      refine hY ?_
      clear hX hY X Y
      refine awp_exit ?_
      simp only [thenQ, blockQ, if_true]
      refine hK _ _ ?_
      clear hK hK2 K K2
      refine awp_reg_seq ?_
      intro K hK
      simp only [↓DN, UP, DF, qSh, qCv, qIA, qIx, qSl, qBu, qCe, qOn, reduceCtorEq, ↓reduceIte, nLT, nLE, nEQ, nAdd, nMul, nPow, nSub, zLT, zLE, zNat, RRefPower96, h5]
      refine hK _ _ ?_
      clear hK K
      refine awp_ret ?_
      simp only [retQ, AEnds, aresL, ares, List.toList_toArray, ↓upd_same]; try simp only [↓DN, UP, DF, qSh, qCv, qIA, qIx, qSl, qBu, qCe, qOn, reduceCtorEq, ↓reduceIte, nLT, nLE, nEQ, nAdd, nMul, nPow, nSub, zLT, zLE, zNat, RRefPower96, DT]
      refine ⟨_, _, AV.weak.refl _, AS.le.refl _, ?_, rfl⟩
      rw [← hinv]
      simp [Nat.mod_eq_of_lt ho]
    · have hpos : (0 : Int) < m := by omega
      refine awp_reg_seq ?_
      intro K hK
      simp only [↓DN, UP, DF, qSh, qCv, qIA, qIx, qSl, qBu, qCe, qOn, reduceCtorEq, ↓reduceIte, nLT, nLE, nEQ, nAdd, nMul, nPow, nSub, zLT, zLE, zNat, RRefPower96, h5, h0, h1, hpos]
      refine hK _ _ ?_
      clear hK K
      refine awp_cond_k ?_
      intro X Y hX hY
      simp only [↓DN, UP, DF, qSh, qCv, qIA, qIx, qSl, qBu, qCe, qOn, reduceCtorEq, ↓reduceIte, nLT, nLE, nEQ, nAdd, nMul, nPow, nSub, zLT, zLE, zNat, RRefPower96, DB]
      refine hX ?_
      clear hX hY X Y
      refine awp_skip ?_
      refine hK2 _ _ ?_
      clear hK2 K2
      refine awp_block ?_
      refine awp_seq_k ?_
      intro K4 hK4
      have hsq : ∀ (E2 : Env) (o2 : Nat), E2 5 = .v (.int .u64 o2) → E2 0 = .v (.int .u64 b') → E2 1 = .v (.int .u64 m) → o2 < PP → (o2 + (b' + b') % PP * (m / 2)) % PP = a * b % PP → K4 E2 s1 := by
        intro E2 o2 e5 e0 e1 ho2 hinv2
        refine hK4 _ _ ?_
        clear hK4 K4
        refine awp_reg_seq ?_
        intro K hK
        simp only [↓DN, UP, DF, qSh, qCv, qIA, qIx, qSl, qBu, qCe, qOn, reduceCtorEq, ↓reduceIte, nLT, nLE, nEQ, nAdd, nMul, nPow, nSub, zLT, zLE, zNat, RRefPower96, e0, u64_add b' b' (by omega), remPP]
        refine hK _ _ ?_
        clear hK K
        refine awp_reg_end ?_
        intro K hK
        simp only [↓DN, UP, DF, qSh, qCv, qIA, qIx, qSl, qBu, qCe, qOn, reduceCtorEq, ↓reduceIte, nLT, nLE, nEQ, nAdd, nMul, nPow, nSub, zLT, zLE, zNat, RRefPower96, e1, u64_half m hm]
        refine hK _ _ ?_
        clear hK K
        have hb2 : (b' + b') % PP < PP := mod_pp_lt _
        refine ⟨⟨o2, (b' + b') % PP, m / 2, by simp only [upd, e5, nEQ, ↓reduceIte], by simp only [upd, nEQ, ↓reduceIte], by simp only [upd, ↓reduceIte], ho2, by omega, by omega, hinv2, rfl⟩, ?_⟩
        simp only [h1, upd, ↓reduceIte]
        omega
      by_cases hodd : m % 2 = 1
      · refine awp_reg_seq ?_
        intro K hK
        simp only [↓DN, UP, DF, qSh, qCv, qIA, qIx, qSl, qBu, qCe, qOn, reduceCtorEq, ↓reduceIte, nLT, nLE, nEQ, nAdd, nMul, nPow, nSub, zLT, zLE, zNat, RRefPower96, h5, h0, h1, remTwo, hodd, Int.natCast_one]
        refine hK _ _ ?_
        clear hK K
        refine awp_cond_k ?_
        intro X Y hX hY
        simp only [↓DN, UP, DF, qSh, qCv, qIA, qIx, qSl, qBu, qCe, qOn, reduceCtorEq, ↓reduceIte, nLT, nLE, nEQ, nAdd, nMul, nPow, nSub, zLT, zLE, zNat, RRefPower96, DB]
        refine hX ?_
        clear hX hY X Y
        refine awp_reg_end ?_
        intro K hK
        simp only [↓DN, UP, DF, qSh, qCv, qIA, qIx, qSl, qBu, qCe, qOn, reduceCtorEq, ↓reduceIte, nLT, nLE, nEQ, nAdd, nMul, nPow, nSub, zLT, zLE, zNat, RRefPower96, h5, h0, u64_add o b' (by omega), remPP]
        refine hK _ _ ?_
        clear hK K
        refine hsq _ ((o + b') % PP) (by simp only [upd, ↓reduceIte]) (by simp only [upd, h0, nEQ, ↓reduceIte]) (by simp only [upd, h1, nEQ, ↓reduceIte]) (mod_pp_lt _) ?_
        rw [← hinv]
        have e : b' * m = b' + (b' + b') * (m / 2) := by
          have : m = 2 * (m / 2) + 1 := by omega
          conv => lhs; rw [this]
          rw [Nat.mul_add, Nat.mul_one, ← Nat.mul_assoc, Nat.mul_two, Nat.add_comm]
        rw [e, ← Nat.add_assoc, Nat.add_mod, Nat.mod_mod, Nat.mod_mul_mod, ← Nat.add_mod]
      · have heven : m % 2 = 0 := by omega
        refine awp_reg_seq ?_
        intro K hK
        simp only [↓DN, UP, DF, qSh, qCv, qIA, qIx, qSl, qBu, qCe, qOn, reduceCtorEq, ↓reduceIte, nLT, nLE, nEQ, nAdd, nMul, nPow, nSub, zLT, zLE, zNat, RRefPower96, h5, h0, h1, remTwo, heven, Int.natCast_zero, zero_one]
        refine hK _ _ ?_
        clear hK K
        refine awp_cond_k ?_
        intro X Y hX hY
        simp only [↓DN, UP, DF, qSh, qCv, qIA, qIx, qSl, qBu, qCe, qOn, reduceCtorEq, ↓reduceIte, nLT, nLE, nEQ, nAdd, nMul, nPow, nSub, zLT, zLE, zNat, RRefPower96, DB, zero_one]
        refine hY ?_
        clear hX hY X Y
        refine awp_skip ?_
        refine hsq _ o (by simp only [upd, h5, nEQ, ↓reduceIte]) (by simp only [upd, h0, nEQ, ↓reduceIte]) (by simp only [upd, h1, nEQ, ↓reduceIte]) ho ?_
        rw [← hinv]
        have e : b' * m = (b' + b') * (m / 2) := by
          have : m = 2 * (m / 2) := by omega
          conv => lhs; rw [this]
          rw [← Nat.mul_assoc, Nat.mul_two]
        rw [e, Nat.add_mod, Nat.mod_mul_mod, ← Nat.add_mod]

set_option maxHeartbeats 400000 in
theorem refPow_calls (a n : Nat) (ha : a < 2 ^ 64) (hn : n < 2 ^ 64) (s : AS) : ACalls Tryd.prog Γ 68 [.v (.int .u64 a), .v (.int .u64 n)] s (fun r s' => r = .v (.int .u64 (a ^ n % PP : Nat)) ∧ s' = s) := by
  have hPP : PP = 2305843009213693951 := rfl
  refine acalls_body Tryd.func68 rfl Tryd.ntmps68 Tryd.results68 (by simp) ?_
  refine awp_reg_seq ?_
  intro K hK
  simp only [↓DN, UP, DF, qSh, qCv, qIA, qIx, qSl, qBu, qCe, qOn, reduceCtorEq, ↓reduceIte, nLT, nLE, nEQ, nAdd, nMul, nPow, nSub, zLT, zLE, zNat, RRefPower68]
  refine hK _ _ ?_
  clear hK K
  refine awp_reg_seq ?_
  intro K hK
  simp only [↓DN, UP, DF, qSh, qCv, qIA, qIx, qSl, qBu, qCe, qOn, reduceCtorEq, ↓reduceIte, nLT, nLE, nEQ, nAdd, nMul, nPow, nSub, zLT, zLE, zNat, RRefPower68]
  refine hK _ _ ?_
  clear hK K
  refine awp_reg_seq ?_
  intro K hK
  simp only [↓DN, UP, DF, qSh, qCv, qIA, qIx, qSl, qBu, qCe, qOn, reduceCtorEq, ↓reduceIte, nLT, nLE, nEQ, nAdd, nMul, nPow, nSub, zLT, zLE, zNat, RRefPower68, remPP]
  refine hK _ _ ?_
  clear hK K
  refine awp_seq_k ?_
  intro K hK
  refine awp_block ?_
  refine awp_loop (fun E s1 => ∃ o b m : Nat, E 5 = .v (.int .u64 o) ∧ E 0 = .v (.int .u64 b) ∧ E 1 = .v (.int .u64 m) ∧ o < PP ∧ b < 2 ^ 64 ∧ m < 2 ^ 64 ∧ o * b ^ m % PP = a ^ n % PP ∧ s1 = s)
    (fun E _ => match E 1 with | .v (.int _ i) => i.toNat | _ => 0) ?_ ?_
  · exact ⟨1, a % PP, n, by simp [upd], by simp [upd], by simp [upd, initE], by decide, by have := mod_pp_lt a; omega, hn, by rw [Nat.one_mul, ← Nat.pow_mod], rfl⟩
  · rintro E1 s1 ⟨o, b, m, h5, h0, h1, ho, hb, hm, hinv, rfl⟩ -
    refine awp_seq_k ?_
    intro K2 hK2
    by_cases hm0 : m = 0
    · subst hm0
      refine awp_reg_seq ?_
      intro K hK
      simp only [↓DN, UP, DF, qSh, qCv, qIA, qIx, qSl, qBu, qCe, qOn, reduceCtorEq, ↓reduceIte, nLT, nLE, nEQ, nAdd, nMul, nPow, nSub, zLT, zLE, zNat, RRefPower68, h5, h0, h1, Int.natCast_zero, Int.lt_irrefl]
      refine hK _ _ ?_
      clear hK K
      refine awp_cond_k ?_
      intro X Y hX hY
      simp only [↓DN, UP, DF, qSh, qCv, qIA, qIx, qSl, qBu, qCe, qOn, reduceCtorEq, ↓reduceIte, nLT, nLE, nEQ, nAdd, nMul, nPow, nSub, zLT, zLE, zNat, RRefPower68, DB]
      refine hY ?_
      clear hX hY X Y
      refine awp_exit ?_
      simp only [thenQ, blockQ, if_true]
      refine hK _ _ ?_
      clear hK hK2 K K2
      refine awp_reg_seq ?_
      intro K hK
      simp only [↓DN, UP, DF, qSh, qCv, qIA, qIx, qSl, qBu, qCe, qOn, reduceCtorEq, ↓reduceIte, nLT, nLE, nEQ, nAdd, nMul, nPow, nSub, zLT, zLE, zNat, RRefPower68, h5]
      refine hK _ _ ?_
      clear hK K
      refine awp_ret ?_
      simp only [retQ, AEnds, aresL, ares, List.toList_toArray, ↓upd_same]; try simp only [↓DN, UP, DF, qSh, qCv, qIA, qIx, qSl, qBu, qCe, qOn, reduceCtorEq, ↓reduceIte, nLT, nLE, nEQ, nAdd, nMul, nPow, nSub, zLT, zLE, zNat, RRefPower68, DT]
      refine ⟨_, _, AV.weak.refl _, AS.le.refl _, ?_, rfl⟩
      rw [← hinv]
      simp [Nat.mod_eq_of_lt ho]
    · have hpos : (0 : Int) < m := by omega
      refine awp_reg_seq ?_
      intro K hK
      simp only [↓DN, UP, DF, qSh, qCv, qIA, qIx, qSl, qBu, qCe, qOn, reduceCtorEq, ↓reduceIte, nLT, nLE, nEQ, nAdd, nMul, nPow, nSub, zLT, zLE, zNat, RRefPower68, h5, h0, h1, hpos]
      refine hK _ _ ?_
      clear hK K
      refine awp_cond_k ?_
      intro X Y hX hY
      simp only [↓DN, UP, DF, qSh, qCv, qIA, qIx, qSl, qBu, qCe, qOn, reduceCtorEq, ↓reduceIte, nLT, nLE, nEQ, nAdd, nMul, nPow, nSub, zLT, zLE, zNat, RRefPower68, DB]
      refine hX ?_
      clear hX hY X Y
      refine awp_skip ?_
      refine hK2 _ _ ?_
      clear hK2 K2
      refine awp_block ?_
      refine awp_seq_k ?_
      intro K4 hK4
      have hsq : ∀ (E2 : Env) (o2 : Nat), E2 5 = .v (.int .u64 o2) → E2 0 = .v (.int .u64 b) → E2 1 = .v (.int .u64 m) → o2 < PP → o2 * (b * b % PP) ^ (m / 2) % PP = a ^ n % PP → K4 E2 s1 := by
        intro E2 o2 e5 e0 e1 ho2 hinv2
        refine hK4 _ _ ?_
        clear hK4 K4
        refine awp_reg_seq ?_
        intro K hK
        simp only [↓DN, UP, DF, qSh, qCv, qIA, qIx, qSl, qBu, qCe, qOn, reduceCtorEq, ↓reduceIte, nLT, nLE, nEQ, nAdd, nMul, nPow, nSub, zLT, zLE, zNat, RRefPower68, e0]
        refine acallk (refMul_calls b b hb hb s1) ?_
        rintro r s' ⟨rfl, rfl⟩
        simp only [↓AXq_nil, ↓AXq_cons, pval, DX, Nat.reduceBEq, ↓DN, UP, DF, qSh, qCv, qIA, qIx, qSl, qBu, qCe, qOn, reduceCtorEq, ↓reduceIte, nLT, nLE, nEQ, nAdd, nMul, nPow, nSub, zLT, zLE, zNat, RRefPower68]
        refine hK _ _ ?_
        clear hK K
        refine awp_reg_end ?_
        intro K hK
        simp only [↓DN, UP, DF, qSh, qCv, qIA, qIx, qSl, qBu, qCe, qOn, reduceCtorEq, ↓reduceIte, nLT, nLE, nEQ, nAdd, nMul, nPow, nSub, zLT, zLE, zNat, RRefPower68, e1, u64_half m hm]
        refine hK _ _ ?_
        clear hK K
        have hb2 : b * b % PP < PP := mod_pp_lt _
        refine ⟨⟨o2, b * b % PP, m / 2, by simp only [upd, e5, nEQ, ↓reduceIte], by simp only [upd, nEQ, ↓reduceIte], by simp only [upd, ↓reduceIte], ho2, by omega, by omega, hinv2, rfl⟩, ?_⟩
        simp only [h1, upd, ↓reduceIte]
        omega
      by_cases hodd : m % 2 = 1
      · refine awp_reg_seq ?_
        intro K hK
        simp only [↓DN, UP, DF, qSh, qCv, qIA, qIx, qSl, qBu, qCe, qOn, reduceCtorEq, ↓reduceIte, nLT, nLE, nEQ, nAdd, nMul, nPow, nSub, zLT, zLE, zNat, RRefPower68, h5, h0, h1, remTwo, hodd, Int.natCast_one]
        refine hK _ _ ?_
        clear hK K
        refine awp_cond_k ?_
        intro X Y hX hY
        simp only [↓DN, UP, DF, qSh, qCv, qIA, qIx, qSl, qBu, qCe, qOn, reduceCtorEq, ↓reduceIte, nLT, nLE, nEQ, nAdd, nMul, nPow, nSub, zLT, zLE, zNat, RRefPower68, DB]
        refine hX ?_
        clear hX hY X Y
        refine awp_reg_end ?_
        intro K hK
        simp only [↓DN, UP, DF, qSh, qCv, qIA, qIx, qSl, qBu, qCe, qOn, reduceCtorEq, ↓reduceIte, nLT, nLE, nEQ, nAdd, nMul, nPow, nSub, zLT, zLE, zNat, RRefPower68, h5, h0]
        refine acallk (refMul_calls o b (by omega) hb s1) ?_
        rintro r s' ⟨rfl, rfl⟩
        simp only [↓AXq_nil, ↓AXq_cons, pval, DX, Nat.reduceBEq, ↓DN, UP, DF, qSh, qCv, qIA, qIx, qSl, qBu, qCe, qOn, reduceCtorEq, ↓reduceIte, nLT, nLE, nEQ, nAdd, nMul, nPow, nSub, zLT, zLE, zNat, RRefPower68]
        refine hK _ _ ?_
        clear hK K
        refine hsq _ (o * b % PP) (by simp only [upd, ↓reduceIte]) (by simp only [upd, h0, nEQ, ↓reduceIte]) (by simp only [upd, h1, nEQ, ↓reduceIte]) (mod_pp_lt _) ?_
        rw [← hinv]
        have e : b ^ m = b * (b * b) ^ (m / 2) := by
          have : m = 2 * (m / 2) + 1 := by omega
          conv => lhs; rw [this, Nat.pow_succ, Nat.pow_mul, Nat.pow_two, Nat.mul_comm]
        rw [e, ← Nat.mul_assoc, Nat.mul_mod, Nat.mod_mod, ← Nat.pow_mod, ← Nat.mul_mod]
      · have heven : m % 2 = 0 := by omega
        refine awp_reg_seq ?_
        intro K hK
        simp only [↓DN, UP, DF, qSh, qCv, qIA, qIx, qSl, qBu, qCe, qOn, reduceCtorEq, ↓reduceIte, nLT, nLE, nEQ, nAdd, nMul, nPow, nSub, zLT, zLE, zNat, RRefPower68, h5, h0, h1, remTwo, heven, Int.natCast_zero, zero_one]
        refine hK _ _ ?_
        clear hK K
        refine awp_cond_k ?_
        intro X Y hX hY
        simp only [↓DN, UP, DF, qSh, qCv, qIA, qIx, qSl, qBu, qCe, qOn, reduceCtorEq, ↓reduceIte, nLT, nLE, nEQ, nAdd, nMul, nPow, nSub, zLT, zLE, zNat, RRefPower68, DB, zero_one]
        refine hY ?_
        clear hX hY X Y
        refine awp_skip ?_
        refine hsq _ o (by simp only [upd, h5, nEQ, ↓reduceIte]) (by simp only [upd, h0, nEQ, ↓reduceIte]) (by simp only [upd, h1, nEQ, ↓reduceIte]) ho ?_
        rw [← hinv]
        have e : b ^ m = (b * b) ^ (m / 2) := by
          have : m = 2 * (m / 2) := by omega
          conv => lhs; rw [this, Nat.pow_mul, Nat.pow_two]
        rw [e, Nat.mul_mod, ← Nat.pow_mod, ← Nat.mul_mod]

end Go.Proofs.YtooeklnbdgoneaaDoor


set_option autoImplicit false
namespace Go.Proofs.YtooeklnbdgoneaaDoor
open Go Go.AM Go.Proofs

theorem RPow193 : type_of% (And.intro (And.intro (And.intro (And.intro (And.intro @Tryd.underlying4 (And.intro T.c4 T.g4)) (And.intro (And.intro T.b4 T.z4) (And.intro @Tryd.underlying22 T.c22))) (And.intro (And.intro (And.intro T.g22 T.b22) (And.intro T.z22 T.s22)) (And.intro (And.intro @Tryd.underlying41 T.c41) (And.intro T.g41 T.b41)))) (And.intro (And.intro (And.intro (And.intro T.z41 @Tryd.underlying61) (And.intro T.c61 T.g61)) (And.intro (And.intro T.b61 T.z61) (And.intro T.p61 @Tryd.underlying105))) (And.intro (And.intro (And.intro T.c105 T.g105) (And.intro T.b105 T.z105)) (And.intro (And.intro T.h105 T.k34) (And.intro T.k57 T.k36))))) Tryd.ntmps93) :=
  (And.intro (And.intro (And.intro (And.intro (And.intro @Tryd.underlying4 (And.intro T.c4 T.g4)) (And.intro (And.intro T.b4 T.z4) (And.intro @Tryd.underlying22 T.c22))) (And.intro (And.intro (And.intro T.g22 T.b22) (And.intro T.z22 T.s22)) (And.intro (And.intro @Tryd.underlying41 T.c41) (And.intro T.g41 T.b41)))) (And.intro (And.intro (And.intro (And.intro T.z41 @Tryd.underlying61) (And.intro T.c61 T.g61)) (And.intro (And.intro T.b61 T.z61) (And.intro T.p61 @Tryd.underlying105))) (And.intro (And.intro (And.intro T.c105 T.g105) (And.intro T.b105 T.z105)) (And.intro (And.intro T.h105 T.k34) (And.intro T.k57 T.k36))))) Tryd.ntmps93)
theorem RPow161 : type_of% (And.intro (And.intro (And.intro (And.intro (And.intro (And.intro @Tryd.underlying3 T.c3) (And.intro T.g3 (And.intro T.b3 T.z3))) (And.intro (And.intro @Tryd.underlying5 (And.intro T.c5 T.g5)) (And.intro T.b5 (And.intro T.z5 @Tryd.underlying9)))) (And.intro (And.intro (And.intro T.c9 (And.intro T.g9 T.b9)) (And.intro T.z9 (And.intro @Tryd.underlying22 T.c22))) (And.intro (And.intro T.g22 (And.intro T.b22 T.z22)) (And.intro T.s22 (And.intro @Tryd.underlying30 T.c30))))) (And.intro (And.intro (And.intro (And.intro T.g30 T.b30) (And.intro T.z30 (And.intro @Tryd.underlying41 T.c41))) (And.intro (And.intro T.g41 (And.intro T.b41 T.z41)) (And.intro @Tryd.underlying66 (And.intro T.c66 T.g66)))) (And.intro (And.intro (And.intro T.b66 (And.intro T.z66 T.p66)) (And.intro @Tryd.underlying108 (And.intro T.c108 T.g108))) (And.intro (And.intro T.b108 (And.intro T.z108 T.h108)) (And.intro T.k81 (And.intro T.k37 T.k71)))))) Tryd.ntmps61) :=
  (And.intro (And.intro (And.intro (And.intro (And.intro (And.intro @Tryd.underlying3 T.c3) (And.intro T.g3 (And.intro T.b3 T.z3))) (And.intro (And.intro @Tryd.underlying5 (And.intro T.c5 T.g5)) (And.intro T.b5 (And.intro T.z5 @Tryd.underlying9)))) (And.intro (And.intro (And.intro T.c9 (And.intro T.g9 T.b9)) (And.intro T.z9 (And.intro @Tryd.underlying22 T.c22))) (And.intro (And.intro T.g22 (And.intro T.b22 T.z22)) (And.intro T.s22 (And.intro @Tryd.underlying30 T.c30))))) (And.intro (And.intro (And.intro (And.intro T.g30 T.b30) (And.intro T.z30 (And.intro @Tryd.underlying41 T.c41))) (And.intro (And.intro T.g41 (And.intro T.b41 T.z41)) (And.intro @Tryd.underlying66 (And.intro T.c66 T.g66)))) (And.intro (And.intro (And.intro T.b66 (And.intro T.z66 T.p66)) (And.intro @Tryd.underlying108 (And.intro T.c108 T.g108))) (And.intro (And.intro T.b108 (And.intro T.z108 T.h108)) (And.intro T.k81 (And.intro T.k37 T.k71)))))) Tryd.ntmps61)
theorem RPow131 : type_of% (And.intro (And.intro (And.intro (And.intro (And.intro @Tryd.underlying3 T.c3) (And.intro T.g3 T.b3)) (And.intro (And.intro T.z3 @Tryd.underlying9) (And.intro T.c9 T.g9))) (And.intro (And.intro (And.intro T.b9 T.z9) (And.intro @Tryd.underlying41 T.c41)) (And.intro (And.intro T.g41 T.b41) (And.intro T.z41 (And.intro T.k67 T.k53))))) Tryd.ntmps31) :=
  (And.intro (And.intro (And.intro (And.intro (And.intro @Tryd.underlying3 T.c3) (And.intro T.g3 T.b3)) (And.intro (And.intro T.z3 @Tryd.underlying9) (And.intro T.c9 T.g9))) (And.intro (And.intro (And.intro T.b9 T.z9) (And.intro @Tryd.underlying41 T.c41)) (And.intro (And.intro T.g41 T.b41) (And.intro T.z41 (And.intro T.k67 T.k53))))) Tryd.ntmps31)
theorem RPow162 : type_of% (And.intro (And.intro (And.intro @Tryd.underlying41 (And.intro T.c41 T.g41)) (And.intro T.b41 (And.intro T.z41 T.k91))) Tryd.ntmps62) :=
  (And.intro (And.intro (And.intro @Tryd.underlying41 (And.intro T.c41 T.g41)) (And.intro T.b41 (And.intro T.z41 T.k91))) Tryd.ntmps62)
theorem RPow132 : type_of% (And.intro (And.intro (And.intro @Tryd.underlying41 (And.intro T.c41 T.g41)) (And.intro T.b41 (And.intro T.z41 T.k68))) Tryd.ntmps32) :=
  (And.intro (And.intro (And.intro @Tryd.underlying41 (And.intro T.c41 T.g41)) (And.intro T.b41 (And.intro T.z41 T.k68))) Tryd.ntmps32)
theorem RPow164 : type_of% (And.intro (And.intro (And.intro @Tryd.underlying41 (And.intro T.c41 T.g41)) (And.intro (And.intro T.b41 T.z41) (And.intro T.k91 T.k93))) Tryd.ntmps64) :=
  (And.intro (And.intro (And.intro @Tryd.underlying41 (And.intro T.c41 T.g41)) (And.intro (And.intro T.b41 T.z41) (And.intro T.k91 T.k93))) Tryd.ntmps64)
variable {Γ : Nat → List AV}



def keyW : List UInt8 := [107, 101, 121]
def powKey (x : List UInt8) : Nat := 1 + beNat (Kdf.label x keyW [] 8) % 2305843009213693949
theorem key_fits : Kdf.fits keyW [] 8 = true := by decide
theorem key_label_len (x : List UInt8) : (Kdf.label x keyW [] 8).length = 8 := by
  rw [Kdf.label, key_fits, if_pos rfl]
  exact Kdf.expand_len _ _ _
theorem powKey_lt (x : List UInt8) : powKey x < 2305843009213693950 := by unfold powKey; omega
theorem powKey_pos (x : List UInt8) : 1 ≤ powKey x := by unfold powKey; omega
theorem one_add_rem (n : Nat) : iadd .u64 1 (irem (n : Int) 2305843009213693949) = ((1 + n % 2305843009213693949 : Nat) : Int) := by
  have h : irem (n : Int) 2305843009213693949 = ((n % 2305843009213693949 : Nat) : Int) := irem_u n 2305843009213693949
  rw [h]
  exact u64_add 1 _ (by omega)
theorem eye8 (l : List UInt8) (h : l.length = 8) : (eyeNum 8 (l, 0)).1 = beNat l := by
  have e : List.take 8 l = l := List.take_of_length_le (by omega)
  simp [eyeNum, eyeNext, h, e]

set_option maxHeartbeats 400000 in
theorem powOctets_calls (n : Nat) (hn : n < 2 ^ 64) (s : AS) : ACalls Tryd.prog Γ 93 [.v (.int .u64 n)] s (fun r s' => r = bytesV (be 8 n) .any ∧ s' = s) := by
  refine acalls_body Tryd.func93 rfl Tryd.ntmps93 Tryd.results93 (by simp) ?_
  refine awp_reg_seq ?_
  intro K hK
  simp only [↓DN, UP, DF, qSh, qCv, qIA, qIx, qSl, qBu, qCe, qOn, reduceCtorEq, ↓reduceIte, nLT, nLE, nEQ, nAdd, nMul, nPow, nSub, zLT, zLE, zNat, RPow193]
  refine hK _ _ ?_
  clear hK K
  refine awp_reg_seq ?_
  intro K hK
  simp only [↓DN, UP, DF, qSh, qCv, qIA, qIx, qSl, qBu, qCe, qOn, reduceCtorEq, ↓reduceIte, nLT, nLE, nEQ, nAdd, nMul, nPow, nSub, zLT, zLE, zNat, RPow193]
  refine acallk (new_calls s) ?_
  rintro r s1 ⟨p, rfl, hp⟩
  simp only [↓AXq_nil, ↓AXq_cons, pval, DX, Nat.reduceBEq, ↓DN, UP, DF, qSh, qCv, qIA, qIx, qSl, qBu, qCe, qOn, reduceCtorEq, ↓reduceIte, nLT, nLE, nEQ, nAdd, nMul, nPow, nSub, zLT, zLE, zNat, RPow193]
  refine hK _ _ ?_
  clear hK K
  refine awp_reg_seq ?_
  intro K hK
  simp only [↓DN, UP, DF, qSh, qCv, qIA, qIx, qSl, qBu, qCe, qOn, reduceCtorEq, ↓reduceIte, nLT, nLE, nEQ, nAdd, nMul, nPow, nSub, zLT, zLE, zNat, RPow193]
  refine acallk (penU64_calls s s1 p ([], false) n hn (by simp) hp) ?_
  rintro r s2 ⟨rfl, hp2⟩
  simp only [↓AXq_nil, ↓AXq_cons, pval, DX, Nat.reduceBEq, ↓DN, UP, DF, qSh, qCv, qIA, qIx, qSl, qBu, qCe, qOn, reduceCtorEq, ↓reduceIte, nLT, nLE, nEQ, nAdd, nMul, nPow, nSub, zLT, zLE, zNat, RPow193]
  refine hK _ _ ?_
  clear hK K
  have hpen : penNum 8 n ([], false) = (be 8 n, false) := by simp [penNum]
  rw [hpen] at hp2
  refine awp_reg_seq ?_
  intro K hK
  simp only [↓DN, UP, DF, qSh, qCv, qIA, qIx, qSl, qBu, qCe, qOn, reduceCtorEq, ↓reduceIte, nLT, nLE, nEQ, nAdd, nMul, nPow, nSub, zLT, zLE, zNat, RPow193]
  refine acallk (penBytes_calls s s2 p _ (by simp) hp2) ?_
  rintro r s3 ⟨rfl, rfl⟩
  simp only [↓AXq_nil, ↓AXq_cons, pval, DX, Nat.reduceBEq, ↓DN, UP, DF, qSh, qCv, qIA, qIx, qSl, qBu, qCe, qOn, reduceCtorEq, ↓reduceIte, nLT, nLE, nEQ, nAdd, nMul, nPow, nSub, zLT, zLE, zNat, RPow193]
  refine hK _ _ ?_
  clear hK K
  refine awp_reg_seq ?_
  intro K hK
  simp only [↓DN, UP, DF, qSh, qCv, qIA, qIx, qSl, qBu, qCe, qOn, reduceCtorEq, ↓reduceIte, nLT, nLE, nEQ, nAdd, nMul, nPow, nSub, zLT, zLE, zNat, RPow193]
  refine hK _ _ ?_
  clear hK K
  refine awp_ret ?_
  simp only [retQ, AEnds, aresL, ares, List.toList_toArray, ↓upd_same]; try simp only [↓DN, UP, DF, qSh, qCv, qIA, qIx, qSl, qBu, qCe, qOn, reduceCtorEq, ↓reduceIte, nLT, nLE, nEQ, nAdd, nMul, nPow, nSub, zLT, zLE, zNat, RPow193, DT]
  exact ⟨_, s, AV.weak.refl _, hp2.le, rfl, rfl⟩

set_option maxHeartbeats 400000 in
theorem powKey_calls (hG0 : Γ 0 = stC Sha.H0) (hG : Γ 1 = Sha.K.map wV) (x : List UInt8) (hx : x.length ≤ 2 ^ 36) (s : AS) : ACalls Tryd.prog Γ 61 [bytesV x .any] s (fun r s' => r = .v (.int .u64 (powKey x)) ∧ s' = s) := by
  refine acalls_body Tryd.func61 rfl Tryd.ntmps61 Tryd.results61 (by simp) ?_
  have hlen := key_label_len x
  have hlab := label_calls (Γ := Γ) hG0 hG x keyW [] 8 hx (by decide) (by decide) (by decide) s
  have hkey : powKey x = 1 + beNat (Kdf.label x keyW [] 8) % 2305843009213693949 := rfl
  generalize powKey x = k at *
  generalize Kdf.label x keyW [] 8 = l at *
  refine awp_reg_seq ?_
  intro K hK
  simp only [↓DN, UP, DF, qSh, qCv, qIA, qIx, qSl, qBu, qCe, qOn, reduceCtorEq, ↓reduceIte, nLT, nLE, nEQ, nAdd, nMul, nPow, nSub, zLT, zLE, zNat, RPow161]
  refine hK _ _ ?_
  clear hK K
  refine awp_reg_seq ?_
  intro K hK
  simp only [↓DN, UP, DF, qSh, qCv, qIA, qIx, qSl, qBu, qCe, qOn, reduceCtorEq, ↓reduceIte, nLT, nLE, nEQ, nAdd, nMul, nPow, nSub, zLT, zLE, zNat, RPow161]
  refine acallk (ACalls.weaks (AVs.weak.cons (AV.weak.refl _) (AVs.weak.cons (AV.weak.refl _) (AVs.weak.cons (AV.weak_nil (sz := 1)) (AVs.weak.refl _)))) hlab) ?_
  rintro r s1 ⟨rfl, rfl⟩
  simp only [↓AXq_nil, ↓AXq_cons, pval, DX, Nat.reduceBEq, ↓DN, UP, DF, qSh, qCv, qIA, qIx, qSl, qBu, qCe, qOn, reduceCtorEq, ↓reduceIte, nLT, nLE, nEQ, nAdd, nMul, nPow, nSub, zLT, zLE, zNat, RPow161]
  refine hK _ _ ?_
  clear hK K
  refine awp_reg_seq ?_
  intro K hK
  simp only [↓DN, UP, DF, qSh, qCv, qIA, qIx, qSl, qBu, qCe, qOn, reduceCtorEq, ↓reduceIte, nLT, nLE, nEQ, nAdd, nMul, nPow, nSub, zLT, zLE, zNat, RPow161]
  refine acallk (open_calls l s1 (by omega)) ?_
  rintro r s2 ⟨p, rfl, hp⟩
  simp only [↓AXq_nil, ↓AXq_cons, pval, DX, Nat.reduceBEq, ↓DN, UP, DF, qSh, qCv, qIA, qIx, qSl, qBu, qCe, qOn, reduceCtorEq, ↓reduceIte, nLT, nLE, nEQ, nAdd, nMul, nPow, nSub, zLT, zLE, zNat, RPow161]
  refine acallk (eyeU64_calls s1 s2 p _ hp) ?_
  rintro r s3 ⟨rfl, hp3⟩
  rw [eye8 l hlen]
  simp only [↓AXq_nil, ↓AXq_cons, pval, DX, Nat.reduceBEq, ↓DN, UP, DF, qSh, qCv, qIA, qIx, qSl, qBu, qCe, qOn, reduceCtorEq, ↓reduceIte, nLT, nLE, nEQ, nAdd, nMul, nPow, nSub, zLT, zLE, zNat, RPow161, one_add_rem]
  refine hK _ _ ?_
  clear hK K
  refine awp_ret ?_
  simp only [retQ, AEnds, aresL, ares, List.toList_toArray, ↓upd_same]; try simp only [↓DN, UP, DF, qSh, qCv, qIA, qIx, qSl, qBu, qCe, qOn, reduceCtorEq, ↓reduceIte, nLT, nLE, nEQ, nAdd, nMul, nPow, nSub, zLT, zLE, zNat, RPow161, DT]
  rw [hkey, one_add_rem]
  exact ⟨_, s1, AV.weak.refl _, hp3.le, rfl, rfl⟩

set_option maxHeartbeats 400000 in
theorem refKey07_calls (x : List UInt8) (hx : x.length ≤ 2 ^ 36) (s : AS) : ACalls Tryd.prog Γ 31 [.v (.string ⟨x.toArray⟩)] s (fun r s' => r = .v (.int .u64 (powKey x)) ∧ s' = s) := by
  refine acalls_body Tryd.func31 rfl Tryd.ntmps31 Tryd.results31 (by simp) ?_
  have hlen := key_label_len x
  have hlab := refLabel_calls (Γ := Γ) x keyW [] 8 hx key_fits s
  have hkey : powKey x = 1 + beNat (Kdf.label x keyW [] 8) % 2305843009213693949 := rfl
  generalize powKey x = k at *
  generalize Kdf.label x keyW [] 8 = l at *
  refine awp_reg_seq ?_
  intro K hK
  simp only [↓DN, UP, DF, qSh, qCv, qIA, qIx, qSl, qBu, qCe, qOn, reduceCtorEq, ↓reduceIte, nLT, nLE, nEQ, nAdd, nMul, nPow, nSub, zLT, zLE, zNat, RPow131]
  refine hK _ _ ?_
  clear hK K
  refine awp_reg_seq ?_
  intro K hK
  simp only [↓DN, UP, DF, qSh, qCv, qIA, qIx, qSl, qBu, qCe, qOn, reduceCtorEq, ↓reduceIte, nLT, nLE, nEQ, nAdd, nMul, nPow, nSub, zLT, zLE, zNat, RPow131]
  refine acallk hlab ?_
  rintro r s1 ⟨rfl, rfl⟩
  simp only [↓AXq_nil, ↓AXq_cons, pval, DX, Nat.reduceBEq, ↓DN, UP, DF, qSh, qCv, qIA, qIx, qSl, qBu, qCe, qOn, reduceCtorEq, ↓reduceIte, nLT, nLE, nEQ, nAdd, nMul, nPow, nSub, zLT, zLE, zNat, RPow131]
  refine acallk (value_calls l (by omega) s1) ?_
  rintro r s2 ⟨rfl, rfl⟩
  simp only [↓AXq_nil, ↓AXq_cons, pval, DX, Nat.reduceBEq, ↓DN, UP, DF, qSh, qCv, qIA, qIx, qSl, qBu, qCe, qOn, reduceCtorEq, ↓reduceIte, nLT, nLE, nEQ, nAdd, nMul, nPow, nSub, zLT, zLE, zNat, RPow131, one_add_rem]
  refine hK _ _ ?_
  clear hK K
  refine awp_ret ?_
  simp only [retQ, AEnds, aresL, ares, List.toList_toArray, ↓upd_same]; try simp only [↓DN, UP, DF, qSh, qCv, qIA, qIx, qSl, qBu, qCe, qOn, reduceCtorEq, ↓reduceIte, nLT, nLE, nEQ, nAdd, nMul, nPow, nSub, zLT, zLE, zNat, RPow131, DT]
  rw [hkey, one_add_rem]
  exact ⟨_, _, AV.weak.refl _, AS.le.refl _, rfl, rfl⟩

set_option maxHeartbeats 400000 in
theorem powPublic_calls (k : Nat) (hk : k < 2 ^ 64) (s : AS) : ACalls Tryd.prog Γ 62 [.v (.int .u64 k)] s (fun r s' => r = .v (.int .u64 (3 ^ k % PP : Nat)) ∧ s' = s) := by
  refine acalls_body Tryd.func62 rfl Tryd.ntmps62 Tryd.results62 (by simp) ?_
  have h := pow_calls (Γ := Γ) 3 k (by decide) hk s
  generalize 3 ^ k % PP = A at *
  refine awp_reg_seq ?_
  intro K hK
  simp only [↓DN, UP, DF, qSh, qCv, qIA, qIx, qSl, qBu, qCe, qOn, reduceCtorEq, ↓reduceIte, nLT, nLE, nEQ, nAdd, nMul, nPow, nSub, zLT, zLE, zNat, RPow162]
  refine hK _ _ ?_
  clear hK K
  refine awp_reg_seq ?_
  intro K hK
  simp only [↓DN, UP, DF, qSh, qCv, qIA, qIx, qSl, qBu, qCe, qOn, reduceCtorEq, ↓reduceIte, nLT, nLE, nEQ, nAdd, nMul, nPow, nSub, zLT, zLE, zNat, RPow162]
  refine acallk h ?_
  rintro r s1 ⟨rfl, rfl⟩
  simp only [↓AXq_nil, ↓AXq_cons, pval, DX, Nat.reduceBEq, ↓DN, UP, DF, qSh, qCv, qIA, qIx, qSl, qBu, qCe, qOn, reduceCtorEq, ↓reduceIte, nLT, nLE, nEQ, nAdd, nMul, nPow, nSub, zLT, zLE, zNat, RPow162]
  refine hK _ _ ?_
  clear hK K
  refine awp_ret ?_
  simp only [retQ, AEnds, aresL, ares, List.toList_toArray, ↓upd_same]; try simp only [↓DN, UP, DF, qSh, qCv, qIA, qIx, qSl, qBu, qCe, qOn, reduceCtorEq, ↓reduceIte, nLT, nLE, nEQ, nAdd, nMul, nPow, nSub, zLT, zLE, zNat, RPow162, DT]
  exact ⟨_, _, AV.weak.refl _, AS.le.refl _, rfl, rfl⟩

set_option maxHeartbeats 400000 in
theorem refPublic07_calls (k : Nat) (hk : k < 2 ^ 64) (s : AS) : ACalls Tryd.prog Γ 32 [.v (.int .u64 k)] s (fun r s' => r = .v (.int .u64 (3 ^ k % PP : Nat)) ∧ s' = s) := by
  refine acalls_body Tryd.func32 rfl Tryd.ntmps32 Tryd.results32 (by simp) ?_
  have h := refPow_calls (Γ := Γ) 3 k (by decide) hk s
  generalize 3 ^ k % PP = A at *
  refine awp_reg_seq ?_
  intro K hK
  simp only [↓DN, UP, DF, qSh, qCv, qIA, qIx, qSl, qBu, qCe, qOn, reduceCtorEq, ↓reduceIte, nLT, nLE, nEQ, nAdd, nMul, nPow, nSub, zLT, zLE, zNat, RPow132]
  refine hK _ _ ?_
  clear hK K
  refine awp_reg_seq ?_
  intro K hK
  simp only [↓DN, UP, DF, qSh, qCv, qIA, qIx, qSl, qBu, qCe, qOn, reduceCtorEq, ↓reduceIte, nLT, nLE, nEQ, nAdd, nMul, nPow, nSub, zLT, zLE, zNat, RPow132]
  refine acallk h ?_
  rintro r s1 ⟨rfl, rfl⟩
  simp only [↓AXq_nil, ↓AXq_cons, pval, DX, Nat.reduceBEq, ↓DN, UP, DF, qSh, qCv, qIA, qIx, qSl, qBu, qCe, qOn, reduceCtorEq, ↓reduceIte, nLT, nLE, nEQ, nAdd, nMul, nPow, nSub, zLT, zLE, zNat, RPow132]
  refine hK _ _ ?_
  clear hK K
  refine awp_ret ?_
  simp only [retQ, AEnds, aresL, ares, List.toList_toArray, ↓upd_same]; try simp only [↓DN, UP, DF, qSh, qCv, qIA, qIx, qSl, qBu, qCe, qOn, reduceCtorEq, ↓reduceIte, nLT, nLE, nEQ, nAdd, nMul, nPow, nSub, zLT, zLE, zNat, RPow132, DT]
  exact ⟨_, _, AV.weak.refl _, AS.le.refl _, rfl, rfl⟩

set_option maxHeartbeats 400000 in
theorem powShared_calls (k p : Nat) (hk : k < 2 ^ 64) (hp : p < 2 ^ 64) (s : AS) : ACalls Tryd.prog Γ 64 [.v (.int .u64 k), .v (.int .u64 p)] s (fun r s' => r = bytesV (be 8 (p ^ k % PP)) .any ∧ s' = s) := by
  refine acalls_body Tryd.func64 rfl Tryd.ntmps64 Tryd.results64 (by simp) ?_
  have h := pow_calls (Γ := Γ) p k hp hk s
  have hl : p ^ k % PP < 2 ^ 64 := by have := mod_pp_lt (p ^ k); have := pp_lt; omega
  generalize p ^ k % PP = A at *
  refine awp_reg_seq ?_
  intro K hK
  simp only [↓DN, UP, DF, qSh, qCv, qIA, qIx, qSl, qBu, qCe, qOn, reduceCtorEq, ↓reduceIte, nLT, nLE, nEQ, nAdd, nMul, nPow, nSub, zLT, zLE, zNat, RPow164]
  refine hK _ _ ?_
  clear hK K
  refine awp_reg_seq ?_
  intro K hK
  simp only [↓DN, UP, DF, qSh, qCv, qIA, qIx, qSl, qBu, qCe, qOn, reduceCtorEq, ↓reduceIte, nLT, nLE, nEQ, nAdd, nMul, nPow, nSub, zLT, zLE, zNat, RPow164]
  refine acallk h ?_
  rintro r s1 ⟨rfl, rfl⟩
  simp only [↓AXq_nil, ↓AXq_cons, pval, DX, Nat.reduceBEq, ↓DN, UP, DF, qSh, qCv, qIA, qIx, qSl, qBu, qCe, qOn, reduceCtorEq, ↓reduceIte, nLT, nLE, nEQ, nAdd, nMul, nPow, nSub, zLT, zLE, zNat, RPow164]
  refine acallk (powOctets_calls A hl s1) ?_
  rintro r s2 ⟨rfl, rfl⟩
  simp only [↓AXq_nil, ↓AXq_cons, pval, DX, Nat.reduceBEq, ↓DN, UP, DF, qSh, qCv, qIA, qIx, qSl, qBu, qCe, qOn, reduceCtorEq, ↓reduceIte, nLT, nLE, nEQ, nAdd, nMul, nPow, nSub, zLT, zLE, zNat, RPow164]
  refine hK _ _ ?_
  clear hK K
  refine awp_ret ?_
  simp only [retQ, AEnds, aresL, ares, List.toList_toArray, ↓upd_same]; try simp only [↓DN, UP, DF, qSh, qCv, qIA, qIx, qSl, qBu, qCe, qOn, reduceCtorEq, ↓reduceIte, nLT, nLE, nEQ, nAdd, nMul, nPow, nSub, zLT, zLE, zNat, RPow164, DT]
  exact ⟨_, _, AV.weak.refl _, AS.le.refl _, rfl, rfl⟩

end Go.Proofs.YtooeklnbdgoneaaDoor


set_option autoImplicit false
namespace Go.AM
namespace Vault
def nonceW : List UInt8 := [110, 111, 110, 99, 101]
def text0 : List UInt8 := [97, 32, 115, 101, 99, 114, 101, 116, 32, 111, 102, 32, 116, 119, 111, 32, 97, 110, 100, 32, 116, 104, 105, 114, 116, 121, 32, 98, 121, 116, 101, 115]
def k0 : List UInt8 := [169, 244, 63, 67, 64, 52, 17, 249, 117, 86, 100, 57, 122, 167, 125, 1, 230, 91, 103, 131, 115, 144, 199, 68, 248, 159, 166, 218, 250, 248, 1, 114, 135, 15, 162, 208, 108, 252, 211, 18, 83, 148, 90, 178, 179, 251, 67, 14]
def n3 : List UInt8 := [8, 190, 219, 198, 217, 21, 206, 227, 25, 6, 89, 27, 186, 224, 186, 54]
def n4 : List UInt8 := [184, 102, 163, 253, 77, 158, 128, 5, 108, 65, 104, 250, 253, 115, 180, 138]
def m3 : List UInt8 := [247, 169, 26, 226, 24, 129, 224, 169, 173, 123, 5, 148, 71, 154, 82, 74, 108, 148, 179, 118, 179, 215, 27, 211, 244, 97, 172, 107, 233, 136, 76, 169]
def t3 : List UInt8 := [8, 206, 240, 108, 85, 27, 1, 138, 119, 108, 80, 208, 57, 159, 143, 149]
end Vault
end Go.AM


set_option autoImplicit false
namespace Go.AM
open Go

/-! ### Records -/
structure Rec where
  kind : Int
  group : List UInt8
  epoch : Int
  time : Int
  bucket : Int
  body : List UInt8
  tree : List UInt8
  script : List UInt8
  wrapped : List UInt8
  deriving DecidableEq

def Rec.cells (r : Rec) : List AV := [.v (.int .i64 r.kind), bytesV r.group .any, .v (.int .i64 r.epoch), .v (.int .i64 r.time), .v (.int .i64 r.bucket), bytesV r.body .any, bytesV r.tree .any, bytesV r.script .any, bytesV r.wrapped .any]
def Rec.nought : Rec := ⟨0, [], 0, 0, 0, [], [], [], []⟩

def Rec.right (r : Rec) : Prop :=
  1 ≤ r.kind ∧ r.kind ≤ 3 ∧ 1 ≤ r.group.length ∧ r.group.length ≤ 16 ∧ 0 ≤ r.epoch ∧ r.epoch ≤ 1048576 ∧ 0 ≤ r.time ∧ r.time ≤ 1099511627776 ∧ 0 ≤ r.bucket ∧ r.bucket ≤ 1099511627776 ∧ r.body.length ≤ 60000 ∧
    r.tree.length = (if r.kind = 3 then 0 else 32) ∧ r.script.length = (if r.kind = 3 then 0 else 32) ∧ r.wrapped.length = (if r.kind = 3 then 0 else 48)
instance (r : Rec) : Decidable r.right := by unfold Rec.right; infer_instance

def Rec.text (r : Rec) : List UInt8 :=
  be 1 r.kind.toNat ++ (be 1 r.group.length ++ r.group ++ (be 8 r.epoch.toNat ++ (be 8 r.time.toNat ++ (be 8 r.bucket.toNat ++
    (be 2 r.body.length ++ r.body ++ (be 1 r.tree.length ++ r.tree ++ (be 1 r.script.length ++ r.script ++ (be 1 r.wrapped.length ++ r.wrapped ++ []))))))))

/-! What was read is written back. -/
end Go.AM


set_option autoImplicit false
namespace Go.AM
open Go

/-! ### Pens: octets put, whether bad or not -/
/-! ### A node's octets, and back -/
def intsText (l : List Int) : List UInt8 := (l.map fun x => be 1 x.toNat).flatten
def NodeV.text (N : NodeV) : List UInt8 :=
  if N.kind = 0 then be 1 0
  else if N.kind = 1 then be 1 1 ++ (be 1 N.name.length ++ N.name) ++ be 8 N.key ++ (be 1 N.parent.length ++ N.parent)
  else be 1 2 ++ be 8 N.key ++ (be 1 N.parent.length ++ N.parent) ++ be 1 N.unm.length ++ intsText N.unm

theorem rising_at {l : List Int} (h : Rising l) : ∀ i, i < l.length → (i : Int) ≤ l.getD i 0
  | 0, k => (h 0 k).1
  | i + 1, k => by
    have := rising_at h i (by omega)
    have h3 := (h (i + 1) k).2.2 (by omega)
    simp only [Nat.add_sub_cancel] at h3
    omega
theorem rising_len {l : List Int} (h : Rising l) : l.length ≤ 32 := by
  by_cases k : l.length = 0
  · omega
  · have h1 := rising_at h (l.length - 1) (by omega)
    have h2 := (h (l.length - 1) (by omega)).2.1
    omega
theorem intsText_len : ∀ (l : List Int), (intsText l).length = l.length
  | [] => rfl
  | x :: l => by
    have := intsText_len l
    simp only [intsText, List.map_cons, List.flatten_cons, List.length_append, length_be, List.length_cons] at *
    omega
theorem node_kind {N : NodeV} (h : N.right) : N.kind = 0 ∨ N.kind = 1 ∨ N.kind = 2 := by
  unfold NodeV.right at h
  split at h
  · left; assumption
  · split at h
    · right; left; assumption
    · split at h
      · right; right; assumption
      · exact h.elim

theorem NodeV.text_len {N : NodeV} (h : N.right) : N.text.length ≤ 100 := by
  obtain ⟨k, m, y, p, u⟩ := N
  rcases node_kind h with hk | hk | hk
  · simp only at hk
    simp [NodeV.text, hk]
  · obtain ⟨h1, h2, ⟨h3, h4, h5⟩, h6⟩ := (right_one hk).1 h
    simp only at hk h1 h2 h3 h4 h5 h6
    simp [NodeV.text, hk]
    omega
  · obtain ⟨h1, ⟨h3, h4, h5⟩, h6⟩ := (right_two hk).1 h
    simp only at hk h1 h3 h4 h5 h6
    have hu := rising_len h6
    simp [NodeV.text, hk, intsText_len]
    omega

/-! ### A reader: an eye at p, the result at o2, the variable at o3 -/
structure RdS (s s1 : AS) (p o2 o3 : Nat) (ce z cs : List AV) : Prop where
  le : (s.drop p).le s1
  eye : s1.objs p = some ce
  res : s1.objs o2 = some z
  var : s1.objs o3 = some cs
  n2 : s.objs o2 = none
  n3 : s.objs o3 = none
  p2 : p ≠ o2
  p3 : p ≠ o3
  d : o2 ≠ o3
theorem RdS.gain {s s1 : AS} {p o2 o3 : Nat} {ce z cs : List AV} (h : RdS s s1 p o2 o3 ce z cs) {t : Nat} (ht : s.own t = none) (e : Nat) : RdS s (s1.gain t e) p o2 o3 ce z cs :=
  ⟨AS.le_gain h.le (by simpa [AS.drop] using ht) e, h.eye, h.res, h.var, h.n2, h.n3, h.p2, h.p3, h.d⟩
theorem RdS.out {s s1 : AS} {p o2 o3 : Nat} {ce z cs : List AV} (h : RdS s s1 p o2 o3 ce z cs) : (s.set p ce).le s1 := AS.set_le_of h.le h.eye
theorem RdS.own_none {s s1 : AS} {p o2 o3 : Nat} {ce z cs : List AV} (h : RdS s s1 p o2 o3 ce z cs) {t : Nat} (ht : s1.own t = none) : s.own t = none := by
  cases h0 : s.own t with
  | none => rfl
  | some e =>
    have := h.le.own t e (by simpa [AS.drop] using h0)
    rw [ht] at this
    cases this
/-- A slice of whole numbers that grows. -/
def IBuf (s0 s : AS) (x : AV) (l : List Int) : Prop := (x = nilS ∧ l = []) ∨ ∃ t e, x = intsV l (.own t e) ∧ s.own t = some e ∧ s0.own t = none
theorem IBuf.weak {s0 s : AS} {x : AV} {l : List Int} (h : IBuf s0 s x l) : x.weak (intsV l .any) := by
  rcases h with ⟨rfl, rfl⟩ | ⟨t, e, rfl, _, _⟩
  · exact AV.weak_nil
  · exact AV.weak_any
end Go.AM


set_option autoImplicit false
namespace Go.Proofs.YtooeklnbdgoneaaDoor
open Go Go.AM Go.Proofs



variable {Γ : Nat → List AV}



abbrev caseC (k n b t : List UInt8) : List AV := [bytesV k .any, bytesV n .any, bytesV b .any, bytesV t .any]

end Go.Proofs.YtooeklnbdgoneaaDoor


set_option autoImplicit false
namespace Go.AM
namespace Hpke
def keyW : List UInt8 := [107, 101, 121]
def nonceW : List UInt8 := [110, 111, 110, 99, 101]
/-- A power by squaring. -/
def pm : Nat → Nat → Nat → Nat
  | 0, _, _ => 1
  | f + 1, a, n => if n % 2 = 1 then a * pm f (a * a % PP) (n / 2) % PP else pm f (a * a % PP) (n / 2)
theorem pm_is : ∀ (f a n : Nat), n < 2 ^ f → pm f a n % PP = a ^ n % PP
  | 0, a, n, h => by
    obtain rfl : n = 0 := by simpa using h
    rfl
  | f + 1, a, n, h => by
    have ih := pm_is f (a * a % PP) (n / 2) (by rw [Nat.pow_succ] at h; omega)
    have e : a ^ n = a ^ (n % 2) * (a * a) ^ (n / 2) := by
      conv => lhs; rw [← Nat.div_add_mod n 2]
      rw [Nat.pow_add, Nat.pow_mul, Nat.mul_comm, Nat.pow_two]
    rw [← Nat.pow_mod] at ih
    rw [pm]
    split
    · rename_i h1
      rw [e, h1, Nat.pow_one, Nat.mod_mod, Nat.mul_mod, ih, ← Nat.mul_mod]
    · rename_i h1
      have h0 : n % 2 = 0 := by omega
      rw [e, h0, Nat.pow_zero, Nat.one_mul, ih]
/-- The secret that is shared, the keys of it. -/
def sec (shared frm to : Nat) : List UInt8 := Mac.tag [] (be 8 shared ++ (be 8 frm ++ be 8 to))
def hk (s info : List UInt8) : List UInt8 := Kdf.label s keyW info 48
def hn (s info : List UInt8) : List UInt8 := Kdf.label s nonceW info 16
def la : List UInt8 := [117, 6, 33, 112, 191, 248, 206, 197]
def ld : List UInt8 := [58, 81, 223, 243, 45, 240, 153, 21]
def sec0 : List UInt8 := [141, 119, 55, 123, 82, 51, 78, 165, 114, 29, 156, 35, 36, 0, 227, 205, 100, 62, 143, 51, 135, 236, 17, 17, 122, 93, 79, 192, 194, 220, 90, 18]
def ki : List UInt8 := [6, 141, 179, 206, 59, 220, 75, 205, 198, 77, 58, 67, 99, 194, 233, 122, 153, 41, 163, 200, 98, 168, 177, 210, 181, 231, 29, 134, 148, 66, 107, 113, 124, 242, 131, 217, 24, 36, 134, 132, 77, 156, 59, 74, 50, 173, 130, 234]
def ni : List UInt8 := [136, 49, 255, 165, 101, 146, 196, 206, 247, 234, 220, 25, 136, 117, 153, 186]
def kj : List UInt8 := [178, 92, 12, 87, 181, 133, 74, 247, 82, 175, 70, 248, 213, 1, 18, 57, 117, 10, 113, 240, 250, 18, 16, 170, 243, 28, 188, 27, 191, 52, 21, 68, 75, 255, 24, 136, 122, 14, 177, 142, 21, 94, 17, 187, 206, 91, 8, 122]
def nj : List UInt8 := [190, 237, 202, 75, 55, 209, 188, 106, 213, 169, 209, 64, 48, 110, 33, 23]
def text0 : List UInt8 := [116, 101, 120, 116]
def m0 : List UInt8 := [144, 78, 103, 61]
def t0 : List UInt8 := [114, 25, 121, 18, 165, 57, 11, 147, 19, 26, 64, 233, 1, 176, 44, 69]
set_option maxRecDepth 100000 in
theorem la_is : Kdf.label [97] keyW [] 8 = la := by decide +kernel
set_option maxRecDepth 100000 in
theorem ld_is : Kdf.label [100] keyW [] 8 = ld := by decide +kernel
set_option maxRecDepth 100000 in
theorem ka_is : 1 + beNat la % 2305843009213693949 = 1514935092797558479 := by decide +kernel
set_option maxRecDepth 100000 in
theorem kd_is : 1 + beNat ld % 2305843009213693949 = 1896543153640479001 := by decide +kernel
theorem pub_is : 3 ^ 1514935092797558479 % PP = 1698461819911046417 := (pm_is 64 3 1514935092797558479 (by decide)).symm.trans (by decide +kernel)
theorem from_is : 3 ^ 1896543153640479001 % PP = 286126448538016316 := (pm_is 64 3 1896543153640479001 (by decide)).symm.trans (by decide +kernel)
theorem sh_is : 1698461819911046417 ^ 1896543153640479001 % PP = 1257739691807743659 := (pm_is 64 1698461819911046417 1896543153640479001 (by decide)).symm.trans (by decide +kernel)
theorem hs_is : 286126448538016316 ^ 1514935092797558479 % PP = 1257739691807743659 := (pm_is 64 286126448538016316 1514935092797558479 (by decide)).symm.trans (by decide +kernel)
set_option maxRecDepth 100000 in
theorem sec_is : sec 1257739691807743659 286126448538016316 1698461819911046417 = sec0 := by decide +kernel
set_option maxRecDepth 100000 in
theorem ki_is : hk sec0 [105] = ki := by decide +kernel
set_option maxRecDepth 100000 in
theorem ni_is : hn sec0 [105] = ni := by decide +kernel
set_option maxRecDepth 100000 in
theorem kj_is : hk sec0 [106] = kj := by decide +kernel
set_option maxRecDepth 100000 in
theorem nj_is : hn sec0 [106] = nj := by decide +kernel
set_option maxRecDepth 100000 in
theorem m0_is : Aes.mask ki ni text0 = m0 := by decide +kernel
set_option maxRecDepth 100000 in
theorem t0_is : Aes.tag ki ni [] m0 = t0 := by decide +kernel
set_option maxRecDepth 100000 in
theorem tj_not : Aes.tag kj nj [] m0 ≠ t0 := by decide +kernel
end Hpke
end Go.AM


set_option autoImplicit false
namespace Go.Proofs.YtooeklnbdgoneaaDoor
open Go Go.AM Go.Proofs

theorem RHpk163 : type_of% (And.intro (And.intro (And.intro (And.intro (And.intro (And.intro @Tryd.underlying3 T.c3) (And.intro T.g3 T.b3)) (And.intro (And.intro T.z3 @Tryd.underlying5) (And.intro T.c5 (And.intro T.g5 T.b5)))) (And.intro (And.intro (And.intro T.z5 @Tryd.underlying9) (And.intro T.c9 T.g9)) (And.intro (And.intro T.b9 T.z9) (And.intro @Tryd.underlying22 (And.intro T.c22 T.g22))))) (And.intro (And.intro (And.intro (And.intro T.b22 T.z22) (And.intro T.s22 @Tryd.underlying41)) (And.intro (And.intro T.c41 T.g41) (And.intro T.b41 (And.intro T.z41 @Tryd.underlying77)))) (And.intro (And.intro (And.intro T.c77 T.g77) (And.intro T.b77 T.z77)) (And.intro (And.intro T.s77 T.k46) (And.intro T.k92 (And.intro T.k81 T.k93)))))) Tryd.ntmps63) :=
  (And.intro (And.intro (And.intro (And.intro (And.intro (And.intro @Tryd.underlying3 T.c3) (And.intro T.g3 T.b3)) (And.intro (And.intro T.z3 @Tryd.underlying5) (And.intro T.c5 (And.intro T.g5 T.b5)))) (And.intro (And.intro (And.intro T.z5 @Tryd.underlying9) (And.intro T.c9 T.g9)) (And.intro (And.intro T.b9 T.z9) (And.intro @Tryd.underlying22 (And.intro T.c22 T.g22))))) (And.intro (And.intro (And.intro (And.intro T.b22 T.z22) (And.intro T.s22 @Tryd.underlying41)) (And.intro (And.intro T.c41 T.g41) (And.intro T.b41 (And.intro T.z41 @Tryd.underlying77)))) (And.intro (And.intro (And.intro T.c77 T.g77) (And.intro T.b77 T.z77)) (And.intro (And.intro T.s77 T.k46) (And.intro T.k92 (And.intro T.k81 T.k93)))))) Tryd.ntmps63)
variable {Γ : Nat → List AV}

theorem hfits_key (info : List UInt8) (h : info.length ≤ 60000) : Kdf.fits Hpke.keyW info 48 = true := by
  simp [Kdf.fits, Hpke.keyW]; omega
theorem hfits_nonce (info : List UInt8) (h : info.length ≤ 60000) : Kdf.fits Hpke.nonceW info 16 = true := by
  simp [Kdf.fits, Hpke.nonceW]; omega
theorem hk_len (s info : List UInt8) (h : info.length ≤ 60000) : (Hpke.hk s info).length = 48 := by
  rw [Hpke.hk, Kdf.label, hfits_key info h, if_pos rfl]
  exact Kdf.expand_len _ _ _
theorem hn_len (s info : List UInt8) (h : info.length ≤ 60000) : (Hpke.hn s info).length = 16 := by
  rw [Hpke.hn, Kdf.label, hfits_nonce info h, if_pos rfl]
  exact Kdf.expand_len _ _ _
theorem sec_len (a b c : Nat) : (Hpke.sec a b c).length = 32 := Mac.tag_len _ _
theorem sec_flat (a b c : Nat) : Mac.tag [] ([be 8 a, be 8 b, be 8 c].flatten) = Hpke.sec a b c := by
  rw [Hpke.sec]; simp

set_option maxHeartbeats 1000000 in
theorem hkeys_calls (hG0 : Γ 0 = stC Sha.H0) (hG : Γ 1 = Sha.K.map wV) (a b c : Nat) (info : List UInt8) (hb : b < 2 ^ 64) (hc : c < 2 ^ 64) (hi : info.length ≤ 60000) (s : AS) :
    ACalls Tryd.prog Γ 63 [bytesV (be 8 a) .any, .v (.int .u64 b), .v (.int .u64 c), bytesV info .any] s
      (fun r s' => r = .tup [bytesV (Hpke.hk (Hpke.sec a b c) info) .any, bytesV (Hpke.hn (Hpke.sec a b c) info) .any, .v (.bool true)] ∧ s' = s) := by
  refine acalls_body Tryd.func63 rfl Tryd.ntmps63 Tryd.results63 (by simp) ?_
  have hrep3 : ∀ x : AV, List.replicate 3 x = [x, x, x] := fun _ => rfl
  have hcc := fun s => concat_calls (Γ := Γ) [be 8 a, be 8 b, be 8 c] .new (by simp) (by simp) s
  have hex := fun s => extract_calls (Γ := Γ) hG0 hG [] ([be 8 a, be 8 b, be 8 c].flatten) (by simp) (by simp) s
  rw [sec_flat] at hex
  have hfl : ([be 8 a, be 8 b, be 8 c].flatten).length = 24 := by simp
  have hsl := sec_len a b c
  have h1 := fun s => label_calls (Γ := Γ) hG0 hG (Hpke.sec a b c) Hpke.keyW info 48 (by omega) (by decide) (by omega) (by decide) s
  have h2 := fun s => label_calls (Γ := Γ) hG0 hG (Hpke.sec a b c) Hpke.nonceW info 16 (by omega) (by decide) (by omega) (by decide) s
  rw [hfits_key info hi] at h1
  rw [hfits_nonce info hi] at h2
  change ∀ s, ACalls _ _ _ _ s (fun r s' => r = .tup [bytesV (Hpke.hk (Hpke.sec a b c) info) .any, _] ∧ s' = s) at h1
  change ∀ s, ACalls _ _ _ _ s (fun r s' => r = .tup [bytesV (Hpke.hn (Hpke.sec a b c) info) .any, _] ∧ s' = s) at h2
  generalize [be 8 a, be 8 b, be 8 c].flatten = F at *
  generalize Hpke.hk (Hpke.sec a b c) info = k at *
  generalize Hpke.hn (Hpke.sec a b c) info = n at *
  generalize Hpke.sec a b c = S at *
  refine awp_reg_seq ?_
  intro K hK
  simp only [↓DN, UP, DF, qSh, qCv, qIA, qIx, qSl, qBu, qCe, qOn, reduceCtorEq, ↓reduceIte, nLT, nLE, nEQ, nAdd, nMul, nPow, nSub, zLT, zLE, zNat, RHpk163]
  refine hK _ _ ?_
  clear hK K
  refine awp_reg_seq ?_
  intro K hK
  simp only [↓DN, UP, DF, qSh, qCv, qIA, qIx, qSl, qBu, qCe, qOn, reduceCtorEq, ↓reduceIte, nLT, nLE, nEQ, nAdd, nMul, nPow, nSub, zLT, zLE, zNat, RHpk163]
  refine acallk (powOctets_calls b hb _) ?_
  rintro r s1 ⟨rfl, rfl⟩
  simp only [↓AXq_nil, ↓AXq_cons, pval, DX, Nat.reduceBEq, ↓DN, UP, DF, qSh, qCv, qIA, qIx, qSl, qBu, qCe, qOn, reduceCtorEq, ↓reduceIte, nLT, nLE, nEQ, nAdd, nMul, nPow, nSub, zLT, zLE, zNat, RHpk163]
  refine acallk (powOctets_calls c hc _) ?_
  rintro r s2 ⟨rfl, rfl⟩
  simp only [↓AXq_nil, ↓AXq_cons, pval, DX, Nat.reduceBEq, ↓DN, UP, DF, qSh, qCv, qIA, qIx, qSl, qBu, qCe, qOn, reduceCtorEq, ↓reduceIte, nLT, nLE, nEQ, nAdd, nMul, nPow, nSub, zLT, zLE, zNat, RHpk163, hrep3]
  refine acallk (hcc _) ?_
  intro r s3 hout
  obtain ⟨t, e, rfl⟩ := outS_own hout (by rw [← List.length_pos_iff, hfl]; decide)
  have hle3 := hout.1
  clear hout
  simp only [↓AXq_nil, ↓AXq_cons, pval, DX, Nat.reduceBEq, ↓DN, UP, DF, qSh, qCv, qIA, qIx, qSl, qBu, qCe, qOn, reduceCtorEq, ↓reduceIte, nLT, nLE, nEQ, nAdd, nMul, nPow, nSub, zLT, zLE, zNat, RHpk163]
  refine acallk (ACalls.weaks (AVs.weak.cons (AV.weak_nil (sz := 1)) (AVs.weak.cons (AV.weak_any) AVs.weak.nil)) (hex _)) ?_
  intro r s4 hout
  obtain ⟨t4, e4, rfl⟩ := outS_own hout (by rw [← List.length_pos_iff, hsl]; decide)
  have hle4 := hle3.trans hout.1
  clear hout
  simp only [↓AXq_nil, ↓AXq_cons, pval, DX, Nat.reduceBEq, ↓DN, UP, DF, qSh, qCv, qIA, qIx, qSl, qBu, qCe, qOn, reduceCtorEq, ↓reduceIte, nLT, nLE, nEQ, nAdd, nMul, nPow, nSub, zLT, zLE, zNat, RHpk163]
  refine hK _ _ ?_
  clear hK K
  refine awp_reg_seq ?_
  intro K hK
  simp only [↓DN, UP, DF, qSh, qCv, qIA, qIx, qSl, qBu, qCe, qOn, reduceCtorEq, ↓reduceIte, nLT, nLE, nEQ, nAdd, nMul, nPow, nSub, zLT, zLE, zNat, RHpk163]
  refine acallk (ACalls.weaks (AVs.weak.cons (AV.weak_any) (AVs.weak.refl _)) (h1 _)) ?_
  rintro r s5 ⟨rfl, rfl⟩
  simp only [↓AXq_nil, ↓AXq_cons, pval, DX, Nat.reduceBEq, ↓DN, UP, DF, qSh, qCv, qIA, qIx, qSl, qBu, qCe, qOn, reduceCtorEq, ↓reduceIte, nLT, nLE, nEQ, nAdd, nMul, nPow, nSub, zLT, zLE, zNat, RHpk163]
  refine hK _ _ ?_
  clear hK K
  refine awp_reg_seq ?_
  intro K hK
  simp only [↓DN, UP, DF, qSh, qCv, qIA, qIx, qSl, qBu, qCe, qOn, reduceCtorEq, ↓reduceIte, nLT, nLE, nEQ, nAdd, nMul, nPow, nSub, zLT, zLE, zNat, RHpk163]
  refine acallk (ACalls.weaks (AVs.weak.cons (AV.weak_any) (AVs.weak.refl _)) (h2 _)) ?_
  rintro r s6 ⟨rfl, rfl⟩
  simp only [↓AXq_nil, ↓AXq_cons, pval, DX, Nat.reduceBEq, ↓DN, UP, DF, qSh, qCv, qIA, qIx, qSl, qBu, qCe, qOn, reduceCtorEq, ↓reduceIte, nLT, nLE, nEQ, nAdd, nMul, nPow, nSub, zLT, zLE, zNat, RHpk163]
  refine hK _ _ ?_
  clear hK K
  refine awp_reg_seq ?_
  intro K hK
  simp only [↓DN, UP, DF, qSh, qCv, qIA, qIx, qSl, qBu, qCe, qOn, reduceCtorEq, ↓reduceIte, nLT, nLE, nEQ, nAdd, nMul, nPow, nSub, zLT, zLE, zNat, RHpk163]
  refine hK _ _ ?_
  clear hK K
  refine awp_ret ?_
  simp only [retQ, AEnds, aresL, ares, List.toList_toArray, ↓upd_same]; try simp only [↓DN, UP, DF, qSh, qCv, qIA, qIx, qSl, qBu, qCe, qOn, reduceCtorEq, ↓reduceIte, nLT, nLE, nEQ, nAdd, nMul, nPow, nSub, zLT, zLE, zNat, RHpk163, DT]
  exact ⟨_, _, AV.weak.refl _, hle4, rfl, rfl⟩

end Go.Proofs.YtooeklnbdgoneaaDoor


set_option autoImplicit false
namespace Go.Proofs.YtooeklnbdgoneaaDoor
open Go Go.AM Go.Proofs

theorem RHpk227 : type_of% (And.intro (And.intro (And.intro (And.intro (And.intro (And.intro @Tryd.underlying4 T.c4) (And.intro T.g4 (And.intro T.b4 T.z4))) (And.intro (And.intro @Tryd.underlying5 T.c5) (And.intro T.g5 (And.intro T.b5 T.z5)))) (And.intro (And.intro (And.intro @Tryd.underlying22 T.c22) (And.intro T.g22 (And.intro T.b22 T.z22))) (And.intro (And.intro T.s22 @Tryd.underlying30) (And.intro T.c30 (And.intro T.g30 T.b30))))) (And.intro (And.intro (And.intro (And.intro T.z30 @Tryd.underlying41) (And.intro T.c41 (And.intro T.g41 T.b41))) (And.intro (And.intro T.z41 @Tryd.underlying46) (And.intro T.c46 (And.intro T.g46 T.b46)))) (And.intro (And.intro (And.intro T.z46 T.h46) (And.intro T.f46_0 (And.intro T.f46_1 T.k62))) (And.intro (And.intro T.k60 T.k51) (And.intro T.k63 (And.intro T.k61 T.k64)))))) Tryd.ntmps27) :=
  (And.intro (And.intro (And.intro (And.intro (And.intro (And.intro @Tryd.underlying4 T.c4) (And.intro T.g4 (And.intro T.b4 T.z4))) (And.intro (And.intro @Tryd.underlying5 T.c5) (And.intro T.g5 (And.intro T.b5 T.z5)))) (And.intro (And.intro (And.intro @Tryd.underlying22 T.c22) (And.intro T.g22 (And.intro T.b22 T.z22))) (And.intro (And.intro T.s22 @Tryd.underlying30) (And.intro T.c30 (And.intro T.g30 T.b30))))) (And.intro (And.intro (And.intro (And.intro T.z30 @Tryd.underlying41) (And.intro T.c41 (And.intro T.g41 T.b41))) (And.intro (And.intro T.z41 @Tryd.underlying46) (And.intro T.c46 (And.intro T.g46 T.b46)))) (And.intro (And.intro (And.intro T.z46 T.h46) (And.intro T.f46_0 (And.intro T.f46_1 T.k62))) (And.intro (And.intro T.k60 T.k51) (And.intro T.k63 (And.intro T.k61 T.k64)))))) Tryd.ntmps27)
variable {Γ : Nat → List AV}

def pubOk (n : Nat) : Prop := 2 ≤ n ∧ n ≤ 2305843009213693949
instance (n : Nat) : Decidable (pubOk n) := by unfold pubOk; infer_instance
theorem pub_test {n : Nat} (h : pubOk n) : (decide (2 ≤ (n : Int)) && decide ((n : Int) ≤ 2305843009213693949)) = true := by
  obtain ⟨h1, h2⟩ := h
  simp only [Bool.and_eq_true, decide_eq_true_eq]; omega
theorem pub_testF {n : Nat} (h : ¬ pubOk n) : (decide (2 ≤ (n : Int)) && decide ((n : Int) ≤ 2305843009213693949)) = false := by
  rw [Bool.eq_false_iff]
  intro h2
  simp only [Bool.and_eq_true, decide_eq_true_eq] at h2
  exact h ⟨by omega, by omega⟩
theorem pp_lt64 (a : Nat) : a % PP < 2 ^ 64 := by have := mod_pp_lt a; have := pp_lt; omega
/-- The sender's number, the secret, what is sealed. -/
def hfrom (draw : List UInt8) : Nat := 3 ^ powKey draw % PP
def hsec (pub : Nat) (draw : List UInt8) : List UInt8 := Hpke.sec (pub ^ powKey draw % PP) (hfrom draw) pub
def hsealed (pub : Nat) (info beside text draw : List UInt8) : List UInt8 := Aes.sealed (Hpke.hk (hsec pub draw) info) (Hpke.hn (hsec pub draw) info) beside text
def osec (key frm : Nat) : List UInt8 := Hpke.sec (frm ^ key % PP) frm (3 ^ key % PP)
def hopenT (key frm : Nat) (text info beside : List UInt8) : List UInt8 := openedT (Hpke.hk (osec key frm) info) (Hpke.hn (osec key frm) info) beside text
def hopenE (key frm : Nat) (text info beside : List UInt8) : Nat := openedE (Hpke.hk (osec key frm) info) (Hpke.hn (osec key frm) info) beside text

set_option maxHeartbeats 2000000 in
theorem hseal_ok (hG0 : Γ 0 = stC Sha.H0) (hG : Γ 1 = Sha.K.map wV) (pub : Nat) (hp : pubOk pub) (info beside text draw : List UInt8) (hi : info.length ≤ 60000) (hb : beside.length ≤ 2 ^ 30) (ht : text.length ≤ 2 ^ 30) (hd : draw.length ≤ 2 ^ 36) (s : AS) :
    ACalls Tryd.prog Γ 27 [.v (.int .u64 pub), bytesV info .any, bytesV beside .any, bytesV text .any, bytesV draw .any] s
      (fun r s' => r = .tup [.agg [.v (.int .u64 (hfrom draw)), bytesV (hsealed pub info beside text draw) .any], .v (.int .i64 ((0 : Nat) : Int))] ∧ s' = s) := by
  refine acalls_body Tryd.func27 rfl Tryd.ntmps27 Tryd.results27 (by simp) ?_
  have hp64 : pub < 2 ^ 64 := by have := hp.2; omega
  have hke := powKey_lt draw
  have c1 := fun s => powKey_calls (Γ := Γ) hG0 hG draw hd s
  have c2 := fun s => powPublic_calls (Γ := Γ) (powKey draw) (by omega) s
  have c3 := fun s => powShared_calls (Γ := Γ) (powKey draw) pub (by omega) hp64 s
  have c4 := fun s => hkeys_calls (Γ := Γ) hG0 hG (pub ^ powKey draw % PP) (hfrom draw) pub info (pp_lt64 _) hp64 hi s
  have hkl := hk_len (hsec pub draw) info hi
  have hnl := hn_len (hsec pub draw) info hi
  have c5 := fun s => seal_calls (Γ := Γ) hG0 hG (Hpke.hk (hsec pub draw) info) (Hpke.hn (hsec pub draw) info) beside text hb ht s
  simp only [show sealT (Hpke.hk (hsec pub draw) info) (Hpke.hn (hsec pub draw) info) beside text = hsealed pub info beside text draw from by unfold sealT; rw [if_pos ⟨hkl, hnl⟩]; rfl, show sealE (Hpke.hk (hsec pub draw) info) (Hpke.hn (hsec pub draw) info) = 0 from by unfold sealE; rw [if_pos ⟨hkl, hnl⟩]] at c5
  simp only [show Hpke.sec (pub ^ powKey draw % PP) (hfrom draw) pub = hsec pub draw from rfl] at c4
  simp only [show 3 ^ powKey draw % PP = hfrom draw from rfl] at c2
  generalize hsealed pub info beside text draw = z at *
  generalize Hpke.hk (hsec pub draw) info = k at *
  generalize Hpke.hn (hsec pub draw) info = n at *
  generalize pub ^ powKey draw % PP = sh at *
  generalize hfrom draw = f at *
  generalize powKey draw = e at *
  refine awp_reg_seq ?_
  intro K hK
  simp only [↓DN, UP, DF, qSh, qCv, qIA, qIx, qSl, qBu, qCe, qOn, reduceCtorEq, ↓reduceIte, nLT, nLE, nEQ, nAdd, nMul, nPow, nSub, zLT, zLE, zNat, RHpk227]
  intro o ho
  refine hK _ _ ?_
  clear hK K
  refine awp_seq_k ?_
  intro K hK
  refine awp_reg_seq ?_
  intro K hK
  simp only [↓DN, UP, DF, qSh, qCv, qIA, qIx, qSl, qBu, qCe, qOn, reduceCtorEq, ↓reduceIte, nLT, nLE, nEQ, nAdd, nMul, nPow, nSub, zLT, zLE, zNat, RHpk227]
  refine acallk (powerRight_calls pub _) ?_
  rintro r s1 ⟨rfl, rfl⟩
  simp only [↓AXq_nil, ↓AXq_cons, pval, DX, Nat.reduceBEq, ↓DN, UP, DF, qSh, qCv, qIA, qIx, qSl, qBu, qCe, qOn, reduceCtorEq, ↓reduceIte, nLT, nLE, nEQ, nAdd, nMul, nPow, nSub, zLT, zLE, zNat, RHpk227, pub_test hp]
  refine hK _ _ ?_
  clear hK K
  refine awp_cond_k ?_
  intro X Y hX hY
  simp only [↓DN, UP, DF, qSh, qCv, qIA, qIx, qSl, qBu, qCe, qOn, reduceCtorEq, ↓reduceIte, nLT, nLE, nEQ, nAdd, nMul, nPow, nSub, zLT, zLE, zNat, RHpk227, DB]
  refine hY ?_
  clear hX hY X Y
  refine awp_skip ?_
  refine hK _ _ ?_
  clear hK K
  refine awp_reg_seq ?_
  intro K hK
  simp only [↓DN, UP, DF, qSh, qCv, qIA, qIx, qSl, qBu, qCe, qOn, reduceCtorEq, ↓reduceIte, nLT, nLE, nEQ, nAdd, nMul, nPow, nSub, zLT, zLE, zNat, RHpk227]
  refine acallk (c1 _) ?_
  rintro r s2 ⟨rfl, rfl⟩
  simp only [↓AXq_nil, ↓AXq_cons, pval, DX, Nat.reduceBEq, ↓DN, UP, DF, qSh, qCv, qIA, qIx, qSl, qBu, qCe, qOn, reduceCtorEq, ↓reduceIte, nLT, nLE, nEQ, nAdd, nMul, nPow, nSub, zLT, zLE, zNat, RHpk227]
  refine hK _ _ ?_
  clear hK K
  refine awp_reg_seq ?_
  intro K hK
  simp only [↓DN, UP, DF, qSh, qCv, qIA, qIx, qSl, qBu, qCe, qOn, reduceCtorEq, ↓reduceIte, nLT, nLE, nEQ, nAdd, nMul, nPow, nSub, zLT, zLE, zNat, RHpk227]
  refine acallk (c2 _) ?_
  rintro r s3 ⟨rfl, rfl⟩
  simp only [↓AXq_nil, ↓AXq_cons, pval, DX, Nat.reduceBEq, ↓DN, UP, DF, qSh, qCv, qIA, qIx, qSl, qBu, qCe, qOn, reduceCtorEq, ↓reduceIte, nLT, nLE, nEQ, nAdd, nMul, nPow, nSub, zLT, zLE, zNat, RHpk227]
  refine hK _ _ ?_
  clear hK K
  refine awp_reg_seq ?_
  intro K hK
  simp only [↓DN, UP, DF, qSh, qCv, qIA, qIx, qSl, qBu, qCe, qOn, reduceCtorEq, ↓reduceIte, nLT, nLE, nEQ, nAdd, nMul, nPow, nSub, zLT, zLE, zNat, RHpk227]
  refine acallk (c3 _) ?_
  rintro r s4 ⟨rfl, rfl⟩
  simp only [↓AXq_nil, ↓AXq_cons, pval, DX, Nat.reduceBEq, ↓DN, UP, DF, qSh, qCv, qIA, qIx, qSl, qBu, qCe, qOn, reduceCtorEq, ↓reduceIte, nLT, nLE, nEQ, nAdd, nMul, nPow, nSub, zLT, zLE, zNat, RHpk227]
  refine acallk (c4 _) ?_
  rintro r s5 ⟨rfl, rfl⟩
  simp only [↓AXq_nil, ↓AXq_cons, pval, DX, Nat.reduceBEq, ↓DN, UP, DF, qSh, qCv, qIA, qIx, qSl, qBu, qCe, qOn, reduceCtorEq, ↓reduceIte, nLT, nLE, nEQ, nAdd, nMul, nPow, nSub, zLT, zLE, zNat, RHpk227]
  refine hK _ _ ?_
  clear hK K
  refine awp_seq_k ?_
  intro K hK
  refine awp_reg_seq ?_
  intro K hK
  simp only [↓DN, UP, DF, qSh, qCv, qIA, qIx, qSl, qBu, qCe, qOn, reduceCtorEq, ↓reduceIte, nLT, nLE, nEQ, nAdd, nMul, nPow, nSub, zLT, zLE, zNat, RHpk227]
  refine hK _ _ ?_
  clear hK K
  refine awp_cond_k ?_
  intro X Y hX hY
  simp only [↓DN, UP, DF, qSh, qCv, qIA, qIx, qSl, qBu, qCe, qOn, reduceCtorEq, ↓reduceIte, nLT, nLE, nEQ, nAdd, nMul, nPow, nSub, zLT, zLE, zNat, RHpk227, DB]
  refine hY ?_
  clear hX hY X Y
  refine awp_skip ?_
  refine hK _ _ ?_
  clear hK K
  refine awp_reg_seq ?_
  intro K hK
  simp only [↓DN, UP, DF, qSh, qCv, qIA, qIx, qSl, qBu, qCe, qOn, reduceCtorEq, ↓reduceIte, nLT, nLE, nEQ, nAdd, nMul, nPow, nSub, zLT, zLE, zNat, RHpk227]
  refine acallk (c5 _) ?_
  rintro r s6 ⟨rfl, rfl⟩
  simp only [↓AXq_nil, ↓AXq_cons, pval, DX, Nat.reduceBEq, ↓DN, UP, DF, qSh, qCv, qIA, qIx, qSl, qBu, qCe, qOn, reduceCtorEq, ↓reduceIte, nLT, nLE, nEQ, nAdd, nMul, nPow, nSub, zLT, zLE, zNat, RHpk227]
  refine hK _ _ ?_
  clear hK K
  refine awp_seq_k ?_
  intro K hK
  refine awp_reg_seq ?_
  intro K hK
  simp only [↓DN, UP, DF, qSh, qCv, qIA, qIx, qSl, qBu, qCe, qOn, reduceCtorEq, ↓reduceIte, nLT, nLE, nEQ, nAdd, nMul, nPow, nSub, zLT, zLE, zNat, RHpk227, show (((0 : Nat) : Int) != 0) = false from rfl]
  refine hK _ _ ?_
  clear hK K
  refine awp_cond_k ?_
  intro X Y hX hY
  simp only [↓DN, UP, DF, qSh, qCv, qIA, qIx, qSl, qBu, qCe, qOn, reduceCtorEq, ↓reduceIte, nLT, nLE, nEQ, nAdd, nMul, nPow, nSub, zLT, zLE, zNat, RHpk227, DB]
  refine hY ?_
  clear hX hY X Y
  refine awp_skip ?_
  refine hK _ _ ?_
  clear hK K
  refine awp_reg_seq ?_
  intro K hK
  simp only [↓DN, UP, DF, qSh, qCv, qIA, qIx, qSl, qBu, qCe, qOn, reduceCtorEq, ↓reduceIte, nLT, nLE, nEQ, nAdd, nMul, nPow, nSub, zLT, zLE, zNat, RHpk227]
  refine hK _ _ ?_
  clear hK K
  refine awp_ret ?_
  refine aends_cell_tmp (o := o) (off := 0) (by simp only [upd, nEQ, ↓reduceIte]) (AS.set_objs_same _ _ _) (by rw [T.c46]; decide) (by simp only [↓DN, UP, DF, qSh, qCv, qIA, qIx, qSl, qBu, qCe, qOn, reduceCtorEq, ↓reduceIte, nLT, nLE, nEQ, nAdd, nMul, nPow, nSub, zLT, zLE, zNat, RHpk227]; rfl) ?_
  exact ⟨_, s, AV.weak.refl _, AS.le_set (AS.le.refl s) ho _, rfl, rfl⟩

set_option maxHeartbeats 2000000 in
theorem hseal_bad (pub : Nat) (hp : ¬ pubOk pub) (info beside text draw : List UInt8) (s : AS) :
    ACalls Tryd.prog Γ 27 [.v (.int .u64 pub), bytesV info .any, bytesV beside .any, bytesV text .any, bytesV draw .any] s
      (fun r s' => r = .tup [.agg [.v (.int .u64 ((0 : Nat) : Int)), bytesV [] .any], .v (.int .i64 ((30 : Nat) : Int))] ∧ s' = s) := by
  refine acalls_body Tryd.func27 rfl Tryd.ntmps27 Tryd.results27 (by simp) ?_
  refine awp_reg_seq ?_
  intro K hK
  simp only [↓DN, UP, DF, qSh, qCv, qIA, qIx, qSl, qBu, qCe, qOn, reduceCtorEq, ↓reduceIte, nLT, nLE, nEQ, nAdd, nMul, nPow, nSub, zLT, zLE, zNat, RHpk227]
  intro o ho
  refine hK _ _ ?_
  clear hK K
  refine awp_seq_k ?_
  intro K hK
  refine awp_reg_seq ?_
  intro K hK
  simp only [↓DN, UP, DF, qSh, qCv, qIA, qIx, qSl, qBu, qCe, qOn, reduceCtorEq, ↓reduceIte, nLT, nLE, nEQ, nAdd, nMul, nPow, nSub, zLT, zLE, zNat, RHpk227]
  refine acallk (powerRight_calls pub _) ?_
  rintro r s1 ⟨rfl, rfl⟩
  simp only [↓AXq_nil, ↓AXq_cons, pval, DX, Nat.reduceBEq, ↓DN, UP, DF, qSh, qCv, qIA, qIx, qSl, qBu, qCe, qOn, reduceCtorEq, ↓reduceIte, nLT, nLE, nEQ, nAdd, nMul, nPow, nSub, zLT, zLE, zNat, RHpk227, pub_testF hp]
  refine hK _ _ ?_
  clear hK K
  refine awp_cond_k ?_
  intro X Y hX hY
  simp only [↓DN, UP, DF, qSh, qCv, qIA, qIx, qSl, qBu, qCe, qOn, reduceCtorEq, ↓reduceIte, nLT, nLE, nEQ, nAdd, nMul, nPow, nSub, zLT, zLE, zNat, RHpk227, DB]
  refine hX ?_
  clear hX hY X Y
  refine awp_reg_seq ?_
  intro K hK
  simp only [↓DN, UP, DF, qSh, qCv, qIA, qIx, qSl, qBu, qCe, qOn, reduceCtorEq, ↓reduceIte, nLT, nLE, nEQ, nAdd, nMul, nPow, nSub, zLT, zLE, zNat, RHpk227]
  refine hK _ _ ?_
  clear hK K
  refine awp_ret ?_
  try simp only [thenQ, blockQ]
  refine aends_cell_tmp (o := o) (off := 0) (by simp only [upd, nEQ, ↓reduceIte]) (AS.set_objs_same _ _ _) (by rw [T.c46]; decide) (by simp only [↓DN, UP, DF, qSh, qCv, qIA, qIx, qSl, qBu, qCe, qOn, reduceCtorEq, ↓reduceIte, nLT, nLE, nEQ, nAdd, nMul, nPow, nSub, zLT, zLE, zNat, RHpk227]; rfl) ?_
  exact ⟨_, s, AV.weak_tup2 (AV.weak_agg (AVs.weak.cons (AV.weak.refl _) (AVs.weak.cons AV.weak_nil AVs.weak.nil))) (AV.weak.refl _), AS.le_set (AS.le.refl s) ho _, rfl, rfl⟩

end Go.Proofs.YtooeklnbdgoneaaDoor


