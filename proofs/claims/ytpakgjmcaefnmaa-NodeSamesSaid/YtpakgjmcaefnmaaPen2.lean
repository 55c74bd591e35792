/- Contracts of the program's functions, each walked once; the conditions stand in each theorem. -/
import Derived.Test.YtpakgjmcaefnmaaPen
set_option linter.unusedSimpArgs false
set_option linter.unusedVariables false
set_option autoImplicit false
namespace Go.Proofs.Ytpakgjmcaefnmaa
open Go Go.AM Go.Proofs

theorem RPen2108 : type_of% (And.intro (And.intro (And.intro (And.intro (And.intro @Try.underlying3 T.c3) (And.intro T.g3 T.b3)) (And.intro (And.intro T.z3 @Try.underlying4) (And.intro T.c4 T.g4))) (And.intro (And.intro (And.intro T.b4 T.z4) (And.intro @Try.underlying5 T.c5)) (And.intro (And.intro T.g5 T.b5) (And.intro T.z5 (And.intro @Try.underlying22 T.c22))))) (And.intro (And.intro (And.intro (And.intro T.g22 T.b22) (And.intro T.z22 T.s22)) (And.intro (And.intro @Try.underlying37 T.c37) (And.intro T.g37 T.b37))) (And.intro (And.intro (And.intro T.z37 @Try.underlying128) (And.intro T.c128 T.g128)) (And.intro (And.intro T.b128 T.z128) (And.intro T.h128 (And.intro T.f128_0 T.f128_1)))))) :=
  (And.intro (And.intro (And.intro (And.intro (And.intro @Try.underlying3 T.c3) (And.intro T.g3 T.b3)) (And.intro (And.intro T.z3 @Try.underlying4) (And.intro T.c4 T.g4))) (And.intro (And.intro (And.intro T.b4 T.z4) (And.intro @Try.underlying5 T.c5)) (And.intro (And.intro T.g5 T.b5) (And.intro T.z5 (And.intro @Try.underlying22 T.c22))))) (And.intro (And.intro (And.intro (And.intro T.g22 T.b22) (And.intro T.z22 T.s22)) (And.intro (And.intro @Try.underlying37 T.c37) (And.intro T.g37 T.b37))) (And.intro (And.intro (And.intro T.z37 @Try.underlying128) (And.intro T.c128 T.g128)) (And.intro (And.intro T.b128 T.z128) (And.intro T.h128 (And.intro T.f128_0 T.f128_1))))))
theorem RPen226 : type_of% (And.intro (And.intro (And.intro (And.intro @Try.underlying4 (And.intro T.c4 T.g4)) (And.intro T.b4 (And.intro T.z4 @Try.underlying5))) (And.intro (And.intro T.c5 (And.intro T.g5 T.b5)) (And.intro T.z5 (And.intro @Try.underlying22 T.c22)))) (And.intro (And.intro (And.intro T.g22 (And.intro T.b22 T.z22)) (And.intro T.s22 (And.intro @Try.underlying128 T.c128))) (And.intro (And.intro T.g128 (And.intro T.b128 T.z128)) (And.intro T.h128 (And.intro T.f128_0 T.f128_1))))) :=
  (And.intro (And.intro (And.intro (And.intro @Try.underlying4 (And.intro T.c4 T.g4)) (And.intro T.b4 (And.intro T.z4 @Try.underlying5))) (And.intro (And.intro T.c5 (And.intro T.g5 T.b5)) (And.intro T.z5 (And.intro @Try.underlying22 T.c22)))) (And.intro (And.intro (And.intro T.g22 (And.intro T.b22 T.z22)) (And.intro T.s22 (And.intro @Try.underlying128 T.c128))) (And.intro (And.intro T.g128 (And.intro T.b128 T.z128)) (And.intro T.h128 (And.intro T.f128_0 T.f128_1)))))
theorem RPen2107 : type_of% (And.intro (And.intro (And.intro (And.intro (And.intro @Try.underlying3 T.c3) (And.intro T.g3 (And.intro T.b3 T.z3))) (And.intro (And.intro @Try.underlying4 T.c4) (And.intro T.g4 (And.intro T.b4 T.z4)))) (And.intro (And.intro (And.intro @Try.underlying5 T.c5) (And.intro T.g5 (And.intro T.b5 T.z5))) (And.intro (And.intro @Try.underlying22 T.c22) (And.intro T.g22 (And.intro T.b22 T.z22))))) (And.intro (And.intro (And.intro (And.intro T.s22 @Try.underlying31) (And.intro T.c31 (And.intro T.g31 T.b31))) (And.intro (And.intro T.z31 T.p31) (And.intro @Try.underlying37 (And.intro T.c37 T.g37)))) (And.intro (And.intro (And.intro T.b37 T.z37) (And.intro @Try.underlying128 (And.intro T.c128 T.g128))) (And.intro (And.intro T.b128 T.z128) (And.intro T.h128 (And.intro T.f128_1 T.k108)))))) :=
  (And.intro (And.intro (And.intro (And.intro (And.intro @Try.underlying3 T.c3) (And.intro T.g3 (And.intro T.b3 T.z3))) (And.intro (And.intro @Try.underlying4 T.c4) (And.intro T.g4 (And.intro T.b4 T.z4)))) (And.intro (And.intro (And.intro @Try.underlying5 T.c5) (And.intro T.g5 (And.intro T.b5 T.z5))) (And.intro (And.intro @Try.underlying22 T.c22) (And.intro T.g22 (And.intro T.b22 T.z22))))) (And.intro (And.intro (And.intro (And.intro T.s22 @Try.underlying31) (And.intro T.c31 (And.intro T.g31 T.b31))) (And.intro (And.intro T.z31 T.p31) (And.intro @Try.underlying37 (And.intro T.c37 T.g37)))) (And.intro (And.intro (And.intro T.b37 T.z37) (And.intro @Try.underlying128 (And.intro T.c128 T.g128))) (And.intro (And.intro T.b128 T.z128) (And.intro T.h128 (And.intro T.f128_1 T.k108))))))

variable {Γ : Nat → List AV}

set_option maxHeartbeats 400000 in
theorem number_bad (s0 s : AS) (p : Nat) (l : List UInt8) (n size : Int) (hs : 0 ≤ size ∧ size ≤ 8) (h : Pen s0 s p l true) :
    ACalls Try.prog Γ 108 [.ptr p 0, .v (.int .u64 n), .v (.int .i64 size)] s (fun r s' => r = .tup [] ∧ Pen s0 s' p l true) := by
  refine acalls_body Try.func108 rfl Try.ntmps108 Try.results108 (by simp) ?_
  obtain ⟨x, hx, hb⟩ := h.obj
  have hsub : isub .i64 size 1 = size - 1 := isub_i64 (by omega)
  refine awp_reg_seq ?_
  intro K hK
  simp only [↓DN, UP, implies_true, forall_eq', ne_eq, if_true, if_false, aval, abin, aint, ashift, abool, astr, anil, aun, aconv, aindexAddr, aindex, optInt, aslice, abuiltin, asrc, afill, placeOf, asetAll, undef, aload, apart, AV.cells, AV.one, aeval, updO, upd, initE, gdst, thenQ, blockQ, srcOk, Array.isEmpty, List.isEmpty, bytesV, reduceCtorEq, ↓reduceIte, Nat.reduceLT, Nat.reduceLeDiff, Nat.reduceEqDiff, Nat.reduceAdd, Nat.reduceMul, Nat.reducePow, Nat.reduceSub, Int.reduceLT, Int.reduceLE, Int.reduceToNat, RPen2108, Try.ntmps108, hsub]
  refine hK _ _ ?_
  clear hK K
  refine awp_block ?_
  refine awp_loop (fun E s1 => E 6 = .v (.int .i64 (size - 1)) ∧ E 0 = .ptr p 0 ∧ s1 = s) (fun _ _ => 0) ?_ ?_
  · exact ⟨by simp [upd], by simp [upd, initE], rfl⟩
  · rintro E1 s1 ⟨h6, h0, rfl⟩ -
    refine awp_seq_k ?_
    intro K hK
    by_cases hi : 0 ≤ size - 1
    · refine awp_reg_seq ?_
      intro K hK
      simp only [↓DN, UP, implies_true, forall_eq', ne_eq, if_true, if_false, aval, abin, aint, ashift, abool, astr, anil, aun, aconv, aindexAddr, aindex, optInt, aslice, abuiltin, asrc, afill, placeOf, asetAll, undef, aload, apart, AV.cells, AV.one, aeval, updO, upd, initE, gdst, thenQ, blockQ, srcOk, Array.isEmpty, List.isEmpty, bytesV, reduceCtorEq, ↓reduceIte, Nat.reduceLT, Nat.reduceLeDiff, Nat.reduceEqDiff, Nat.reduceAdd, Nat.reduceMul, Nat.reducePow, Nat.reduceSub, Int.reduceLT, Int.reduceLE, Int.reduceToNat, RPen2108, Try.ntmps108, h6, h0, hx, decide_eq_true hi, Bool.not_true]
      refine hK _ _ ?_
      clear hK K
      refine awp_cond_k ?_
      intro X Y hX hY
      simp only [↓DN, UP, implies_true, forall_eq', ne_eq, if_true, if_false, aval, abin, aint, ashift, abool, astr, anil, aun, aconv, aindexAddr, aindex, optInt, aslice, abuiltin, asrc, afill, placeOf, asetAll, undef, aload, apart, AV.cells, AV.one, aeval, updO, upd, initE, gdst, thenQ, blockQ, srcOk, Array.isEmpty, List.isEmpty, bytesV, reduceCtorEq, ↓reduceIte, Nat.reduceLT, Nat.reduceLeDiff, Nat.reduceEqDiff, Nat.reduceAdd, Nat.reduceMul, Nat.reducePow, Nat.reduceSub, Int.reduceLT, Int.reduceLE, Int.reduceToNat, RPen2108, Try.ntmps108, Bool.not_true, Bool.not_false, Bool.false_eq_true, Bool.true_eq_false, false_imp_iff, true_imp_iff, decide_eq_true_eq, decide_eq_false_iff_not]
      refine hY ?_
      clear hX hY X Y
      refine awp_exit ?_
      simp only [thenQ, blockQ, if_true, retQ, AEnds, aresL, atuple, List.toList_toArray]
      exact ⟨_, s1, AV.weak.refl _, AS.le.refl _, rfl, h⟩
    · refine awp_reg_seq ?_
      intro K hK
      simp only [↓DN, UP, implies_true, forall_eq', ne_eq, if_true, if_false, aval, abin, aint, ashift, abool, astr, anil, aun, aconv, aindexAddr, aindex, optInt, aslice, abuiltin, asrc, afill, placeOf, asetAll, undef, aload, apart, AV.cells, AV.one, aeval, updO, upd, initE, gdst, thenQ, blockQ, srcOk, Array.isEmpty, List.isEmpty, bytesV, reduceCtorEq, ↓reduceIte, Nat.reduceLT, Nat.reduceLeDiff, Nat.reduceEqDiff, Nat.reduceAdd, Nat.reduceMul, Nat.reducePow, Nat.reduceSub, Int.reduceLT, Int.reduceLE, Int.reduceToNat, RPen2108, Try.ntmps108, h6, h0, hx, decide_eq_false hi, Bool.not_true, Bool.true_eq_false, Bool.false_eq_true]
      refine hK _ _ ?_
      clear hK K
      refine awp_cond_k ?_
      intro X Y hX hY
      simp only [↓DN, UP, implies_true, forall_eq', ne_eq, if_true, if_false, aval, abin, aint, ashift, abool, astr, anil, aun, aconv, aindexAddr, aindex, optInt, aslice, abuiltin, asrc, afill, placeOf, asetAll, undef, aload, apart, AV.cells, AV.one, aeval, updO, upd, initE, gdst, thenQ, blockQ, srcOk, Array.isEmpty, List.isEmpty, bytesV, reduceCtorEq, ↓reduceIte, Nat.reduceLT, Nat.reduceLeDiff, Nat.reduceEqDiff, Nat.reduceAdd, Nat.reduceMul, Nat.reducePow, Nat.reduceSub, Int.reduceLT, Int.reduceLE, Int.reduceToNat, RPen2108, Try.ntmps108, Bool.not_true, Bool.not_false, Bool.false_eq_true, Bool.true_eq_false, false_imp_iff, true_imp_iff, decide_eq_true_eq, decide_eq_false_iff_not]
      refine hY ?_
      clear hX hY X Y
      refine awp_exit ?_
      simp only [thenQ, blockQ, if_true, retQ, AEnds, aresL, atuple, List.toList_toArray]
      exact ⟨_, s1, AV.weak.refl _, AS.le.refl _, rfl, h⟩

theorem number_any (s0 s : AS) (p : Nat) (st : List UInt8 × Bool) (n size : Nat) (hn : n < 2 ^ 64) (hs : size ≤ 8) (hl : st.1.length + 8 ≤ 2 ^ 45) (h : PenS s0 s p st) :
    ACalls Try.prog Γ 108 [.ptr p 0, .v (.int .u64 n), .v (.int .i64 size)] s (fun r s' => r = .tup [] ∧ PenS s0 s' p (penNum size n st)) := by
  obtain ⟨l, b⟩ := st
  cases b
  · exact number_calls s0 s p l n size hn hs hl h
  · exact number_bad s0 s p l n size (by omega) h

set_option maxHeartbeats 400000 in
theorem new_calls (s : AS) : ACalls Try.prog Γ 26 [] s (fun r s' => ∃ p, r = .ptr p 0 ∧ PenS s s' p ([], false)) := by
  refine acalls_body Try.func26 rfl Try.ntmps26 Try.results26 (by simp) ?_
  refine awp_reg_seq ?_
  intro K hK
  simp only [↓DN, UP, implies_true, forall_eq', ne_eq, if_true, if_false, aval, abin, aint, ashift, abool, astr, anil, aun, aconv, aindexAddr, aindex, optInt, aslice, abuiltin, asrc, afill, placeOf, asetAll, undef, aload, apart, AV.cells, AV.one, aeval, updO, upd, initE, gdst, thenQ, blockQ, srcOk, Array.isEmpty, List.isEmpty, bytesV, reduceCtorEq, ↓reduceIte, Nat.reduceLT, Nat.reduceLeDiff, Nat.reduceEqDiff, Nat.reduceAdd, Nat.reduceMul, Nat.reducePow, Nat.reduceSub, Int.reduceLT, Int.reduceLE, Int.reduceToNat, RPen226, Try.ntmps26]
  refine hK _ _ ?_
  clear hK K
  refine awp_reg_seq ?_
  intro K hK
  simp only [↓DN, UP, implies_true, forall_eq', ne_eq, if_true, if_false, aval, abin, aint, ashift, abool, astr, anil, aun, aconv, aindexAddr, aindex, optInt, aslice, abuiltin, asrc, afill, placeOf, asetAll, undef, aload, apart, AV.cells, AV.one, aeval, updO, upd, initE, gdst, thenQ, blockQ, srcOk, Array.isEmpty, List.isEmpty, bytesV, reduceCtorEq, ↓reduceIte, Nat.reduceLT, Nat.reduceLeDiff, Nat.reduceEqDiff, Nat.reduceAdd, Nat.reduceMul, Nat.reducePow, Nat.reduceSub, Int.reduceLT, Int.reduceLE, Int.reduceToNat, RPen226, Try.ntmps26, Array.toList_empty]
  intro p hp
  refine hK _ _ ?_
  refine awp_ret ?_
  simp only [↓DN, UP, implies_true, forall_eq', ne_eq, if_true, if_false, aval, abin, aint, ashift, abool, astr, anil, aun, aconv, aindexAddr, aindex, optInt, aslice, abuiltin, asrc, afill, placeOf, asetAll, undef, aload, apart, AV.cells, AV.one, aeval, updO, upd, initE, gdst, thenQ, blockQ, srcOk, Array.isEmpty, List.isEmpty, bytesV, reduceCtorEq, ↓reduceIte, Nat.reduceLT, Nat.reduceLeDiff, Nat.reduceEqDiff, Nat.reduceAdd, Nat.reduceMul, Nat.reducePow, Nat.reduceSub, Int.reduceLT, Int.reduceLE, Int.reduceToNat, RPen226, Try.ntmps26, retQ, AEnds, aresL, ares, atuple]
  exact ⟨_, _, AV.weak.refl _, AS.le.refl _, p, rfl, AS.le_set (AS.le.refl s) hp _, hp, _, AS.set_objs_same _ _ _, .inl ⟨rfl, rfl⟩⟩

set_option maxHeartbeats 400000 in
theorem small_calls (s0 s : AS) (p : Nat) (st : List UInt8 × Bool) (n : Int) (size : Nat) (hn : -9223372036854775808 ≤ n ∧ n ≤ 9223372036854775807) (hs : size ≤ 8) (hl : st.1.length + 8 ≤ 2 ^ 45) (h : PenS s0 s p st) :
    ACalls Try.prog Γ 107 [.ptr p 0, .v (.int .i64 n), .v (.int .i64 size)] s (fun r s' => r = .tup [] ∧ PenS s0 s' p (penSmall size n st)) := by
  refine acalls_body Try.func107 rfl Try.ntmps107 Try.results107 (by simp) ?_
  obtain ⟨x, hx, hb⟩ := h.obj
  refine awp_seq_k ?_
  intro K hK
  have hmul : imul .i64 8 (size : Int) = 8 * size := imul_i64 (by omega)
  have hnn : ¬ (8 * (size : Int) < 0) := by omega
  by_cases h0 : n < 0
  · refine awp_reg_seq ?_
    intro K hK
    simp only [↓DN, UP, implies_true, forall_eq', ne_eq, if_true, if_false, aval, abin, aint, ashift, abool, astr, anil, aun, aconv, aindexAddr, aindex, optInt, aslice, abuiltin, asrc, afill, placeOf, asetAll, undef, aload, apart, AV.cells, AV.one, aeval, updO, upd, initE, gdst, thenQ, blockQ, srcOk, Array.isEmpty, List.isEmpty, bytesV, reduceCtorEq, ↓reduceIte, Nat.reduceLT, Nat.reduceLeDiff, Nat.reduceEqDiff, Nat.reduceAdd, Nat.reduceMul, Nat.reducePow, Nat.reduceSub, Int.reduceLT, Int.reduceLE, Int.reduceToNat, RPen2107, Try.ntmps107, decide_eq_true h0, Bool.true_eq_false]
    refine hK _ _ ?_
    clear hK K
    refine awp_cond_k ?_
    intro X Y hX hY
    simp only [↓DN, UP, implies_true, forall_eq', ne_eq, if_true, if_false, aval, abin, aint, ashift, abool, astr, anil, aun, aconv, aindexAddr, aindex, optInt, aslice, abuiltin, asrc, afill, placeOf, asetAll, undef, aload, apart, AV.cells, AV.one, aeval, updO, upd, initE, gdst, thenQ, blockQ, srcOk, Array.isEmpty, List.isEmpty, bytesV, reduceCtorEq, ↓reduceIte, Nat.reduceLT, Nat.reduceLeDiff, Nat.reduceEqDiff, Nat.reduceAdd, Nat.reduceMul, Nat.reducePow, Nat.reduceSub, Int.reduceLT, Int.reduceLE, Int.reduceToNat, RPen2107, Try.ntmps107, Bool.not_true, Bool.not_false, Bool.false_eq_true, Bool.true_eq_false, false_imp_iff, true_imp_iff, decide_eq_true_eq, decide_eq_false_iff_not]
    refine hX ?_
    clear hX hY X Y
    refine awp_reg_seq ?_
    intro K hK
    simp only [↓DN, UP, implies_true, forall_eq', ne_eq, if_true, if_false, aval, abin, aint, ashift, abool, astr, anil, aun, aconv, aindexAddr, aindex, optInt, aslice, abuiltin, asrc, afill, placeOf, asetAll, undef, aload, apart, AV.cells, AV.one, aeval, updO, upd, initE, gdst, thenQ, blockQ, srcOk, Array.isEmpty, List.isEmpty, bytesV, reduceCtorEq, ↓reduceIte, Nat.reduceLT, Nat.reduceLeDiff, Nat.reduceEqDiff, Nat.reduceAdd, Nat.reduceMul, Nat.reducePow, Nat.reduceSub, Int.reduceLT, Int.reduceLE, Int.reduceToNat, RPen2107, Try.ntmps107, hx]
    refine hK _ _ ?_
    clear hK K
    refine awp_ret ?_
    simp only [thenQ, retQ, AEnds, aresL, atuple, List.toList_toArray]
    refine ⟨_, _, AV.weak.refl _, AS.le.refl _, rfl, ?_⟩
    have : penSmall size n st = (st.1, true) := by unfold penSmall; rw [if_neg (by omega)]
    rw [this]
    exact h.bad hx hb true
  · by_cases h1 : 2 ^ (8 * size) ≤ n
    · refine awp_reg_seq ?_
      intro K hK
      simp only [↓DN, UP, implies_true, forall_eq', ne_eq, if_true, if_false, aval, abin, aint, ashift, abool, astr, anil, aun, aconv, aindexAddr, aindex, optInt, aslice, abuiltin, asrc, afill, placeOf, asetAll, undef, aload, apart, AV.cells, AV.one, aeval, updO, upd, initE, gdst, thenQ, blockQ, srcOk, Array.isEmpty, List.isEmpty, bytesV, reduceCtorEq, ↓reduceIte, Nat.reduceLT, Nat.reduceLeDiff, Nat.reduceEqDiff, Nat.reduceAdd, Nat.reduceMul, Nat.reducePow, Nat.reduceSub, Int.reduceLT, Int.reduceLE, Int.reduceToNat, RPen2107, Try.ntmps107, decide_eq_false h0, Bool.false_eq_true, hmul, hnn, shr_small n size (by omega) (by omega), decide_eq_true h1]
      refine hK _ _ ?_
      clear hK K
      refine awp_cond_k ?_
      intro X Y hX hY
      simp only [↓DN, UP, implies_true, forall_eq', ne_eq, if_true, if_false, aval, abin, aint, ashift, abool, astr, anil, aun, aconv, aindexAddr, aindex, optInt, aslice, abuiltin, asrc, afill, placeOf, asetAll, undef, aload, apart, AV.cells, AV.one, aeval, updO, upd, initE, gdst, thenQ, blockQ, srcOk, Array.isEmpty, List.isEmpty, bytesV, reduceCtorEq, ↓reduceIte, Nat.reduceLT, Nat.reduceLeDiff, Nat.reduceEqDiff, Nat.reduceAdd, Nat.reduceMul, Nat.reducePow, Nat.reduceSub, Int.reduceLT, Int.reduceLE, Int.reduceToNat, RPen2107, Try.ntmps107, Bool.not_true, Bool.not_false, Bool.false_eq_true, Bool.true_eq_false, false_imp_iff, true_imp_iff, decide_eq_true_eq, decide_eq_false_iff_not]
      refine hX ?_
      clear hX hY X Y
      refine awp_reg_seq ?_
      intro K hK
      simp only [↓DN, UP, implies_true, forall_eq', ne_eq, if_true, if_false, aval, abin, aint, ashift, abool, astr, anil, aun, aconv, aindexAddr, aindex, optInt, aslice, abuiltin, asrc, afill, placeOf, asetAll, undef, aload, apart, AV.cells, AV.one, aeval, updO, upd, initE, gdst, thenQ, blockQ, srcOk, Array.isEmpty, List.isEmpty, bytesV, reduceCtorEq, ↓reduceIte, Nat.reduceLT, Nat.reduceLeDiff, Nat.reduceEqDiff, Nat.reduceAdd, Nat.reduceMul, Nat.reducePow, Nat.reduceSub, Int.reduceLT, Int.reduceLE, Int.reduceToNat, RPen2107, Try.ntmps107, hx]
      refine hK _ _ ?_
      clear hK K
      refine awp_ret ?_
      simp only [thenQ, retQ, AEnds, aresL, atuple, List.toList_toArray]
      refine ⟨_, _, AV.weak.refl _, AS.le.refl _, rfl, ?_⟩
      have : penSmall size n st = (st.1, true) := by unfold penSmall; rw [if_neg (by omega)]
      rw [this]
      exact h.bad hx hb true
    · refine awp_reg_seq ?_
      intro K hK
      simp only [↓DN, UP, implies_true, forall_eq', ne_eq, if_true, if_false, aval, abin, aint, ashift, abool, astr, anil, aun, aconv, aindexAddr, aindex, optInt, aslice, abuiltin, asrc, afill, placeOf, asetAll, undef, aload, apart, AV.cells, AV.one, aeval, updO, upd, initE, gdst, thenQ, blockQ, srcOk, Array.isEmpty, List.isEmpty, bytesV, reduceCtorEq, ↓reduceIte, Nat.reduceLT, Nat.reduceLeDiff, Nat.reduceEqDiff, Nat.reduceAdd, Nat.reduceMul, Nat.reducePow, Nat.reduceSub, Int.reduceLT, Int.reduceLE, Int.reduceToNat, RPen2107, Try.ntmps107, decide_eq_false h0, Bool.false_eq_true, hmul, hnn, shr_small n size (by omega) (by omega), decide_eq_false h1]
      refine hK _ _ ?_
      clear hK K
      refine awp_cond_k ?_
      intro X Y hX hY
      simp only [↓DN, UP, implies_true, forall_eq', ne_eq, if_true, if_false, aval, abin, aint, ashift, abool, astr, anil, aun, aconv, aindexAddr, aindex, optInt, aslice, abuiltin, asrc, afill, placeOf, asetAll, undef, aload, apart, AV.cells, AV.one, aeval, updO, upd, initE, gdst, thenQ, blockQ, srcOk, Array.isEmpty, List.isEmpty, bytesV, reduceCtorEq, ↓reduceIte, Nat.reduceLT, Nat.reduceLeDiff, Nat.reduceEqDiff, Nat.reduceAdd, Nat.reduceMul, Nat.reducePow, Nat.reduceSub, Int.reduceLT, Int.reduceLE, Int.reduceToNat, RPen2107, Try.ntmps107, Bool.not_true, Bool.not_false, Bool.false_eq_true, Bool.true_eq_false, false_imp_iff, true_imp_iff, decide_eq_true_eq, decide_eq_false_iff_not]
      refine hY ?_
      clear hX hY X Y
      refine awp_skip ?_
      refine hK _ _ ?_
      clear hK K
      obtain ⟨m, rfl⟩ := Int.eq_ofNat_of_zero_le (Int.not_lt.1 h0)
      have hconv : iconv .u64 (m : Int) = m := iconv_u64_nat m (by omega)
      refine awp_reg_end ?_
      intro K hK
      simp only [↓DN, UP, implies_true, forall_eq', ne_eq, if_true, if_false, aval, abin, aint, ashift, abool, astr, anil, aun, aconv, aindexAddr, aindex, optInt, aslice, abuiltin, asrc, afill, placeOf, asetAll, undef, aload, apart, AV.cells, AV.one, aeval, updO, upd, initE, gdst, thenQ, blockQ, srcOk, Array.isEmpty, List.isEmpty, bytesV, reduceCtorEq, ↓reduceIte, Nat.reduceLT, Nat.reduceLeDiff, Nat.reduceEqDiff, Nat.reduceAdd, Nat.reduceMul, Nat.reducePow, Nat.reduceSub, Int.reduceLT, Int.reduceLE, Int.reduceToNat, RPen2107, Try.ntmps107, hconv]
      refine acallk (number_any s0 s p st m size (by omega) hs hl h) ?_
      rintro r s' ⟨rfl, hp⟩
      simp only [↓AXq_nil, ↓AXq_cons, pval, List.contains_cons, List.contains_nil, Nat.reduceBEq, Bool.or_false, Bool.or_true, Bool.or_self, Bool.false_eq_true, Bool.false_or, ↓DN, UP, implies_true, forall_eq', ne_eq, if_true, if_false, aval, abin, aint, ashift, abool, astr, anil, aun, aconv, aindexAddr, aindex, optInt, aslice, abuiltin, asrc, afill, placeOf, asetAll, undef, aload, apart, AV.cells, AV.one, aeval, updO, upd, initE, gdst, thenQ, blockQ, srcOk, Array.isEmpty, List.isEmpty, bytesV, reduceCtorEq, ↓reduceIte, Nat.reduceLT, Nat.reduceLeDiff, Nat.reduceEqDiff, Nat.reduceAdd, Nat.reduceMul, Nat.reducePow, Nat.reduceSub, Int.reduceLT, Int.reduceLE, Int.reduceToNat, RPen2107, Try.ntmps107]
      refine hK _ _ ?_
      clear hK K
      simp only [retQ, AEnds, aresL, atuple, List.toList_toArray]
      refine ⟨_, _, AV.weak.refl _, AS.le.refl _, rfl, ?_⟩
      have : penSmall size m st = penNum size m st := by unfold penSmall; rw [if_pos (by omega)]; rfl
      rw [this]
      exact hp

end Go.Proofs.Ytpakgjmcaefnmaa

