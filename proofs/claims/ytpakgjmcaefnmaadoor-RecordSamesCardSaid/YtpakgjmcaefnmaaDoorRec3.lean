/- Contracts of the program's functions, each walked once; the conditions stand in each theorem. -/
import Derived.Test.YtpakgjmcaefnmaaDoorRec2
import Derived.Test.YtpakgjmcaefnmaaDoorEyeSet
set_option linter.unusedSimpArgs false
set_option linter.unusedVariables false
set_option autoImplicit false
namespace Go.Proofs.YtpakgjmcaefnmaaDoor
open Go Go.AM Go.Proofs

theorem RRec3112 : type_of% (And.intro (And.intro (And.intro (And.intro (And.intro (And.intro @Tryd.underlying3 T.c3) (And.intro T.g3 T.b3)) (And.intro (And.intro T.z3 @Tryd.underlying4) (And.intro T.c4 T.g4))) (And.intro (And.intro (And.intro T.b4 T.z4) (And.intro @Tryd.underlying5 T.c5)) (And.intro (And.intro T.g5 T.b5) (And.intro T.z5 @Tryd.underlying22)))) (And.intro (And.intro (And.intro (And.intro T.c22 T.g22) (And.intro T.b22 T.z22)) (And.intro (And.intro T.s22 @Tryd.underlying63) (And.intro T.c63 T.g63))) (And.intro (And.intro (And.intro T.b63 T.z63) (And.intro @Tryd.underlying76 T.c76)) (And.intro (And.intro T.g76 T.b76) (And.intro T.z76 T.h76))))) (And.intro (And.intro (And.intro (And.intro (And.intro @Tryd.underlying91 T.c91) (And.intro T.g91 T.b91)) (And.intro (And.intro T.z91 @Tryd.underlying133) (And.intro T.c133 T.g133))) (And.intro (And.intro (And.intro T.b133 T.z133) (And.intro T.p133 @Tryd.underlying155)) (And.intro (And.intro T.c155 T.g155) (And.intro T.b155 T.z155)))) (And.intro (And.intro (And.intro (And.intro T.h155 T.f76_0) (And.intro T.f76_1 T.f76_2)) (And.intro (And.intro T.f76_3 T.f76_4) (And.intro T.f76_5 T.f76_6))) (And.intro (And.intro (And.intro T.f76_7 T.f76_8) (And.intro T.k141 T.k115)) (And.intro (And.intro T.k138 T.k116) (And.intro T.k137 (And.intro T.k139 T.k140))))))) :=
  (And.intro (And.intro (And.intro (And.intro (And.intro (And.intro @Tryd.underlying3 T.c3) (And.intro T.g3 T.b3)) (And.intro (And.intro T.z3 @Tryd.underlying4) (And.intro T.c4 T.g4))) (And.intro (And.intro (And.intro T.b4 T.z4) (And.intro @Tryd.underlying5 T.c5)) (And.intro (And.intro T.g5 T.b5) (And.intro T.z5 @Tryd.underlying22)))) (And.intro (And.intro (And.intro (And.intro T.c22 T.g22) (And.intro T.b22 T.z22)) (And.intro (And.intro T.s22 @Tryd.underlying63) (And.intro T.c63 T.g63))) (And.intro (And.intro (And.intro T.b63 T.z63) (And.intro @Tryd.underlying76 T.c76)) (And.intro (And.intro T.g76 T.b76) (And.intro T.z76 T.h76))))) (And.intro (And.intro (And.intro (And.intro (And.intro @Tryd.underlying91 T.c91) (And.intro T.g91 T.b91)) (And.intro (And.intro T.z91 @Tryd.underlying133) (And.intro T.c133 T.g133))) (And.intro (And.intro (And.intro T.b133 T.z133) (And.intro T.p133 @Tryd.underlying155)) (And.intro (And.intro T.c155 T.g155) (And.intro T.b155 T.z155)))) (And.intro (And.intro (And.intro (And.intro T.h155 T.f76_0) (And.intro T.f76_1 T.f76_2)) (And.intro (And.intro T.f76_3 T.f76_4) (And.intro T.f76_5 T.f76_6))) (And.intro (And.intro (And.intro T.f76_7 T.f76_8) (And.intro T.k141 T.k115)) (And.intro (And.intro T.k138 T.k116) (And.intro T.k137 (And.intro T.k139 T.k140)))))))

variable {Γ : Nat → List AV}

theorem nought_weak : (AV.agg [.v (.int .i64 0), .v (.slice none 0 0), .v (.int .i64 0), .v (.int .i64 0), .v (.int .i64 0), .v (.slice none 0 0), .v (.slice none 0 0), .v (.slice none 0 0), .v (.slice none 0 0)]).weak (.agg Rec.nought.cells) :=
  AV.weak_agg (.cons (AV.weak.refl _) (.cons AV.weak_nil (.cons (AV.weak.refl _) (.cons (AV.weak.refl _) (.cons (AV.weak.refl _) (.cons AV.weak_nil (.cons AV.weak_nil (.cons AV.weak_nil (.cons AV.weak_nil .nil)))))))))

set_option maxRecDepth 100000 in
set_option maxHeartbeats 4000000 in
theorem recRead_calls (b : List UInt8) (hb : b.length ≤ 2 ^ 44) (s : AS) : ACalls Tryd.prog Γ 112 [bytesV b .any] s (fun r s' => r = .tup [.agg (recRead b).1.cells, .v (.int .i64 (recRead b).2)] ∧ s' = s) := by
  refine acalls_body Tryd.func112 rfl Tryd.ntmps112 Tryd.results112 (by simp) ?_
  obtain ⟨q1, e1⟩ : ∃ q, q = eyeNum 1 (b, 0) := ⟨_, rfl⟩
  obtain ⟨q2, e2⟩ : ∃ q, q = eyeText 1 16 q1.2 := ⟨_, rfl⟩
  obtain ⟨q3, e3⟩ : ∃ q, q = eyeNum 8 q2.2 := ⟨_, rfl⟩
  obtain ⟨q4, e4⟩ : ∃ q, q = eyeNum 8 q3.2 := ⟨_, rfl⟩
  obtain ⟨q5, e5⟩ : ∃ q, q = eyeNum 8 q4.2 := ⟨_, rfl⟩
  obtain ⟨q6, e6⟩ : ∃ q, q = eyeText 2 60000 q5.2 := ⟨_, rfl⟩
  obtain ⟨q7, e7⟩ : ∃ q, q = eyeText 1 32 q6.2 := ⟨_, rfl⟩
  obtain ⟨q8, e8⟩ : ∃ q, q = eyeText 1 32 q7.2 := ⟨_, rfl⟩
  obtain ⟨q9, e9⟩ : ∃ q, q = eyeText 1 48 q8.2 := ⟨_, rfl⟩
  have l1 : q1.2.1.length ≤ 2 ^ 44 := by rw [e1]; exact Nat.le_trans (eyeNum_len _ _) hb
  have l2 : q2.2.1.length ≤ 2 ^ 44 := by rw [e2]; exact Nat.le_trans (eyeText_len _ _ _).2 l1
  have l3 : q3.2.1.length ≤ 2 ^ 44 := by rw [e3]; exact Nat.le_trans (eyeNum_len _ _) l2
  have l4 : q4.2.1.length ≤ 2 ^ 44 := by rw [e4]; exact Nat.le_trans (eyeNum_len _ _) l3
  have l5 : q5.2.1.length ≤ 2 ^ 44 := by rw [e5]; exact Nat.le_trans (eyeNum_len _ _) l4
  have l6 : q6.2.1.length ≤ 2 ^ 44 := by rw [e6]; exact Nat.le_trans (eyeText_len _ _ _).2 l5
  have l7 : q7.2.1.length ≤ 2 ^ 44 := by rw [e7]; exact Nat.le_trans (eyeText_len _ _ _).2 l6
  have l8 : q8.2.1.length ≤ 2 ^ 44 := by rw [e8]; exact Nat.le_trans (eyeText_len _ _ _).2 l7
  have l9 : q9.2.1.length ≤ 2 ^ 44 := by rw [e9]; exact Nat.le_trans (eyeText_len _ _ _).2 l8
  have hrr : readRec b = (⟨q1.1, q2.1, iconv .i64 (q3.1 : Int), iconv .i64 (q4.1 : Int), iconv .i64 (q5.1 : Int), q6.1, q7.1, q8.1, q9.1⟩, q9.2) := by subst e9 e8 e7 e6 e5 e4 e3 e2 e1; rfl
  refine awp_reg_seq ?_
  intro K hK
  simp only [↓DN, UP, implies_true, forall_eq', ne_eq, if_true, if_false, aval, abin, aint, ashift, abool, astr, anil, aun, aconv, aindexAddr, aindex, optInt, aslice, abuiltin, asrc, afill, placeOf, asetAll, undef, aload, apart, AV.cells, AV.one, aeval, updO, upd, initE, gdst, thenQ, blockQ, srcOk, Array.isEmpty, List.isEmpty, bytesV, reduceCtorEq, ↓reduceIte, Nat.reduceLT, Nat.reduceLeDiff, Nat.reduceEqDiff, Nat.reduceAdd, Nat.reduceMul, Nat.reducePow, Nat.reduceSub, Int.reduceLT, Int.reduceLE, Int.reduceToNat, RRec3112, Tryd.ntmps112]
  intro o2 ho2
  refine hK _ _ ?_
  clear hK K
  refine awp_reg_seq ?_
  intro K hK
  simp only [↓DN, UP, implies_true, forall_eq', ne_eq, if_true, if_false, aval, abin, aint, ashift, abool, astr, anil, aun, aconv, aindexAddr, aindex, optInt, aslice, abuiltin, asrc, afill, placeOf, asetAll, undef, aload, apart, AV.cells, AV.one, aeval, updO, upd, initE, gdst, thenQ, blockQ, srcOk, Array.isEmpty, List.isEmpty, bytesV, reduceCtorEq, ↓reduceIte, Nat.reduceLT, Nat.reduceLeDiff, Nat.reduceEqDiff, Nat.reduceAdd, Nat.reduceMul, Nat.reducePow, Nat.reduceSub, Int.reduceLT, Int.reduceLE, Int.reduceToNat, RRec3112, Tryd.ntmps112]
  refine acallk (open_set b _ (by omega)) ?_
  rintro r s1 ⟨p, hp, rfl, rfl⟩
  obtain ⟨hp2, hp0⟩ := AS.fresh_set hp
  simp only [↓AXq_nil, ↓AXq_cons, pval, List.contains_cons, List.contains_nil, Nat.reduceBEq, Bool.or_false, Bool.or_true, Bool.or_self, Bool.false_eq_true, Bool.false_or, ↓DN, UP, implies_true, forall_eq', ne_eq, if_true, if_false, aval, abin, aint, ashift, abool, astr, anil, aun, aconv, aindexAddr, aindex, optInt, aslice, abuiltin, asrc, afill, placeOf, asetAll, undef, aload, apart, AV.cells, AV.one, aeval, updO, upd, initE, gdst, thenQ, blockQ, srcOk, Array.isEmpty, List.isEmpty, bytesV, reduceCtorEq, ↓reduceIte, Nat.reduceLT, Nat.reduceLeDiff, Nat.reduceEqDiff, Nat.reduceAdd, Nat.reduceMul, Nat.reducePow, Nat.reduceSub, Int.reduceLT, Int.reduceLE, Int.reduceToNat, RRec3112, Tryd.ntmps112]
  refine hK _ _ ?_
  clear hK K
  refine awp_reg_seq ?_
  intro K hK
  simp only [↓DN, UP, implies_true, forall_eq', ne_eq, if_true, if_false, aval, abin, aint, ashift, abool, astr, anil, aun, aconv, aindexAddr, aindex, optInt, aslice, abuiltin, asrc, afill, placeOf, asetAll, undef, aload, apart, AV.cells, AV.one, aeval, updO, upd, initE, gdst, thenQ, blockQ, srcOk, Array.isEmpty, List.isEmpty, bytesV, reduceCtorEq, ↓reduceIte, Nat.reduceLT, Nat.reduceLeDiff, Nat.reduceEqDiff, Nat.reduceAdd, Nat.reduceMul, Nat.reducePow, Nat.reduceSub, Int.reduceLT, Int.reduceLE, Int.reduceToNat, RRec3112, Tryd.ntmps112]
  refine acallk (eyeU8_set _ p (b, 0) (AS.set_objs_same _ _ _)) ?_
  rintro r s' ⟨rfl, rfl⟩
  rw [← e1]
  simp only [↓AXq_nil, ↓AXq_cons, pval, List.contains_cons, List.contains_nil, Nat.reduceBEq, Bool.or_false, Bool.or_true, Bool.or_self, Bool.false_eq_true, Bool.false_or, ↓DN, UP, implies_true, forall_eq', ne_eq, if_true, if_false, aval, abin, aint, ashift, abool, astr, anil, aun, aconv, aindexAddr, aindex, optInt, aslice, abuiltin, asrc, afill, placeOf, asetAll, undef, aload, apart, AV.cells, AV.one, aeval, updO, upd, initE, gdst, thenQ, blockQ, srcOk, Array.isEmpty, List.isEmpty, bytesV, reduceCtorEq, ↓reduceIte, Nat.reduceLT, Nat.reduceLeDiff, Nat.reduceEqDiff, Nat.reduceAdd, Nat.reduceMul, Nat.reducePow, Nat.reduceSub, Int.reduceLT, Int.reduceLE, Int.reduceToNat, RRec3112, Tryd.ntmps112]
  refine acallk (eyeShort_set _ p q1.2 16 (by have := l1; omega) (AS.set_objs_same _ _ _)) ?_
  rintro r s' ⟨rfl, rfl⟩
  rw [← e2]
  simp only [↓AXq_nil, ↓AXq_cons, pval, List.contains_cons, List.contains_nil, Nat.reduceBEq, Bool.or_false, Bool.or_true, Bool.or_self, Bool.false_eq_true, Bool.false_or, ↓DN, UP, implies_true, forall_eq', ne_eq, if_true, if_false, aval, abin, aint, ashift, abool, astr, anil, aun, aconv, aindexAddr, aindex, optInt, aslice, abuiltin, asrc, afill, placeOf, asetAll, undef, aload, apart, AV.cells, AV.one, aeval, updO, upd, initE, gdst, thenQ, blockQ, srcOk, Array.isEmpty, List.isEmpty, bytesV, reduceCtorEq, ↓reduceIte, Nat.reduceLT, Nat.reduceLeDiff, Nat.reduceEqDiff, Nat.reduceAdd, Nat.reduceMul, Nat.reducePow, Nat.reduceSub, Int.reduceLT, Int.reduceLE, Int.reduceToNat, RRec3112, Tryd.ntmps112]
  refine acallk (eyeU64_set _ p q2.2 (AS.set_objs_same _ _ _)) ?_
  rintro r s' ⟨rfl, rfl⟩
  rw [← e3]
  simp only [↓AXq_nil, ↓AXq_cons, pval, List.contains_cons, List.contains_nil, Nat.reduceBEq, Bool.or_false, Bool.or_true, Bool.or_self, Bool.false_eq_true, Bool.false_or, ↓DN, UP, implies_true, forall_eq', ne_eq, if_true, if_false, aval, abin, aint, ashift, abool, astr, anil, aun, aconv, aindexAddr, aindex, optInt, aslice, abuiltin, asrc, afill, placeOf, asetAll, undef, aload, apart, AV.cells, AV.one, aeval, updO, upd, initE, gdst, thenQ, blockQ, srcOk, Array.isEmpty, List.isEmpty, bytesV, reduceCtorEq, ↓reduceIte, Nat.reduceLT, Nat.reduceLeDiff, Nat.reduceEqDiff, Nat.reduceAdd, Nat.reduceMul, Nat.reducePow, Nat.reduceSub, Int.reduceLT, Int.reduceLE, Int.reduceToNat, RRec3112, Tryd.ntmps112]
  refine acallk (eyeU64_set _ p q3.2 (AS.set_objs_same _ _ _)) ?_
  rintro r s' ⟨rfl, rfl⟩
  rw [← e4]
  simp only [↓AXq_nil, ↓AXq_cons, pval, List.contains_cons, List.contains_nil, Nat.reduceBEq, Bool.or_false, Bool.or_true, Bool.or_self, Bool.false_eq_true, Bool.false_or, ↓DN, UP, implies_true, forall_eq', ne_eq, if_true, if_false, aval, abin, aint, ashift, abool, astr, anil, aun, aconv, aindexAddr, aindex, optInt, aslice, abuiltin, asrc, afill, placeOf, asetAll, undef, aload, apart, AV.cells, AV.one, aeval, updO, upd, initE, gdst, thenQ, blockQ, srcOk, Array.isEmpty, List.isEmpty, bytesV, reduceCtorEq, ↓reduceIte, Nat.reduceLT, Nat.reduceLeDiff, Nat.reduceEqDiff, Nat.reduceAdd, Nat.reduceMul, Nat.reducePow, Nat.reduceSub, Int.reduceLT, Int.reduceLE, Int.reduceToNat, RRec3112, Tryd.ntmps112]
  refine acallk (eyeU64_set _ p q4.2 (AS.set_objs_same _ _ _)) ?_
  rintro r s' ⟨rfl, rfl⟩
  rw [← e5]
  simp only [↓AXq_nil, ↓AXq_cons, pval, List.contains_cons, List.contains_nil, Nat.reduceBEq, Bool.or_false, Bool.or_true, Bool.or_self, Bool.false_eq_true, Bool.false_or, ↓DN, UP, implies_true, forall_eq', ne_eq, if_true, if_false, aval, abin, aint, ashift, abool, astr, anil, aun, aconv, aindexAddr, aindex, optInt, aslice, abuiltin, asrc, afill, placeOf, asetAll, undef, aload, apart, AV.cells, AV.one, aeval, updO, upd, initE, gdst, thenQ, blockQ, srcOk, Array.isEmpty, List.isEmpty, bytesV, reduceCtorEq, ↓reduceIte, Nat.reduceLT, Nat.reduceLeDiff, Nat.reduceEqDiff, Nat.reduceAdd, Nat.reduceMul, Nat.reducePow, Nat.reduceSub, Int.reduceLT, Int.reduceLE, Int.reduceToNat, RRec3112, Tryd.ntmps112]
  intro o5 ho5
  have h5p : o5 ≠ p := by
    rintro rfl
    simp at ho5
  have h52 : o5 ≠ o2 := by
    rintro rfl
    simp [hp2.symm] at ho5
  have h50 : s.objs o5 = none := by simpa [h5p, h52] using ho5
  have hp5 := h5p.symm
  have h25 := h52.symm
  have h2p := hp2.symm
  refine hK _ _ ?_
  clear hK K
  refine awp_reg_seq ?_
  intro K hK
  simp only [↓DN, UP, implies_true, forall_eq', ne_eq, if_true, if_false, aval, abin, aint, ashift, abool, astr, anil, aun, aconv, aindexAddr, aindex, optInt, aslice, abuiltin, asrc, afill, placeOf, asetAll, undef, aload, apart, AV.cells, AV.one, aeval, updO, upd, initE, gdst, thenQ, blockQ, srcOk, Array.isEmpty, List.isEmpty, bytesV, reduceCtorEq, ↓reduceIte, Nat.reduceLT, Nat.reduceLeDiff, Nat.reduceEqDiff, Nat.reduceAdd, Nat.reduceMul, Nat.reducePow, Nat.reduceSub, Int.reduceLT, Int.reduceLE, Int.reduceToNat, RRec3112, Tryd.ntmps112]
  refine acallk (eyeLong_set _ p q5.2 60000 (by have := l5; omega) (by rw [AS.set_objs_ne _ hp5, AS.set_objs_same])) ?_
  rintro r s' ⟨rfl, rfl⟩
  rw [← e6]
  rw [AS.set_mid _ hp5]
  simp only [↓AXq_nil, ↓AXq_cons, pval, List.contains_cons, List.contains_nil, Nat.reduceBEq, Bool.or_false, Bool.or_true, Bool.or_self, Bool.false_eq_true, Bool.false_or, ↓DN, UP, implies_true, forall_eq', ne_eq, if_true, if_false, aval, abin, aint, ashift, abool, astr, anil, aun, aconv, aindexAddr, aindex, optInt, aslice, abuiltin, asrc, afill, placeOf, asetAll, undef, aload, apart, AV.cells, AV.one, aeval, updO, upd, initE, gdst, thenQ, blockQ, srcOk, Array.isEmpty, List.isEmpty, bytesV, reduceCtorEq, ↓reduceIte, Nat.reduceLT, Nat.reduceLeDiff, Nat.reduceEqDiff, Nat.reduceAdd, Nat.reduceMul, Nat.reducePow, Nat.reduceSub, Int.reduceLT, Int.reduceLE, Int.reduceToNat, RRec3112, Tryd.ntmps112, h5p, hp5]
  refine hK _ _ ?_
  clear hK K
  refine awp_reg_seq ?_
  intro K hK
  simp only [↓DN, UP, implies_true, forall_eq', ne_eq, if_true, if_false, aval, abin, aint, ashift, abool, astr, anil, aun, aconv, aindexAddr, aindex, optInt, aslice, abuiltin, asrc, afill, placeOf, asetAll, undef, aload, apart, AV.cells, AV.one, aeval, updO, upd, initE, gdst, thenQ, blockQ, srcOk, Array.isEmpty, List.isEmpty, bytesV, reduceCtorEq, ↓reduceIte, Nat.reduceLT, Nat.reduceLeDiff, Nat.reduceEqDiff, Nat.reduceAdd, Nat.reduceMul, Nat.reducePow, Nat.reduceSub, Int.reduceLT, Int.reduceLE, Int.reduceToNat, RRec3112, Tryd.ntmps112]
  refine acallk (eyeShort_set _ p q6.2 32 (by have := l6; omega) (by rw [AS.set_objs_ne _ hp5, AS.set_objs_same])) ?_
  rintro r s' ⟨rfl, rfl⟩
  rw [← e7]
  rw [AS.set_mid _ hp5]
  simp only [↓AXq_nil, ↓AXq_cons, pval, List.contains_cons, List.contains_nil, Nat.reduceBEq, Bool.or_false, Bool.or_true, Bool.or_self, Bool.false_eq_true, Bool.false_or, ↓DN, UP, implies_true, forall_eq', ne_eq, if_true, if_false, aval, abin, aint, ashift, abool, astr, anil, aun, aconv, aindexAddr, aindex, optInt, aslice, abuiltin, asrc, afill, placeOf, asetAll, undef, aload, apart, AV.cells, AV.one, aeval, updO, upd, initE, gdst, thenQ, blockQ, srcOk, Array.isEmpty, List.isEmpty, bytesV, reduceCtorEq, ↓reduceIte, Nat.reduceLT, Nat.reduceLeDiff, Nat.reduceEqDiff, Nat.reduceAdd, Nat.reduceMul, Nat.reducePow, Nat.reduceSub, Int.reduceLT, Int.reduceLE, Int.reduceToNat, RRec3112, Tryd.ntmps112, h5p, hp5]
  refine acallk (eyeShort_set _ p q7.2 32 (by have := l7; omega) (by rw [AS.set_objs_ne _ hp5, AS.set_objs_same])) ?_
  rintro r s' ⟨rfl, rfl⟩
  rw [← e8]
  rw [AS.set_mid _ hp5]
  simp only [↓AXq_nil, ↓AXq_cons, pval, List.contains_cons, List.contains_nil, Nat.reduceBEq, Bool.or_false, Bool.or_true, Bool.or_self, Bool.false_eq_true, Bool.false_or, ↓DN, UP, implies_true, forall_eq', ne_eq, if_true, if_false, aval, abin, aint, ashift, abool, astr, anil, aun, aconv, aindexAddr, aindex, optInt, aslice, abuiltin, asrc, afill, placeOf, asetAll, undef, aload, apart, AV.cells, AV.one, aeval, updO, upd, initE, gdst, thenQ, blockQ, srcOk, Array.isEmpty, List.isEmpty, bytesV, reduceCtorEq, ↓reduceIte, Nat.reduceLT, Nat.reduceLeDiff, Nat.reduceEqDiff, Nat.reduceAdd, Nat.reduceMul, Nat.reducePow, Nat.reduceSub, Int.reduceLT, Int.reduceLE, Int.reduceToNat, RRec3112, Tryd.ntmps112, h5p, hp5]
  refine hK _ _ ?_
  clear hK K
  refine awp_reg_seq ?_
  intro K hK
  simp only [↓DN, UP, implies_true, forall_eq', ne_eq, if_true, if_false, aval, abin, aint, ashift, abool, astr, anil, aun, aconv, aindexAddr, aindex, optInt, aslice, abuiltin, asrc, afill, placeOf, asetAll, undef, aload, apart, AV.cells, AV.one, aeval, updO, upd, initE, gdst, thenQ, blockQ, srcOk, Array.isEmpty, List.isEmpty, bytesV, reduceCtorEq, ↓reduceIte, Nat.reduceLT, Nat.reduceLeDiff, Nat.reduceEqDiff, Nat.reduceAdd, Nat.reduceMul, Nat.reducePow, Nat.reduceSub, Int.reduceLT, Int.reduceLE, Int.reduceToNat, RRec3112, Tryd.ntmps112]
  refine acallk (eyeShort_set _ p q8.2 48 (by have := l8; omega) (by rw [AS.set_objs_ne _ hp5, AS.set_objs_same])) ?_
  rintro r s' ⟨rfl, rfl⟩
  rw [← e9]
  rw [AS.set_mid _ hp5]
  simp only [↓AXq_nil, ↓AXq_cons, pval, List.contains_cons, List.contains_nil, Nat.reduceBEq, Bool.or_false, Bool.or_true, Bool.or_self, Bool.false_eq_true, Bool.false_or, ↓DN, UP, implies_true, forall_eq', ne_eq, if_true, if_false, aval, abin, aint, ashift, abool, astr, anil, aun, aconv, aindexAddr, aindex, optInt, aslice, abuiltin, asrc, afill, placeOf, asetAll, undef, aload, apart, AV.cells, AV.one, aeval, updO, upd, initE, gdst, thenQ, blockQ, srcOk, Array.isEmpty, List.isEmpty, bytesV, reduceCtorEq, ↓reduceIte, Nat.reduceLT, Nat.reduceLeDiff, Nat.reduceEqDiff, Nat.reduceAdd, Nat.reduceMul, Nat.reducePow, Nat.reduceSub, Int.reduceLT, Int.reduceLE, Int.reduceToNat, RRec3112, Tryd.ntmps112, h5p, hp5]
  refine hK _ _ ?_
  clear hK K
  refine awp_seq_k ?_
  intro K hK
  refine awp_reg_seq ?_
  intro K hK
  simp only [↓DN, UP, implies_true, forall_eq', ne_eq, if_true, if_false, aval, abin, aint, ashift, abool, astr, anil, aun, aconv, aindexAddr, aindex, optInt, aslice, abuiltin, asrc, afill, placeOf, asetAll, undef, aload, apart, AV.cells, AV.one, aeval, updO, upd, initE, gdst, thenQ, blockQ, srcOk, Array.isEmpty, List.isEmpty, bytesV, reduceCtorEq, ↓reduceIte, Nat.reduceLT, Nat.reduceLeDiff, Nat.reduceEqDiff, Nat.reduceAdd, Nat.reduceMul, Nat.reducePow, Nat.reduceSub, Int.reduceLT, Int.reduceLE, Int.reduceToNat, RRec3112, Tryd.ntmps112]
  refine acallk (eyeEnd_at _ p q9.2 (by rw [AS.set_objs_ne _ hp5, AS.set_objs_same])) ?_
  rintro r s' ⟨rfl, rfl⟩
  simp only [↓AXq_nil, ↓AXq_cons, pval, List.contains_cons, List.contains_nil, Nat.reduceBEq, Bool.or_false, Bool.or_true, Bool.or_self, Bool.false_eq_true, Bool.false_or, ↓DN, UP, implies_true, forall_eq', ne_eq, if_true, if_false, aval, abin, aint, ashift, abool, astr, anil, aun, aconv, aindexAddr, aindex, optInt, aslice, abuiltin, asrc, afill, placeOf, asetAll, undef, aload, apart, AV.cells, AV.one, aeval, updO, upd, initE, gdst, thenQ, blockQ, srcOk, Array.isEmpty, List.isEmpty, bytesV, reduceCtorEq, ↓reduceIte, Nat.reduceLT, Nat.reduceLeDiff, Nat.reduceEqDiff, Nat.reduceAdd, Nat.reduceMul, Nat.reducePow, Nat.reduceSub, Int.reduceLT, Int.reduceLE, Int.reduceToNat, RRec3112, Tryd.ntmps112]
  refine hK _ _ ?_
  clear hK K
  by_cases he : eyeEnd q9.2 = 0
  · rw [he]
    refine awp_reg_seq ?_
    intro K hK
    simp only [↓DN, UP, implies_true, forall_eq', ne_eq, if_true, if_false, aval, abin, aint, ashift, abool, astr, anil, aun, aconv, aindexAddr, aindex, optInt, aslice, abuiltin, asrc, afill, placeOf, asetAll, undef, aload, apart, AV.cells, AV.one, aeval, updO, upd, initE, gdst, thenQ, blockQ, srcOk, Array.isEmpty, List.isEmpty, bytesV, reduceCtorEq, ↓reduceIte, Nat.reduceLT, Nat.reduceLeDiff, Nat.reduceEqDiff, Nat.reduceAdd, Nat.reduceMul, Nat.reducePow, Nat.reduceSub, Int.reduceLT, Int.reduceLE, Int.reduceToNat, RRec3112, Tryd.ntmps112, i64_ne_false 0 rfl]
    refine hK _ _ ?_
    clear hK K
    refine awp_cond_k ?_
    intro X Y hX hY
    simp only [↓DN, UP, implies_true, forall_eq', ne_eq, if_true, if_false, aval, abin, aint, ashift, abool, astr, anil, aun, aconv, aindexAddr, aindex, optInt, aslice, abuiltin, asrc, afill, placeOf, asetAll, undef, aload, apart, AV.cells, AV.one, aeval, updO, upd, initE, gdst, thenQ, blockQ, srcOk, Array.isEmpty, List.isEmpty, bytesV, reduceCtorEq, ↓reduceIte, Nat.reduceLT, Nat.reduceLeDiff, Nat.reduceEqDiff, Nat.reduceAdd, Nat.reduceMul, Nat.reducePow, Nat.reduceSub, Int.reduceLT, Int.reduceLE, Int.reduceToNat, RRec3112, Tryd.ntmps112, Bool.not_true, Bool.not_false, Bool.false_eq_true, Bool.true_eq_false, false_imp_iff, true_imp_iff, decide_eq_true_eq, decide_eq_false_iff_not]
    refine hY ?_
    clear hX hY X Y
    refine awp_skip ?_
    refine hK _ _ ?_
    clear hK K
    refine awp_seq_k ?_
    intro K hK
    refine awp_reg_seq ?_
    intro K hK
    simp only [↓DN, UP, implies_true, forall_eq', ne_eq, if_true, if_false, aval, abin, aint, ashift, abool, astr, anil, aun, aconv, aindexAddr, aindex, optInt, aslice, abuiltin, asrc, afill, placeOf, asetAll, undef, aload, apart, AV.cells, AV.one, aeval, updO, upd, initE, gdst, thenQ, blockQ, srcOk, Array.isEmpty, List.isEmpty, bytesV, reduceCtorEq, ↓reduceIte, Nat.reduceLT, Nat.reduceLeDiff, Nat.reduceEqDiff, Nat.reduceAdd, Nat.reduceMul, Nat.reducePow, Nat.reduceSub, Int.reduceLT, Int.reduceLE, Int.reduceToNat, RRec3112, Tryd.ntmps112, h5p, hp5]
    refine acallk (recRight_calls ⟨q1.1, q2.1, iconv .i64 (q3.1 : Int), iconv .i64 (q4.1 : Int), iconv .i64 (q5.1 : Int), q6.1, q7.1, q8.1, q9.1⟩ _) ?_
    rintro r s' ⟨rfl, rfl⟩
    by_cases hr : Rec.right ⟨q1.1, q2.1, iconv .i64 (q3.1 : Int), iconv .i64 (q4.1 : Int), iconv .i64 (q5.1 : Int), q6.1, q7.1, q8.1, q9.1⟩
    · rw [decide_eq_true hr]
      simp only [↓AXq_nil, ↓AXq_cons, pval, List.contains_cons, List.contains_nil, Nat.reduceBEq, Bool.or_false, Bool.or_true, Bool.or_self, Bool.false_eq_true, Bool.false_or, ↓DN, UP, implies_true, forall_eq', ne_eq, if_true, if_false, aval, abin, aint, ashift, abool, astr, anil, aun, aconv, aindexAddr, aindex, optInt, aslice, abuiltin, asrc, afill, placeOf, asetAll, undef, aload, apart, AV.cells, AV.one, aeval, updO, upd, initE, gdst, thenQ, blockQ, srcOk, Array.isEmpty, List.isEmpty, bytesV, reduceCtorEq, ↓reduceIte, Nat.reduceLT, Nat.reduceLeDiff, Nat.reduceEqDiff, Nat.reduceAdd, Nat.reduceMul, Nat.reducePow, Nat.reduceSub, Int.reduceLT, Int.reduceLE, Int.reduceToNat, RRec3112, Tryd.ntmps112]
      refine hK _ _ ?_
      clear hK K
      refine awp_cond_k ?_
      intro X Y hX hY
      simp only [↓DN, UP, implies_true, forall_eq', ne_eq, if_true, if_false, aval, abin, aint, ashift, abool, astr, anil, aun, aconv, aindexAddr, aindex, optInt, aslice, abuiltin, asrc, afill, placeOf, asetAll, undef, aload, apart, AV.cells, AV.one, aeval, updO, upd, initE, gdst, thenQ, blockQ, srcOk, Array.isEmpty, List.isEmpty, bytesV, reduceCtorEq, ↓reduceIte, Nat.reduceLT, Nat.reduceLeDiff, Nat.reduceEqDiff, Nat.reduceAdd, Nat.reduceMul, Nat.reducePow, Nat.reduceSub, Int.reduceLT, Int.reduceLE, Int.reduceToNat, RRec3112, Tryd.ntmps112, Bool.not_true, Bool.not_false, Bool.false_eq_true, Bool.true_eq_false, false_imp_iff, true_imp_iff, decide_eq_true_eq, decide_eq_false_iff_not]
      refine hY ?_
      clear hX hY X Y
      refine awp_skip ?_
      refine hK _ _ ?_
      clear hK K
      refine awp_reg_seq ?_
      intro K hK
      simp only [↓DN, UP, implies_true, forall_eq', ne_eq, if_true, if_false, aval, abin, aint, ashift, abool, astr, anil, aun, aconv, aindexAddr, aindex, optInt, aslice, abuiltin, asrc, afill, placeOf, asetAll, undef, aload, apart, AV.cells, AV.one, aeval, updO, upd, initE, gdst, thenQ, blockQ, srcOk, Array.isEmpty, List.isEmpty, bytesV, reduceCtorEq, ↓reduceIte, Nat.reduceLT, Nat.reduceLeDiff, Nat.reduceEqDiff, Nat.reduceAdd, Nat.reduceMul, Nat.reducePow, Nat.reduceSub, Int.reduceLT, Int.reduceLE, Int.reduceToNat, RRec3112, Tryd.ntmps112, h5p, hp5, h52, h25, hp2, h2p]
      refine hK _ _ ?_
      clear hK K
      refine awp_ret ?_
      refine aends_cell_tmp (o := o2) (off := 0) (by simp only [upd, Nat.reduceEqDiff, ↓reduceIte]) (AS.set_objs_same _ _ _) (by rw [T.c76]; decide) (by simp only [↓DN, UP, implies_true, forall_eq', ne_eq, if_true, if_false, aval, abin, aint, ashift, abool, astr, anil, aun, aconv, aindexAddr, aindex, optInt, aslice, abuiltin, asrc, afill, placeOf, asetAll, undef, aload, apart, AV.cells, AV.one, aeval, updO, upd, initE, gdst, thenQ, blockQ, srcOk, Array.isEmpty, List.isEmpty, bytesV, reduceCtorEq, ↓reduceIte, Nat.reduceLT, Nat.reduceLeDiff, Nat.reduceEqDiff, Nat.reduceAdd, Nat.reduceMul, Nat.reducePow, Nat.reduceSub, Int.reduceLT, Int.reduceLE, Int.reduceToNat, RRec3112, Tryd.ntmps112]; rfl) ?_
      rw [show recRead b = (⟨q1.1, q2.1, iconv .i64 (q3.1 : Int), iconv .i64 (q4.1 : Int), iconv .i64 (q5.1 : Int), q6.1, q7.1, q8.1, q9.1⟩, 0) from by unfold recRead; rw [hrr]; exact (if_pos he).trans (if_pos hr)]
      exact ⟨_, s, AV.weak.refl _, AS.le_set (AS.le_set (AS.le_set (AS.le_set (AS.le.refl s) ho2 _) hp0 _) h50 _) ho2 _, rfl, rfl⟩
    · rw [decide_eq_false hr]
      simp only [↓AXq_nil, ↓AXq_cons, pval, List.contains_cons, List.contains_nil, Nat.reduceBEq, Bool.or_false, Bool.or_true, Bool.or_self, Bool.false_eq_true, Bool.false_or, ↓DN, UP, implies_true, forall_eq', ne_eq, if_true, if_false, aval, abin, aint, ashift, abool, astr, anil, aun, aconv, aindexAddr, aindex, optInt, aslice, abuiltin, asrc, afill, placeOf, asetAll, undef, aload, apart, AV.cells, AV.one, aeval, updO, upd, initE, gdst, thenQ, blockQ, srcOk, Array.isEmpty, List.isEmpty, bytesV, reduceCtorEq, ↓reduceIte, Nat.reduceLT, Nat.reduceLeDiff, Nat.reduceEqDiff, Nat.reduceAdd, Nat.reduceMul, Nat.reducePow, Nat.reduceSub, Int.reduceLT, Int.reduceLE, Int.reduceToNat, RRec3112, Tryd.ntmps112]
      refine hK _ _ ?_
      clear hK K
      refine awp_cond_k ?_
      intro X Y hX hY
      simp only [↓DN, UP, implies_true, forall_eq', ne_eq, if_true, if_false, aval, abin, aint, ashift, abool, astr, anil, aun, aconv, aindexAddr, aindex, optInt, aslice, abuiltin, asrc, afill, placeOf, asetAll, undef, aload, apart, AV.cells, AV.one, aeval, updO, upd, initE, gdst, thenQ, blockQ, srcOk, Array.isEmpty, List.isEmpty, bytesV, reduceCtorEq, ↓reduceIte, Nat.reduceLT, Nat.reduceLeDiff, Nat.reduceEqDiff, Nat.reduceAdd, Nat.reduceMul, Nat.reducePow, Nat.reduceSub, Int.reduceLT, Int.reduceLE, Int.reduceToNat, RRec3112, Tryd.ntmps112, Bool.not_true, Bool.not_false, Bool.false_eq_true, Bool.true_eq_false, false_imp_iff, true_imp_iff, decide_eq_true_eq, decide_eq_false_iff_not]
      refine hX ?_
      clear hX hY X Y
      refine awp_reg_seq ?_
      intro K hK
      simp only [↓DN, UP, implies_true, forall_eq', ne_eq, if_true, if_false, aval, abin, aint, ashift, abool, astr, anil, aun, aconv, aindexAddr, aindex, optInt, aslice, abuiltin, asrc, afill, placeOf, asetAll, undef, aload, apart, AV.cells, AV.one, aeval, updO, upd, initE, gdst, thenQ, blockQ, srcOk, Array.isEmpty, List.isEmpty, bytesV, reduceCtorEq, ↓reduceIte, Nat.reduceLT, Nat.reduceLeDiff, Nat.reduceEqDiff, Nat.reduceAdd, Nat.reduceMul, Nat.reducePow, Nat.reduceSub, Int.reduceLT, Int.reduceLE, Int.reduceToNat, RRec3112, Tryd.ntmps112, h5p, hp5, h52, h25, hp2, h2p]
      refine hK _ _ ?_
      clear hK K
      refine awp_ret ?_
      refine aends_cell_tmp (o := o2) (off := 0) (by simp only [upd, Nat.reduceEqDiff, ↓reduceIte]) (AS.set_objs_same _ _ _) (by rw [T.c76]; decide) (by simp only [↓DN, UP, implies_true, forall_eq', ne_eq, if_true, if_false, aval, abin, aint, ashift, abool, astr, anil, aun, aconv, aindexAddr, aindex, optInt, aslice, abuiltin, asrc, afill, placeOf, asetAll, undef, aload, apart, AV.cells, AV.one, aeval, updO, upd, initE, gdst, thenQ, blockQ, srcOk, Array.isEmpty, List.isEmpty, bytesV, reduceCtorEq, ↓reduceIte, Nat.reduceLT, Nat.reduceLeDiff, Nat.reduceEqDiff, Nat.reduceAdd, Nat.reduceMul, Nat.reducePow, Nat.reduceSub, Int.reduceLT, Int.reduceLE, Int.reduceToNat, RRec3112, Tryd.ntmps112]; rfl) ?_
      rw [show recRead b = (Rec.nought, 12) from by unfold recRead; rw [hrr]; exact (if_pos he).trans (if_neg hr)]
      exact ⟨_, s, AV.weak_tup2 nought_weak (AV.weak.refl _), AS.le_set (AS.le_set (AS.le_set (AS.le_set (AS.le.refl s) ho2 _) hp0 _) h50 _) ho2 _, rfl, rfl⟩
  · refine awp_reg_seq ?_
    intro K hK
    simp only [↓DN, UP, implies_true, forall_eq', ne_eq, if_true, if_false, aval, abin, aint, ashift, abool, astr, anil, aun, aconv, aindexAddr, aindex, optInt, aslice, abuiltin, asrc, afill, placeOf, asetAll, undef, aload, apart, AV.cells, AV.one, aeval, updO, upd, initE, gdst, thenQ, blockQ, srcOk, Array.isEmpty, List.isEmpty, bytesV, reduceCtorEq, ↓reduceIte, Nat.reduceLT, Nat.reduceLeDiff, Nat.reduceEqDiff, Nat.reduceAdd, Nat.reduceMul, Nat.reducePow, Nat.reduceSub, Int.reduceLT, Int.reduceLE, Int.reduceToNat, RRec3112, Tryd.ntmps112, i64_ne_true _ he]
    refine hK _ _ ?_
    clear hK K
    refine awp_cond_k ?_
    intro X Y hX hY
    simp only [↓DN, UP, implies_true, forall_eq', ne_eq, if_true, if_false, aval, abin, aint, ashift, abool, astr, anil, aun, aconv, aindexAddr, aindex, optInt, aslice, abuiltin, asrc, afill, placeOf, asetAll, undef, aload, apart, AV.cells, AV.one, aeval, updO, upd, initE, gdst, thenQ, blockQ, srcOk, Array.isEmpty, List.isEmpty, bytesV, reduceCtorEq, ↓reduceIte, Nat.reduceLT, Nat.reduceLeDiff, Nat.reduceEqDiff, Nat.reduceAdd, Nat.reduceMul, Nat.reducePow, Nat.reduceSub, Int.reduceLT, Int.reduceLE, Int.reduceToNat, RRec3112, Tryd.ntmps112, Bool.not_true, Bool.not_false, Bool.false_eq_true, Bool.true_eq_false, false_imp_iff, true_imp_iff, decide_eq_true_eq, decide_eq_false_iff_not]
    refine hX ?_
    clear hX hY X Y
    refine awp_reg_seq ?_
    intro K hK
    simp only [↓DN, UP, implies_true, forall_eq', ne_eq, if_true, if_false, aval, abin, aint, ashift, abool, astr, anil, aun, aconv, aindexAddr, aindex, optInt, aslice, abuiltin, asrc, afill, placeOf, asetAll, undef, aload, apart, AV.cells, AV.one, aeval, updO, upd, initE, gdst, thenQ, blockQ, srcOk, Array.isEmpty, List.isEmpty, bytesV, reduceCtorEq, ↓reduceIte, Nat.reduceLT, Nat.reduceLeDiff, Nat.reduceEqDiff, Nat.reduceAdd, Nat.reduceMul, Nat.reducePow, Nat.reduceSub, Int.reduceLT, Int.reduceLE, Int.reduceToNat, RRec3112, Tryd.ntmps112, h5p, hp5, h52, h25, hp2, h2p]
    refine hK _ _ ?_
    clear hK K
    refine awp_ret ?_
    refine aends_cell_tmp (o := o2) (off := 0) (by simp only [upd, Nat.reduceEqDiff, ↓reduceIte]) (AS.set_objs_same _ _ _) (by rw [T.c76]; decide) (by simp only [↓DN, UP, implies_true, forall_eq', ne_eq, if_true, if_false, aval, abin, aint, ashift, abool, astr, anil, aun, aconv, aindexAddr, aindex, optInt, aslice, abuiltin, asrc, afill, placeOf, asetAll, undef, aload, apart, AV.cells, AV.one, aeval, updO, upd, initE, gdst, thenQ, blockQ, srcOk, Array.isEmpty, List.isEmpty, bytesV, reduceCtorEq, ↓reduceIte, Nat.reduceLT, Nat.reduceLeDiff, Nat.reduceEqDiff, Nat.reduceAdd, Nat.reduceMul, Nat.reducePow, Nat.reduceSub, Int.reduceLT, Int.reduceLE, Int.reduceToNat, RRec3112, Tryd.ntmps112]; rfl) ?_
    rw [show recRead b = (Rec.nought, eyeEnd q9.2) from by unfold recRead; rw [hrr]; exact if_neg he]
    exact ⟨_, s, AV.weak_tup2 nought_weak (AV.weak.refl _), AS.le_set (AS.le_set (AS.le_set (AS.le_set (AS.le.refl s) ho2 _) hp0 _) h50 _) ho2 _, rfl, rfl⟩

end Go.Proofs.YtpakgjmcaefnmaaDoor


