/- Contracts of the program's functions, each walked once; the conditions stand in each theorem. -/
import Derived.Test.YtpakgjmcaefnmaaDoorRec3
set_option linter.unusedSimpArgs false
set_option linter.unusedVariables false
set_option autoImplicit false
namespace Go.Proofs.YtpakgjmcaefnmaaDoor
open Go Go.AM Go.Proofs

theorem RRec457 : type_of% (And.intro (And.intro (And.intro (And.intro (And.intro @Tryd.underlying3 T.c3) (And.intro T.g3 (And.intro T.b3 T.z3))) (And.intro (And.intro @Tryd.underlying5 T.c5) (And.intro T.g5 (And.intro T.b5 T.z5)))) (And.intro (And.intro (And.intro @Tryd.underlying9 T.c9) (And.intro T.g9 (And.intro T.b9 T.z9))) (And.intro (And.intro @Tryd.underlying22 (And.intro T.c22 T.g22)) (And.intro T.b22 (And.intro T.z22 T.s22))))) (And.intro (And.intro (And.intro (And.intro @Tryd.underlying76 T.c76) (And.intro T.g76 (And.intro T.b76 T.z76))) (And.intro (And.intro T.h76 (And.intro @Tryd.underlying91 T.c91)) (And.intro T.g91 (And.intro T.b91 T.z91)))) (And.intro (And.intro (And.intro T.f76_0 T.f76_1) (And.intro T.f76_2 (And.intro T.f76_3 T.f76_4))) (And.intro (And.intro T.f76_5 (And.intro T.f76_6 T.f76_7)) (And.intro T.f76_8 (And.intro T.k111 T.k112)))))) :=
  (And.intro (And.intro (And.intro (And.intro (And.intro @Tryd.underlying3 T.c3) (And.intro T.g3 (And.intro T.b3 T.z3))) (And.intro (And.intro @Tryd.underlying5 T.c5) (And.intro T.g5 (And.intro T.b5 T.z5)))) (And.intro (And.intro (And.intro @Tryd.underlying9 T.c9) (And.intro T.g9 (And.intro T.b9 T.z9))) (And.intro (And.intro @Tryd.underlying22 (And.intro T.c22 T.g22)) (And.intro T.b22 (And.intro T.z22 T.s22))))) (And.intro (And.intro (And.intro (And.intro @Tryd.underlying76 T.c76) (And.intro T.g76 (And.intro T.b76 T.z76))) (And.intro (And.intro T.h76 (And.intro @Tryd.underlying91 T.c91)) (And.intro T.g91 (And.intro T.b91 T.z91)))) (And.intro (And.intro (And.intro T.f76_0 T.f76_1) (And.intro T.f76_2 (And.intro T.f76_3 T.f76_4))) (And.intro (And.intro T.f76_5 (And.intro T.f76_6 T.f76_7)) (And.intro T.f76_8 (And.intro T.k111 T.k112))))))

variable {Γ : Nat → List AV}

set_option maxRecDepth 100000 in
set_option maxHeartbeats 4000000 in
theorem awake12_calls (s : AS) : ACalls Tryd.prog Γ 57 [] s (fun r s' => r = .v (.bool true) ∧ s' = s) := by
  refine acalls_body Tryd.func57 rfl Tryd.ntmps57 Tryd.results57 (by simp) ?_
  have hR : Rec.right ⟨3, [103], 0, 0, 0, [], [], [], []⟩ := by decide
  have htl : (Rec.text ⟨3, [103], 0, 0, 0, [], [], [], []⟩).length = 32 := by decide
  refine awp_reg_seq ?_
  intro K hK
  simp only [↓DN, UP, implies_true, forall_eq', ne_eq, if_true, if_false, aval, abin, aint, ashift, abool, astr, anil, aun, aconv, aindexAddr, aindex, optInt, aslice, abuiltin, asrc, afill, placeOf, asetAll, undef, aload, apart, AV.cells, AV.one, aeval, updO, upd, initE, gdst, thenQ, blockQ, srcOk, Array.isEmpty, List.isEmpty, bytesV, reduceCtorEq, ↓reduceIte, Nat.reduceLT, Nat.reduceLeDiff, Nat.reduceEqDiff, Nat.reduceAdd, Nat.reduceMul, Nat.reducePow, Nat.reduceSub, Int.reduceLT, Int.reduceLE, Int.reduceToNat, RRec457, Tryd.ntmps57]
  refine hK _ _ ?_
  clear hK K
  refine awp_reg_seq ?_
  intro K hK
  simp only [↓DN, UP, implies_true, forall_eq', ne_eq, if_true, if_false, aval, abin, aint, ashift, abool, astr, anil, aun, aconv, aindexAddr, aindex, optInt, aslice, abuiltin, asrc, afill, placeOf, asetAll, undef, aload, apart, AV.cells, AV.one, aeval, updO, upd, initE, gdst, thenQ, blockQ, srcOk, Array.isEmpty, List.isEmpty, bytesV, reduceCtorEq, ↓reduceIte, Nat.reduceLT, Nat.reduceLeDiff, Nat.reduceEqDiff, Nat.reduceAdd, Nat.reduceMul, Nat.reducePow, Nat.reduceSub, Int.reduceLT, Int.reduceLE, Int.reduceToNat, RRec457, Tryd.ntmps57, List.replicate_succ]
  refine acallk (ACalls.weaks (.cons (AV.weak_agg (.cons (AV.weak.refl _) (.cons AV.weak_any (.cons (AV.weak.refl _) (.cons (AV.weak.refl _) (.cons (AV.weak.refl _) (.cons AV.weak_nil (.cons AV.weak_nil (.cons AV.weak_nil (.cons AV.weak_nil .nil)))))))))) .nil) (recWrite_calls ⟨3, [103], 0, 0, 0, [], [], [], []⟩ s)) ?_
  rintro r s' ⟨rfl, rfl⟩
  rw [if_pos hR, decide_eq_true hR]
  simp only [↓AXq_nil, ↓AXq_cons, pval, List.contains_cons, List.contains_nil, Nat.reduceBEq, Bool.or_false, Bool.or_true, Bool.or_self, Bool.false_eq_true, Bool.false_or, ↓DN, UP, implies_true, forall_eq', ne_eq, if_true, if_false, aval, abin, aint, ashift, abool, astr, anil, aun, aconv, aindexAddr, aindex, optInt, aslice, abuiltin, asrc, afill, placeOf, asetAll, undef, aload, apart, AV.cells, AV.one, aeval, updO, upd, initE, gdst, thenQ, blockQ, srcOk, Array.isEmpty, List.isEmpty, bytesV, reduceCtorEq, ↓reduceIte, Nat.reduceLT, Nat.reduceLeDiff, Nat.reduceEqDiff, Nat.reduceAdd, Nat.reduceMul, Nat.reducePow, Nat.reduceSub, Int.reduceLT, Int.reduceLE, Int.reduceToNat, RRec457, Tryd.ntmps57]
  refine hK _ _ ?_
  clear hK K
  refine awp_reg_seq ?_
  intro K hK
  simp only [↓DN, UP, implies_true, forall_eq', ne_eq, if_true, if_false, aval, abin, aint, ashift, abool, astr, anil, aun, aconv, aindexAddr, aindex, optInt, aslice, abuiltin, asrc, afill, placeOf, asetAll, undef, aload, apart, AV.cells, AV.one, aeval, updO, upd, initE, gdst, thenQ, blockQ, srcOk, Array.isEmpty, List.isEmpty, bytesV, reduceCtorEq, ↓reduceIte, Nat.reduceLT, Nat.reduceLeDiff, Nat.reduceEqDiff, Nat.reduceAdd, Nat.reduceMul, Nat.reducePow, Nat.reduceSub, Int.reduceLT, Int.reduceLE, Int.reduceToNat, RRec457, Tryd.ntmps57]
  have hrd := recRead_calls (Γ := Γ) (Rec.text ⟨3, [103], 0, 0, 0, [], [], [], []⟩) (by rw [htl]; decide) s'
  rw [recRead_text _ hR] at hrd
  refine acallk hrd ?_
  rintro r s'' ⟨rfl, rfl⟩
  unfold Rec.cells
  simp only [↓AXq_nil, ↓AXq_cons, pval, List.contains_cons, List.contains_nil, Nat.reduceBEq, Bool.or_false, Bool.or_true, Bool.or_self, Bool.false_eq_true, Bool.false_or, ↓DN, UP, implies_true, forall_eq', ne_eq, if_true, if_false, aval, abin, aint, ashift, abool, astr, anil, aun, aconv, aindexAddr, aindex, optInt, aslice, abuiltin, asrc, afill, placeOf, asetAll, undef, aload, apart, AV.cells, AV.one, aeval, updO, upd, initE, gdst, thenQ, blockQ, srcOk, Array.isEmpty, List.isEmpty, bytesV, reduceCtorEq, ↓reduceIte, Nat.reduceLT, Nat.reduceLeDiff, Nat.reduceEqDiff, Nat.reduceAdd, Nat.reduceMul, Nat.reducePow, Nat.reduceSub, Int.reduceLT, Int.reduceLE, Int.reduceToNat, RRec457, Tryd.ntmps57]
  intro o ho
  refine hK _ _ ?_
  clear hK K
  refine awp_reg_seq ?_
  intro K hK
  simp only [↓DN, UP, implies_true, forall_eq', ne_eq, if_true, if_false, aval, abin, aint, ashift, abool, astr, anil, aun, aconv, aindexAddr, aindex, optInt, aslice, abuiltin, asrc, afill, placeOf, asetAll, undef, aload, apart, AV.cells, AV.one, aeval, updO, upd, initE, gdst, thenQ, blockQ, srcOk, Array.isEmpty, List.isEmpty, bytesV, reduceCtorEq, ↓reduceIte, Nat.reduceLT, Nat.reduceLeDiff, Nat.reduceEqDiff, Nat.reduceAdd, Nat.reduceMul, Nat.reducePow, Nat.reduceSub, Int.reduceLT, Int.reduceLE, Int.reduceToNat, RRec457, Tryd.ntmps57, htl, show (((32 : Nat) : Int) == 32) = true from rfl]
  refine hK _ _ ?_
  clear hK K
  refine awp_ret ?_
  simp only [retQ, AEnds, aresL, ares, List.toList_toArray, ↓upd_same]; try simp only [↓DN, UP, implies_true, forall_eq', ne_eq, if_true, if_false, aval, abin, aint, ashift, abool, astr, anil, aun, aconv, aindexAddr, aindex, optInt, aslice, abuiltin, asrc, afill, placeOf, asetAll, undef, aload, apart, AV.cells, AV.one, aeval, updO, upd, initE, gdst, thenQ, blockQ, srcOk, Array.isEmpty, List.isEmpty, bytesV, reduceCtorEq, ↓reduceIte, Nat.reduceLT, Nat.reduceLeDiff, Nat.reduceEqDiff, Nat.reduceAdd, Nat.reduceMul, Nat.reducePow, Nat.reduceSub, Int.reduceLT, Int.reduceLE, Int.reduceToNat, RRec457, Tryd.ntmps57, atuple_nil, atuple_one, atuple_two, atuple_three, atuple_four, atuple_five]
  refine ⟨_, s'', AV.weak.refl _, AS.le_set (AS.le.refl _) ho _, ?_, rfl⟩
  rw [show (toBytes [byteV 103]) = ByteArray.mk [103].toArray from rfl, ByteArray.toList_mk]
  rfl

end Go.Proofs.YtpakgjmcaefnmaaDoor


