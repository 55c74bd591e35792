/- Contracts of the program's functions, each walked once; the conditions stand in each theorem. -/
import Derived.Test.YtpakgjmcaefnmaaDoorSch3
set_option linter.unusedSimpArgs false
set_option linter.unusedVariables false
set_option autoImplicit false
namespace Go.Proofs.YtpakgjmcaefnmaaDoor
open Go Go.AM Go.Proofs

theorem RSch439 : type_of% (And.intro (And.intro (And.intro (And.intro @Tryd.underlying3 (And.intro T.c3 T.g3)) (And.intro (And.intro T.b3 T.z3) (And.intro @Tryd.underlying5 T.c5))) (And.intro (And.intro T.g5 (And.intro T.b5 T.z5)) (And.intro (And.intro @Tryd.underlying22 T.c22) (And.intro T.g22 T.b22)))) (And.intro (And.intro (And.intro T.z22 (And.intro T.s22 @Tryd.underlying52)) (And.intro (And.intro T.c52 T.g52) (And.intro T.b52 T.z52))) (And.intro (And.intro T.h52 (And.intro T.f52_0 T.f52_2)) (And.intro (And.intro T.f52_5 T.k40) (And.intro T.k45 T.k43))))) :=
  (And.intro (And.intro (And.intro (And.intro @Tryd.underlying3 (And.intro T.c3 T.g3)) (And.intro (And.intro T.b3 T.z3) (And.intro @Tryd.underlying5 T.c5))) (And.intro (And.intro T.g5 (And.intro T.b5 T.z5)) (And.intro (And.intro @Tryd.underlying22 T.c22) (And.intro T.g22 T.b22)))) (And.intro (And.intro (And.intro T.z22 (And.intro T.s22 @Tryd.underlying52)) (And.intro (And.intro T.c52 T.g52) (And.intro T.b52 T.z52))) (And.intro (And.intro T.h52 (And.intro T.f52_0 T.f52_2)) (And.intro (And.intro T.f52_5 T.k40) (And.intro T.k45 T.k43)))))
variable {Γ : Nat → List AV}

set_option maxHeartbeats 4000000 in
set_option maxRecDepth 100000 in
theorem awake22_calls (hG0 : Γ 0 = stC Sha.H0) (hG : Γ 1 = Sha.K.map wV) (s : AS) :
    ACalls Tryd.prog Γ 39 [] s (fun r s' => r = .v (.bool true) ∧ s' = s) := by
  refine acalls_body Tryd.func39 rfl Tryd.ntmps39 Tryd.results39 (by simp) ?_
  have hjl := Sch.joiner_len [] [] [] (by decide)
  have hj := joiner_calls (Γ := Γ) hG0 hG [] [] [] (by decide) (by decide) (by decide) s
  generalize Sch.joiner [] [] [] = j at *
  have ho := of_calls (Γ := Γ) hG0 hG j [] (by omega) (by decide) s
  have h3 := Sch.derive_len (Sch.epoch j []) Sch.exporterW
  have h6 := Sch.derive_len (Sch.epoch j []) Sch.initW
  have hof : Sch.of j [] = [j, Kdf.derive (Sch.main j) Sch.welcomeW, Kdf.derive (Sch.epoch j []) Sch.exporterW, Kdf.derive (Sch.epoch j []) Sch.confirmW, Kdf.derive (Sch.epoch j []) Sch.memberW, Kdf.derive (Sch.epoch j []) Sch.initW] := rfl
  rw [hof] at ho
  generalize Kdf.derive (Sch.main j) Sch.welcomeW = w2 at *
  generalize Kdf.derive (Sch.epoch j []) Sch.exporterW = w3 at *
  generalize Kdf.derive (Sch.epoch j []) Sch.confirmW = w4 at *
  generalize Kdf.derive (Sch.epoch j []) Sch.memberW = w5 at *
  generalize Kdf.derive (Sch.epoch j []) Sch.initW = w6 at *
  have hsame := fun s => schSame_calls (Γ := Γ) [j, w2, w3, w4, w5, w6] [j, w2, w3, w4, w5, w6] rfl rfl s
  have e1 : sixV [j, w2, w3, w4, w5, w6] = [bytesV j .any, bytesV w2 .any, bytesV w3 .any, bytesV w4 .any, bytesV w5 .any, bytesV w6 .any] := rfl
  rw [e1] at ho hsame
  have h32 : (((32 : Nat) : Int) == 32) = true := rfl
  refine awp_reg_seq ?_
  intro K hK
  simp only [↓DN, UP, implies_true, forall_eq', ne_eq, if_true, if_false, aval, abin, aint, ashift, abool, astr, anil, aun, aconv, aindexAddr, aindex, optInt, aslice, abuiltin, asrc, afill, placeOf, asetAll, undef, aload, apart, AV.cells, AV.one, aeval, updO, upd, initE, gdst, thenQ, blockQ, srcOk, Array.isEmpty, List.isEmpty, bytesV, reduceCtorEq, ↓reduceIte, Nat.reduceLT, Nat.reduceLeDiff, Nat.reduceEqDiff, Nat.reduceAdd, Nat.reduceMul, Nat.reducePow, Nat.reduceSub, Int.reduceLT, Int.reduceLE, Int.reduceToNat, RSch439, Tryd.ntmps39]
  refine hK _ _ ?_
  clear hK K
  refine awp_reg_seq ?_
  intro K hK
  simp only [↓DN, UP, implies_true, forall_eq', ne_eq, if_true, if_false, aval, abin, aint, ashift, abool, astr, anil, aun, aconv, aindexAddr, aindex, optInt, aslice, abuiltin, asrc, afill, placeOf, asetAll, undef, aload, apart, AV.cells, AV.one, aeval, updO, upd, initE, gdst, thenQ, blockQ, srcOk, Array.isEmpty, List.isEmpty, bytesV, reduceCtorEq, ↓reduceIte, Nat.reduceLT, Nat.reduceLeDiff, Nat.reduceEqDiff, Nat.reduceAdd, Nat.reduceMul, Nat.reducePow, Nat.reduceSub, Int.reduceLT, Int.reduceLE, Int.reduceToNat, RSch439, Tryd.ntmps39]
  refine acallk (ACalls.weaks (AVs.weak.cons AV.weak_nil (AVs.weak.cons AV.weak_nil (AVs.weak.cons AV.weak_nil AVs.weak.nil))) hj) ?_
  rintro r s1 ⟨rfl, rfl⟩
  simp only [↓AXq_nil, ↓AXq_cons, pval, List.contains_cons, List.contains_nil, Nat.reduceBEq, Bool.or_false, Bool.or_true, Bool.or_self, Bool.false_eq_true, Bool.false_or, ↓DN, UP, implies_true, forall_eq', ne_eq, if_true, if_false, aval, abin, aint, ashift, abool, astr, anil, aun, aconv, aindexAddr, aindex, optInt, aslice, abuiltin, asrc, afill, placeOf, asetAll, undef, aload, apart, AV.cells, AV.one, aeval, updO, upd, initE, gdst, thenQ, blockQ, srcOk, Array.isEmpty, List.isEmpty, bytesV, reduceCtorEq, ↓reduceIte, Nat.reduceLT, Nat.reduceLeDiff, Nat.reduceEqDiff, Nat.reduceAdd, Nat.reduceMul, Nat.reducePow, Nat.reduceSub, Int.reduceLT, Int.reduceLE, Int.reduceToNat, RSch439, Tryd.ntmps39]
  refine acallk (ACalls.weaks (AVs.weak.cons (AV.weak.refl _) (AVs.weak.cons AV.weak_nil AVs.weak.nil)) ho) ?_
  rintro r s2 ⟨rfl, rfl⟩
  have rep6 : ∀ x : AV, List.replicate 6 x = [x, x, x, x, x, x] := fun _ => rfl
  simp only [↓AXq_nil, ↓AXq_cons, pval, List.contains_cons, List.contains_nil, Nat.reduceBEq, Bool.or_false, Bool.or_true, Bool.or_self, Bool.false_eq_true, Bool.false_or, ↓DN, UP, implies_true, forall_eq', ne_eq, if_true, if_false, aval, abin, aint, ashift, abool, astr, anil, aun, aconv, aindexAddr, aindex, optInt, aslice, abuiltin, asrc, afill, placeOf, asetAll, undef, aload, apart, AV.cells, AV.one, aeval, updO, upd, initE, gdst, thenQ, blockQ, srcOk, Array.isEmpty, List.isEmpty, bytesV, reduceCtorEq, ↓reduceIte, Nat.reduceLT, Nat.reduceLeDiff, Nat.reduceEqDiff, Nat.reduceAdd, Nat.reduceMul, Nat.reducePow, Nat.reduceSub, Int.reduceLT, Int.reduceLE, Int.reduceToNat, RSch439, Tryd.ntmps39, rep6]
  intro o hon
  refine hK _ _ ?_
  clear hK K
  refine awp_reg_seq ?_
  intro K hK
  simp only [↓DN, UP, implies_true, forall_eq', ne_eq, if_true, if_false, aval, abin, aint, ashift, abool, astr, anil, aun, aconv, aindexAddr, aindex, optInt, aslice, abuiltin, asrc, afill, placeOf, asetAll, undef, aload, apart, AV.cells, AV.one, aeval, updO, upd, initE, gdst, thenQ, blockQ, srcOk, Array.isEmpty, List.isEmpty, bytesV, reduceCtorEq, ↓reduceIte, Nat.reduceLT, Nat.reduceLeDiff, Nat.reduceEqDiff, Nat.reduceAdd, Nat.reduceMul, Nat.reducePow, Nat.reduceSub, Int.reduceLT, Int.reduceLE, Int.reduceToNat, RSch439, Tryd.ntmps39, hjl, h3, h6, h32]
  have hs2 := hsame (s2.set o [bytesV j .any, bytesV w2 .any, bytesV w3 .any, bytesV w4 .any, bytesV w5 .any, bytesV w6 .any])
  simp only [bytesV, hjl, h3, h6] at hs2
  refine acallk hs2 ?_
  rintro r s3 ⟨rfl, rfl⟩
  simp only [↓AXq_nil, ↓AXq_cons, pval, List.contains_cons, List.contains_nil, Nat.reduceBEq, Bool.or_false, Bool.or_true, Bool.or_self, Bool.false_eq_true, Bool.false_or, ↓DN, UP, implies_true, forall_eq', ne_eq, if_true, if_false, aval, abin, aint, ashift, abool, astr, anil, aun, aconv, aindexAddr, aindex, optInt, aslice, abuiltin, asrc, afill, placeOf, asetAll, undef, aload, apart, AV.cells, AV.one, aeval, updO, upd, initE, gdst, thenQ, blockQ, srcOk, Array.isEmpty, List.isEmpty, bytesV, reduceCtorEq, ↓reduceIte, Nat.reduceLT, Nat.reduceLeDiff, Nat.reduceEqDiff, Nat.reduceAdd, Nat.reduceMul, Nat.reducePow, Nat.reduceSub, Int.reduceLT, Int.reduceLE, Int.reduceToNat, RSch439, Tryd.ntmps39, decide_true]
  refine hK _ _ ?_
  clear hK K
  refine awp_ret ?_
  simp only [retQ, AEnds, aresL, ares, List.toList_toArray, ↓upd_same]; try simp only [↓DN, UP, implies_true, forall_eq', ne_eq, if_true, if_false, aval, abin, aint, ashift, abool, astr, anil, aun, aconv, aindexAddr, aindex, optInt, aslice, abuiltin, asrc, afill, placeOf, asetAll, undef, aload, apart, AV.cells, AV.one, aeval, updO, upd, initE, gdst, thenQ, blockQ, srcOk, Array.isEmpty, List.isEmpty, bytesV, reduceCtorEq, ↓reduceIte, Nat.reduceLT, Nat.reduceLeDiff, Nat.reduceEqDiff, Nat.reduceAdd, Nat.reduceMul, Nat.reducePow, Nat.reduceSub, Int.reduceLT, Int.reduceLE, Int.reduceToNat, RSch439, Tryd.ntmps39, atuple_nil, atuple_one, atuple_two, atuple_three, atuple_four, atuple_five]
  exact ⟨_, s2, AV.weak.refl _, AS.le_set (AS.le.refl s2) hon _, rfl, rfl⟩

end Go.Proofs.YtpakgjmcaefnmaaDoor


