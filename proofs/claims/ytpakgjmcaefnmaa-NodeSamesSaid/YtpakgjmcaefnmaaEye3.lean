/- Contracts of the program's functions, each walked once; the conditions stand in each theorem. -/
import Derived.Test.YtpakgjmcaefnmaaEye2
set_option linter.unusedSimpArgs false
set_option linter.unusedVariables false
set_option autoImplicit false
namespace Go.Proofs.Ytpakgjmcaefnmaa
open Go Go.AM Go.Proofs

theorem REye366 : type_of% (And.intro (And.intro (And.intro (And.intro (And.intro @Try.underlying3 T.c3) (And.intro T.g3 T.b3)) (And.intro (And.intro T.z3 @Try.underlying5) (And.intro T.c5 T.g5))) (And.intro (And.intro (And.intro T.b5 T.z5) (And.intro @Try.underlying22 T.c22)) (And.intro (And.intro T.g22 T.b22) (And.intro T.z22 (And.intro T.s22 @Try.underlying57))))) (And.intro (And.intro (And.intro (And.intro T.c57 T.g57) (And.intro T.b57 T.z57)) (And.intro (And.intro @Try.underlying72 T.c72) (And.intro T.g72 (And.intro T.b72 T.z72)))) (And.intro (And.intro (And.intro T.p72 @Try.underlying143) (And.intro T.c143 T.g143)) (And.intro (And.intro T.b143 T.z143) (And.intro T.h143 (And.intro T.k118 T.k110)))))) :=
  (And.intro (And.intro (And.intro (And.intro (And.intro @Try.underlying3 T.c3) (And.intro T.g3 T.b3)) (And.intro (And.intro T.z3 @Try.underlying5) (And.intro T.c5 T.g5))) (And.intro (And.intro (And.intro T.b5 T.z5) (And.intro @Try.underlying22 T.c22)) (And.intro (And.intro T.g22 T.b22) (And.intro T.z22 (And.intro T.s22 @Try.underlying57))))) (And.intro (And.intro (And.intro (And.intro T.c57 T.g57) (And.intro T.b57 T.z57)) (And.intro (And.intro @Try.underlying72 T.c72) (And.intro T.g72 (And.intro T.b72 T.z72)))) (And.intro (And.intro (And.intro T.p72 @Try.underlying143) (And.intro T.c143 T.g143)) (And.intro (And.intro T.b143 T.z143) (And.intro T.h143 (And.intro T.k118 T.k110))))))
theorem REye365 : type_of% (And.intro (And.intro (And.intro (And.intro (And.intro @Try.underlying3 T.c3) (And.intro T.g3 T.b3)) (And.intro (And.intro T.z3 @Try.underlying22) (And.intro T.c22 T.g22))) (And.intro (And.intro (And.intro T.b22 T.z22) (And.intro T.s22 @Try.underlying37)) (And.intro (And.intro T.c37 T.g37) (And.intro T.b37 (And.intro T.z37 @Try.underlying57))))) (And.intro (And.intro (And.intro (And.intro T.c57 T.g57) (And.intro T.b57 T.z57)) (And.intro (And.intro @Try.underlying72 T.c72) (And.intro T.g72 T.b72))) (And.intro (And.intro (And.intro T.z72 T.p72) (And.intro @Try.underlying143 T.c143)) (And.intro (And.intro T.g143 T.b143) (And.intro T.z143 (And.intro T.h143 T.k116)))))) :=
  (And.intro (And.intro (And.intro (And.intro (And.intro @Try.underlying3 T.c3) (And.intro T.g3 T.b3)) (And.intro (And.intro T.z3 @Try.underlying22) (And.intro T.c22 T.g22))) (And.intro (And.intro (And.intro T.b22 T.z22) (And.intro T.s22 @Try.underlying37)) (And.intro (And.intro T.c37 T.g37) (And.intro T.b37 (And.intro T.z37 @Try.underlying57))))) (And.intro (And.intro (And.intro (And.intro T.c57 T.g57) (And.intro T.b57 T.z57)) (And.intro (And.intro @Try.underlying72 T.c72) (And.intro T.g72 T.b72))) (And.intro (And.intro (And.intro T.z72 T.p72) (And.intro @Try.underlying143 T.c143)) (And.intro (And.intro T.g143 T.b143) (And.intro T.z143 (And.intro T.h143 T.k116))))))
theorem REye359 : type_of% (And.intro (And.intro (And.intro (And.intro (And.intro @Try.underlying3 T.c3) (And.intro T.g3 T.b3)) (And.intro (And.intro T.z3 @Try.underlying22) (And.intro T.c22 T.g22))) (And.intro (And.intro (And.intro T.b22 T.z22) (And.intro T.s22 @Try.underlying37)) (And.intro (And.intro T.c37 T.g37) (And.intro T.b37 (And.intro T.z37 @Try.underlying57))))) (And.intro (And.intro (And.intro (And.intro T.c57 T.g57) (And.intro T.b57 T.z57)) (And.intro (And.intro @Try.underlying72 T.c72) (And.intro T.g72 T.b72))) (And.intro (And.intro (And.intro T.z72 T.p72) (And.intro @Try.underlying143 T.c143)) (And.intro (And.intro T.g143 T.b143) (And.intro T.z143 (And.intro T.h143 T.k116)))))) :=
  (And.intro (And.intro (And.intro (And.intro (And.intro @Try.underlying3 T.c3) (And.intro T.g3 T.b3)) (And.intro (And.intro T.z3 @Try.underlying22) (And.intro T.c22 T.g22))) (And.intro (And.intro (And.intro T.b22 T.z22) (And.intro T.s22 @Try.underlying37)) (And.intro (And.intro T.c37 T.g37) (And.intro T.b37 (And.intro T.z37 @Try.underlying57))))) (And.intro (And.intro (And.intro (And.intro T.c57 T.g57) (And.intro T.b57 T.z57)) (And.intro (And.intro @Try.underlying72 T.c72) (And.intro T.g72 T.b72))) (And.intro (And.intro (And.intro T.z72 T.p72) (And.intro @Try.underlying143 T.c143)) (And.intro (And.intro T.g143 T.b143) (And.intro T.z143 (And.intro T.h143 T.k116))))))
theorem REye363 : type_of% (And.intro (And.intro (And.intro (And.intro (And.intro @Try.underlying3 T.c3) (And.intro T.g3 T.b3)) (And.intro (And.intro T.z3 @Try.underlying22) (And.intro T.c22 T.g22))) (And.intro (And.intro (And.intro T.b22 T.z22) (And.intro T.s22 @Try.underlying37)) (And.intro (And.intro T.c37 T.g37) (And.intro T.b37 (And.intro T.z37 @Try.underlying57))))) (And.intro (And.intro (And.intro (And.intro T.c57 T.g57) (And.intro T.b57 T.z57)) (And.intro (And.intro @Try.underlying72 T.c72) (And.intro T.g72 T.b72))) (And.intro (And.intro (And.intro T.z72 T.p72) (And.intro @Try.underlying143 T.c143)) (And.intro (And.intro T.g143 T.b143) (And.intro T.z143 (And.intro T.h143 T.k116)))))) :=
  (And.intro (And.intro (And.intro (And.intro (And.intro @Try.underlying3 T.c3) (And.intro T.g3 T.b3)) (And.intro (And.intro T.z3 @Try.underlying22) (And.intro T.c22 T.g22))) (And.intro (And.intro (And.intro T.b22 T.z22) (And.intro T.s22 @Try.underlying37)) (And.intro (And.intro T.c37 T.g37) (And.intro T.b37 (And.intro T.z37 @Try.underlying57))))) (And.intro (And.intro (And.intro (And.intro T.c57 T.g57) (And.intro T.b57 T.z57)) (And.intro (And.intro @Try.underlying72 T.c72) (And.intro T.g72 T.b72))) (And.intro (And.intro (And.intro T.z72 T.p72) (And.intro @Try.underlying143 T.c143)) (And.intro (And.intro T.g143 T.b143) (And.intro T.z143 (And.intro T.h143 T.k116))))))
theorem REye357 : type_of% (And.intro (And.intro (And.intro (And.intro @Try.underlying3 (And.intro T.c3 T.g3)) (And.intro (And.intro T.b3 T.z3) (And.intro @Try.underlying22 T.c22))) (And.intro (And.intro T.g22 (And.intro T.b22 T.z22)) (And.intro (And.intro T.s22 @Try.underlying57) (And.intro T.c57 T.g57)))) (And.intro (And.intro (And.intro T.b57 (And.intro T.z57 @Try.underlying72)) (And.intro (And.intro T.c72 T.g72) (And.intro T.b72 T.z72))) (And.intro (And.intro (And.intro T.p72 @Try.underlying143) (And.intro T.c143 T.g143)) (And.intro (And.intro T.b143 T.z143) (And.intro T.h143 T.k116))))) :=
  (And.intro (And.intro (And.intro (And.intro @Try.underlying3 (And.intro T.c3 T.g3)) (And.intro (And.intro T.b3 T.z3) (And.intro @Try.underlying22 T.c22))) (And.intro (And.intro T.g22 (And.intro T.b22 T.z22)) (And.intro (And.intro T.s22 @Try.underlying57) (And.intro T.c57 T.g57)))) (And.intro (And.intro (And.intro T.b57 (And.intro T.z57 @Try.underlying72)) (And.intro (And.intro T.c72 T.g72) (And.intro T.b72 T.z72))) (And.intro (And.intro (And.intro T.p72 @Try.underlying143) (And.intro T.c143 T.g143)) (And.intro (And.intro T.b143 T.z143) (And.intro T.h143 T.k116)))))
theorem REye3117 : type_of% (And.intro (And.intro (And.intro (And.intro (And.intro @Try.underlying3 T.c3) (And.intro T.g3 (And.intro T.b3 T.z3))) (And.intro (And.intro @Try.underlying5 T.c5) (And.intro T.g5 (And.intro T.b5 T.z5)))) (And.intro (And.intro (And.intro @Try.underlying22 T.c22) (And.intro T.g22 (And.intro T.b22 T.z22))) (And.intro (And.intro T.s22 (And.intro @Try.underlying37 T.c37)) (And.intro T.g37 (And.intro T.b37 T.z37))))) (And.intro (And.intro (And.intro (And.intro @Try.underlying57 T.c57) (And.intro T.g57 (And.intro T.b57 T.z57))) (And.intro (And.intro @Try.underlying72 T.c72) (And.intro T.g72 (And.intro T.b72 T.z72)))) (And.intro (And.intro (And.intro T.p72 @Try.underlying143) (And.intro T.c143 (And.intro T.g143 T.b143))) (And.intro (And.intro T.z143 (And.intro T.h143 T.f143_0)) (And.intro T.f143_1 (And.intro T.k66 T.k116)))))) :=
  (And.intro (And.intro (And.intro (And.intro (And.intro @Try.underlying3 T.c3) (And.intro T.g3 (And.intro T.b3 T.z3))) (And.intro (And.intro @Try.underlying5 T.c5) (And.intro T.g5 (And.intro T.b5 T.z5)))) (And.intro (And.intro (And.intro @Try.underlying22 T.c22) (And.intro T.g22 (And.intro T.b22 T.z22))) (And.intro (And.intro T.s22 (And.intro @Try.underlying37 T.c37)) (And.intro T.g37 (And.intro T.b37 T.z37))))) (And.intro (And.intro (And.intro (And.intro @Try.underlying57 T.c57) (And.intro T.g57 (And.intro T.b57 T.z57))) (And.intro (And.intro @Try.underlying72 T.c72) (And.intro T.g72 (And.intro T.b72 T.z72)))) (And.intro (And.intro (And.intro T.p72 @Try.underlying143) (And.intro T.c143 (And.intro T.g143 T.b143))) (And.intro (And.intro T.z143 (And.intro T.h143 T.f143_0)) (And.intro T.f143_1 (And.intro T.k66 T.k116))))))
theorem REye362 : type_of% (And.intro (And.intro (And.intro (And.intro @Try.underlying3 (And.intro T.c3 T.g3)) (And.intro (And.intro T.b3 T.z3) (And.intro @Try.underlying22 T.c22))) (And.intro (And.intro T.g22 (And.intro T.b22 T.z22)) (And.intro (And.intro T.s22 @Try.underlying57) (And.intro T.c57 T.g57)))) (And.intro (And.intro (And.intro T.b57 (And.intro T.z57 @Try.underlying72)) (And.intro (And.intro T.c72 T.g72) (And.intro T.b72 T.z72))) (And.intro (And.intro (And.intro T.p72 @Try.underlying143) (And.intro T.c143 T.g143)) (And.intro (And.intro T.b143 T.z143) (And.intro T.h143 T.k117))))) :=
  (And.intro (And.intro (And.intro (And.intro @Try.underlying3 (And.intro T.c3 T.g3)) (And.intro (And.intro T.b3 T.z3) (And.intro @Try.underlying22 T.c22))) (And.intro (And.intro T.g22 (And.intro T.b22 T.z22)) (And.intro (And.intro T.s22 @Try.underlying57) (And.intro T.c57 T.g57)))) (And.intro (And.intro (And.intro T.b57 (And.intro T.z57 @Try.underlying72)) (And.intro (And.intro T.c72 T.g72) (And.intro T.b72 T.z72))) (And.intro (And.intro (And.intro T.p72 @Try.underlying143) (And.intro T.c143 T.g143)) (And.intro (And.intro T.b143 T.z143) (And.intro T.h143 T.k117)))))
theorem REye358 : type_of% (And.intro (And.intro (And.intro (And.intro @Try.underlying3 (And.intro T.c3 T.g3)) (And.intro (And.intro T.b3 T.z3) (And.intro @Try.underlying22 T.c22))) (And.intro (And.intro T.g22 (And.intro T.b22 T.z22)) (And.intro (And.intro T.s22 @Try.underlying57) (And.intro T.c57 T.g57)))) (And.intro (And.intro (And.intro T.b57 (And.intro T.z57 @Try.underlying72)) (And.intro (And.intro T.c72 T.g72) (And.intro T.b72 T.z72))) (And.intro (And.intro (And.intro T.p72 @Try.underlying143) (And.intro T.c143 T.g143)) (And.intro (And.intro T.b143 T.z143) (And.intro T.h143 T.k117))))) :=
  (And.intro (And.intro (And.intro (And.intro @Try.underlying3 (And.intro T.c3 T.g3)) (And.intro (And.intro T.b3 T.z3) (And.intro @Try.underlying22 T.c22))) (And.intro (And.intro T.g22 (And.intro T.b22 T.z22)) (And.intro (And.intro T.s22 @Try.underlying57) (And.intro T.c57 T.g57)))) (And.intro (And.intro (And.intro T.b57 (And.intro T.z57 @Try.underlying72)) (And.intro (And.intro T.c72 T.g72) (And.intro T.b72 T.z72))) (And.intro (And.intro (And.intro T.p72 @Try.underlying143) (And.intro T.c143 T.g143)) (And.intro (And.intro T.b143 T.z143) (And.intro T.h143 T.k117)))))
theorem REye361 : type_of% (And.intro (And.intro (And.intro (And.intro @Try.underlying5 T.c5) (And.intro T.g5 (And.intro T.b5 T.z5))) (And.intro (And.intro @Try.underlying22 (And.intro T.c22 T.g22)) (And.intro T.b22 (And.intro T.z22 T.s22)))) (And.intro (And.intro (And.intro @Try.underlying57 (And.intro T.c57 T.g57)) (And.intro T.b57 (And.intro T.z57 @Try.underlying143))) (And.intro (And.intro T.c143 (And.intro T.g143 T.b143)) (And.intro T.z143 (And.intro T.h143 T.f143_0))))) :=
  (And.intro (And.intro (And.intro (And.intro @Try.underlying5 T.c5) (And.intro T.g5 (And.intro T.b5 T.z5))) (And.intro (And.intro @Try.underlying22 (And.intro T.c22 T.g22)) (And.intro T.b22 (And.intro T.z22 T.s22)))) (And.intro (And.intro (And.intro @Try.underlying57 (And.intro T.c57 T.g57)) (And.intro T.b57 (And.intro T.z57 @Try.underlying143))) (And.intro (And.intro T.c143 (And.intro T.g143 T.b143)) (And.intro T.z143 (And.intro T.h143 T.f143_0)))))
theorem REye364 : type_of% (And.intro (And.intro (And.intro (And.intro @Try.underlying5 T.c5) (And.intro T.g5 (And.intro T.b5 T.z5))) (And.intro (And.intro @Try.underlying22 (And.intro T.c22 T.g22)) (And.intro T.b22 (And.intro T.z22 T.s22)))) (And.intro (And.intro (And.intro @Try.underlying57 (And.intro T.c57 T.g57)) (And.intro T.b57 (And.intro T.z57 @Try.underlying143))) (And.intro (And.intro T.c143 (And.intro T.g143 T.b143)) (And.intro T.z143 (And.intro T.h143 T.f143_1))))) :=
  (And.intro (And.intro (And.intro (And.intro @Try.underlying5 T.c5) (And.intro T.g5 (And.intro T.b5 T.z5))) (And.intro (And.intro @Try.underlying22 (And.intro T.c22 T.g22)) (And.intro T.b22 (And.intro T.z22 T.s22)))) (And.intro (And.intro (And.intro @Try.underlying57 (And.intro T.c57 T.g57)) (And.intro T.b57 (And.intro T.z57 @Try.underlying143))) (And.intro (And.intro T.c143 (And.intro T.g143 T.b143)) (And.intro T.z143 (And.intro T.h143 T.f143_1)))))
theorem REye371 : type_of% (And.intro (And.intro (And.intro (And.intro @Try.underlying5 T.c5) (And.intro T.g5 (And.intro T.b5 T.z5))) (And.intro (And.intro @Try.underlying22 (And.intro T.c22 T.g22)) (And.intro T.b22 (And.intro T.z22 T.s22)))) (And.intro (And.intro (And.intro @Try.underlying57 (And.intro T.c57 T.g57)) (And.intro T.b57 (And.intro T.z57 @Try.underlying143))) (And.intro (And.intro T.c143 (And.intro T.g143 T.b143)) (And.intro T.z143 (And.intro T.h143 T.f143_1))))) :=
  (And.intro (And.intro (And.intro (And.intro @Try.underlying5 T.c5) (And.intro T.g5 (And.intro T.b5 T.z5))) (And.intro (And.intro @Try.underlying22 (And.intro T.c22 T.g22)) (And.intro T.b22 (And.intro T.z22 T.s22)))) (And.intro (And.intro (And.intro @Try.underlying57 (And.intro T.c57 T.g57)) (And.intro T.b57 (And.intro T.z57 @Try.underlying143))) (And.intro (And.intro T.c143 (And.intro T.g143 T.b143)) (And.intro T.z143 (And.intro T.h143 T.f143_1)))))
theorem REye360 : type_of% (And.intro (And.intro (And.intro (And.intro @Try.underlying3 (And.intro T.c3 T.g3)) (And.intro (And.intro T.b3 T.z3) (And.intro @Try.underlying5 T.c5))) (And.intro (And.intro T.g5 (And.intro T.b5 T.z5)) (And.intro (And.intro @Try.underlying22 T.c22) (And.intro T.g22 T.b22)))) (And.intro (And.intro (And.intro T.z22 (And.intro T.s22 @Try.underlying57)) (And.intro (And.intro T.c57 T.g57) (And.intro T.b57 T.z57))) (And.intro (And.intro (And.intro @Try.underlying143 T.c143) (And.intro T.g143 T.b143)) (And.intro (And.intro T.z143 T.h143) (And.intro T.f143_0 T.f143_1))))) :=
  (And.intro (And.intro (And.intro (And.intro @Try.underlying3 (And.intro T.c3 T.g3)) (And.intro (And.intro T.b3 T.z3) (And.intro @Try.underlying5 T.c5))) (And.intro (And.intro T.g5 (And.intro T.b5 T.z5)) (And.intro (And.intro @Try.underlying22 T.c22) (And.intro T.g22 T.b22)))) (And.intro (And.intro (And.intro T.z22 (And.intro T.s22 @Try.underlying57)) (And.intro (And.intro T.c57 T.g57) (And.intro T.b57 T.z57))) (And.intro (And.intro (And.intro @Try.underlying143 T.c143) (And.intro T.g143 T.b143)) (And.intro (And.intro T.z143 T.h143) (And.intro T.f143_0 T.f143_1)))))

variable {Γ : Nat → List AV}

set_option maxHeartbeats 400000 in
theorem eyeRaw_calls (s0 s : AS) (p : Nat) (st : EyeSt) (n : Int) (hl : st.1.length ≤ 2 ^ 45) (h : EyeS s0 s p st) :
    ACalls Try.prog Γ 66 [.ptr p 0, .v (.int .i64 n)] s (fun r s' => r = bytesV (eyeNext n st).1 .any ∧ EyeS s0 s' p (eyeNext n st).2) := by
  refine acalls_body Try.func66 rfl Try.ntmps66 Try.results66 (by simp) ?_
  refine awp_reg_seq ?_
  intro K hK
  simp only [↓DN, UP, implies_true, forall_eq', ne_eq, if_true, if_false, aval, abin, aint, ashift, abool, astr, anil, aun, aconv, aindexAddr, aindex, optInt, aslice, abuiltin, asrc, afill, placeOf, asetAll, undef, aload, apart, AV.cells, AV.one, aeval, updO, upd, initE, gdst, thenQ, blockQ, srcOk, Array.isEmpty, List.isEmpty, bytesV, reduceCtorEq, ↓reduceIte, Nat.reduceLT, Nat.reduceLeDiff, Nat.reduceEqDiff, Nat.reduceAdd, Nat.reduceMul, Nat.reducePow, Nat.reduceSub, Int.reduceLT, Int.reduceLE, Int.reduceToNat, REye366, Try.ntmps66]
  refine hK _ _ ?_
  clear hK K
  refine awp_reg_seq ?_
  intro K hK
  simp only [↓DN, UP, implies_true, forall_eq', ne_eq, if_true, if_false, aval, abin, aint, ashift, abool, astr, anil, aun, aconv, aindexAddr, aindex, optInt, aslice, abuiltin, asrc, afill, placeOf, asetAll, undef, aload, apart, AV.cells, AV.one, aeval, updO, upd, initE, gdst, thenQ, blockQ, srcOk, Array.isEmpty, List.isEmpty, bytesV, reduceCtorEq, ↓reduceIte, Nat.reduceLT, Nat.reduceLeDiff, Nat.reduceEqDiff, Nat.reduceAdd, Nat.reduceMul, Nat.reducePow, Nat.reduceSub, Int.reduceLT, Int.reduceLE, Int.reduceToNat, REye366, Try.ntmps66]
  refine acallk (next_calls s0 s p st n h) ?_
  rintro r s' ⟨rfl, he⟩
  simp only [↓AXq_nil, ↓AXq_cons, pval, List.contains_cons, List.contains_nil, Nat.reduceBEq, Bool.or_false, Bool.or_true, Bool.or_self, Bool.false_eq_true, Bool.false_or, ↓DN, UP, implies_true, forall_eq', ne_eq, if_true, if_false, aval, abin, aint, ashift, abool, astr, anil, aun, aconv, aindexAddr, aindex, optInt, aslice, abuiltin, asrc, afill, placeOf, asetAll, undef, aload, apart, AV.cells, AV.one, aeval, updO, upd, initE, gdst, thenQ, blockQ, srcOk, Array.isEmpty, List.isEmpty, bytesV, reduceCtorEq, ↓reduceIte, Nat.reduceLT, Nat.reduceLeDiff, Nat.reduceEqDiff, Nat.reduceAdd, Nat.reduceMul, Nat.reducePow, Nat.reduceSub, Int.reduceLT, Int.reduceLE, Int.reduceToNat, REye366, Try.ntmps66]
  refine acallk (cloneB_calls _ s' (by have := (eyeNext_len n st).1; omega)) ?_
  rintro r' s'' ⟨rfl, rfl⟩
  simp only [↓AXq_nil, ↓AXq_cons, pval, List.contains_cons, List.contains_nil, Nat.reduceBEq, Bool.or_false, Bool.or_true, Bool.or_self, Bool.false_eq_true, Bool.false_or, ↓DN, UP, implies_true, forall_eq', ne_eq, if_true, if_false, aval, abin, aint, ashift, abool, astr, anil, aun, aconv, aindexAddr, aindex, optInt, aslice, abuiltin, asrc, afill, placeOf, asetAll, undef, aload, apart, AV.cells, AV.one, aeval, updO, upd, initE, gdst, thenQ, blockQ, srcOk, Array.isEmpty, List.isEmpty, bytesV, reduceCtorEq, ↓reduceIte, Nat.reduceLT, Nat.reduceLeDiff, Nat.reduceEqDiff, Nat.reduceAdd, Nat.reduceMul, Nat.reducePow, Nat.reduceSub, Int.reduceLT, Int.reduceLE, Int.reduceToNat, REye366, Try.ntmps66]
  refine hK _ _ ?_
  clear hK K
  refine awp_ret ?_
  simp only [retQ, AEnds, aresL, ares, List.toList_toArray, ↓upd_same]; try simp only [↓DN, UP, implies_true, forall_eq', ne_eq, if_true, if_false, aval, abin, aint, ashift, abool, astr, anil, aun, aconv, aindexAddr, aindex, optInt, aslice, abuiltin, asrc, afill, placeOf, asetAll, undef, aload, apart, AV.cells, AV.one, aeval, updO, upd, initE, gdst, thenQ, blockQ, srcOk, Array.isEmpty, List.isEmpty, bytesV, reduceCtorEq, ↓reduceIte, Nat.reduceLT, Nat.reduceLeDiff, Nat.reduceEqDiff, Nat.reduceAdd, Nat.reduceMul, Nat.reducePow, Nat.reduceSub, Int.reduceLT, Int.reduceLE, Int.reduceToNat, REye366, Try.ntmps66, atuple_nil, atuple_one, atuple_two, atuple_three, atuple_four, atuple_five]
  exact ⟨_, _, AV.weak.refl _, AS.le.refl _, rfl, he⟩

theorem eyeU_conv (k : Nat) (hk : k ≤ 7) (st : EyeSt) : iconv .i64 ((eyeNum k st).1 : Int) = ((eyeNum k st).1 : Int) := by
  have := eyeNum_lt k st
  have h2 : 256 ^ k ≤ 256 ^ 7 := Nat.pow_le_pow_right (by decide) hk
  have h3 : (256 : Nat) ^ 7 = 72057594037927936 := by decide
  exact iconv_i64 (by omega)

set_option maxHeartbeats 400000 in
theorem eyeU8_calls (s0 s : AS) (p : Nat) (st : EyeSt) (h : EyeS s0 s p st) :
    ACalls Try.prog Γ 65 [.ptr p 0] s (fun r s' => r = .v (.int .i64 (eyeNum 1 st).1) ∧ EyeS s0 s' p (eyeNum 1 st).2) := by
  refine acalls_body Try.func65 rfl Try.ntmps65 Try.results65 (by simp) ?_
  refine awp_reg_seq ?_
  intro K hK
  simp only [↓DN, UP, implies_true, forall_eq', ne_eq, if_true, if_false, aval, abin, aint, ashift, abool, astr, anil, aun, aconv, aindexAddr, aindex, optInt, aslice, abuiltin, asrc, afill, placeOf, asetAll, undef, aload, apart, AV.cells, AV.one, aeval, updO, upd, initE, gdst, thenQ, blockQ, srcOk, Array.isEmpty, List.isEmpty, bytesV, reduceCtorEq, ↓reduceIte, Nat.reduceLT, Nat.reduceLeDiff, Nat.reduceEqDiff, Nat.reduceAdd, Nat.reduceMul, Nat.reducePow, Nat.reduceSub, Int.reduceLT, Int.reduceLE, Int.reduceToNat, REye365, Try.ntmps65]
  refine hK _ _ ?_
  clear hK K
  refine awp_reg_seq ?_
  intro K hK
  simp only [↓DN, UP, implies_true, forall_eq', ne_eq, if_true, if_false, aval, abin, aint, ashift, abool, astr, anil, aun, aconv, aindexAddr, aindex, optInt, aslice, abuiltin, asrc, afill, placeOf, asetAll, undef, aload, apart, AV.cells, AV.one, aeval, updO, upd, initE, gdst, thenQ, blockQ, srcOk, Array.isEmpty, List.isEmpty, bytesV, reduceCtorEq, ↓reduceIte, Nat.reduceLT, Nat.reduceLeDiff, Nat.reduceEqDiff, Nat.reduceAdd, Nat.reduceMul, Nat.reducePow, Nat.reduceSub, Int.reduceLT, Int.reduceLE, Int.reduceToNat, REye365, Try.ntmps65]
  refine acallk (eyeNumber_calls s0 s p st 1 (by omega) h) ?_
  rintro r s' ⟨rfl, he⟩
  simp only [↓AXq_nil, ↓AXq_cons, pval, List.contains_cons, List.contains_nil, Nat.reduceBEq, Bool.or_false, Bool.or_true, Bool.or_self, Bool.false_eq_true, Bool.false_or, ↓DN, UP, implies_true, forall_eq', ne_eq, if_true, if_false, aval, abin, aint, ashift, abool, astr, anil, aun, aconv, aindexAddr, aindex, optInt, aslice, abuiltin, asrc, afill, placeOf, asetAll, undef, aload, apart, AV.cells, AV.one, aeval, updO, upd, initE, gdst, thenQ, blockQ, srcOk, Array.isEmpty, List.isEmpty, bytesV, reduceCtorEq, ↓reduceIte, Nat.reduceLT, Nat.reduceLeDiff, Nat.reduceEqDiff, Nat.reduceAdd, Nat.reduceMul, Nat.reducePow, Nat.reduceSub, Int.reduceLT, Int.reduceLE, Int.reduceToNat, REye365, Try.ntmps65, eyeU_conv 1 (by omega) st]
  refine hK _ _ ?_
  clear hK K
  refine awp_ret ?_
  simp only [retQ, AEnds, aresL, ares, List.toList_toArray, ↓upd_same]; try simp only [↓DN, UP, implies_true, forall_eq', ne_eq, if_true, if_false, aval, abin, aint, ashift, abool, astr, anil, aun, aconv, aindexAddr, aindex, optInt, aslice, abuiltin, asrc, afill, placeOf, asetAll, undef, aload, apart, AV.cells, AV.one, aeval, updO, upd, initE, gdst, thenQ, blockQ, srcOk, Array.isEmpty, List.isEmpty, bytesV, reduceCtorEq, ↓reduceIte, Nat.reduceLT, Nat.reduceLeDiff, Nat.reduceEqDiff, Nat.reduceAdd, Nat.reduceMul, Nat.reducePow, Nat.reduceSub, Int.reduceLT, Int.reduceLE, Int.reduceToNat, REye365, Try.ntmps65, atuple_nil, atuple_one, atuple_two, atuple_three, atuple_four, atuple_five]
  exact ⟨_, _, AV.weak.refl _, AS.le.refl _, rfl, he⟩

set_option maxHeartbeats 400000 in
theorem eyeU16_calls (s0 s : AS) (p : Nat) (st : EyeSt) (h : EyeS s0 s p st) :
    ACalls Try.prog Γ 59 [.ptr p 0] s (fun r s' => r = .v (.int .i64 (eyeNum 2 st).1) ∧ EyeS s0 s' p (eyeNum 2 st).2) := by
  refine acalls_body Try.func59 rfl Try.ntmps59 Try.results59 (by simp) ?_
  refine awp_reg_seq ?_
  intro K hK
  simp only [↓DN, UP, implies_true, forall_eq', ne_eq, if_true, if_false, aval, abin, aint, ashift, abool, astr, anil, aun, aconv, aindexAddr, aindex, optInt, aslice, abuiltin, asrc, afill, placeOf, asetAll, undef, aload, apart, AV.cells, AV.one, aeval, updO, upd, initE, gdst, thenQ, blockQ, srcOk, Array.isEmpty, List.isEmpty, bytesV, reduceCtorEq, ↓reduceIte, Nat.reduceLT, Nat.reduceLeDiff, Nat.reduceEqDiff, Nat.reduceAdd, Nat.reduceMul, Nat.reducePow, Nat.reduceSub, Int.reduceLT, Int.reduceLE, Int.reduceToNat, REye359, Try.ntmps59]
  refine hK _ _ ?_
  clear hK K
  refine awp_reg_seq ?_
  intro K hK
  simp only [↓DN, UP, implies_true, forall_eq', ne_eq, if_true, if_false, aval, abin, aint, ashift, abool, astr, anil, aun, aconv, aindexAddr, aindex, optInt, aslice, abuiltin, asrc, afill, placeOf, asetAll, undef, aload, apart, AV.cells, AV.one, aeval, updO, upd, initE, gdst, thenQ, blockQ, srcOk, Array.isEmpty, List.isEmpty, bytesV, reduceCtorEq, ↓reduceIte, Nat.reduceLT, Nat.reduceLeDiff, Nat.reduceEqDiff, Nat.reduceAdd, Nat.reduceMul, Nat.reducePow, Nat.reduceSub, Int.reduceLT, Int.reduceLE, Int.reduceToNat, REye359, Try.ntmps59]
  refine acallk (eyeNumber_calls s0 s p st 2 (by omega) h) ?_
  rintro r s' ⟨rfl, he⟩
  simp only [↓AXq_nil, ↓AXq_cons, pval, List.contains_cons, List.contains_nil, Nat.reduceBEq, Bool.or_false, Bool.or_true, Bool.or_self, Bool.false_eq_true, Bool.false_or, ↓DN, UP, implies_true, forall_eq', ne_eq, if_true, if_false, aval, abin, aint, ashift, abool, astr, anil, aun, aconv, aindexAddr, aindex, optInt, aslice, abuiltin, asrc, afill, placeOf, asetAll, undef, aload, apart, AV.cells, AV.one, aeval, updO, upd, initE, gdst, thenQ, blockQ, srcOk, Array.isEmpty, List.isEmpty, bytesV, reduceCtorEq, ↓reduceIte, Nat.reduceLT, Nat.reduceLeDiff, Nat.reduceEqDiff, Nat.reduceAdd, Nat.reduceMul, Nat.reducePow, Nat.reduceSub, Int.reduceLT, Int.reduceLE, Int.reduceToNat, REye359, Try.ntmps59, eyeU_conv 2 (by omega) st]
  refine hK _ _ ?_
  clear hK K
  refine awp_ret ?_
  simp only [retQ, AEnds, aresL, ares, List.toList_toArray, ↓upd_same]; try simp only [↓DN, UP, implies_true, forall_eq', ne_eq, if_true, if_false, aval, abin, aint, ashift, abool, astr, anil, aun, aconv, aindexAddr, aindex, optInt, aslice, abuiltin, asrc, afill, placeOf, asetAll, undef, aload, apart, AV.cells, AV.one, aeval, updO, upd, initE, gdst, thenQ, blockQ, srcOk, Array.isEmpty, List.isEmpty, bytesV, reduceCtorEq, ↓reduceIte, Nat.reduceLT, Nat.reduceLeDiff, Nat.reduceEqDiff, Nat.reduceAdd, Nat.reduceMul, Nat.reducePow, Nat.reduceSub, Int.reduceLT, Int.reduceLE, Int.reduceToNat, REye359, Try.ntmps59, atuple_nil, atuple_one, atuple_two, atuple_three, atuple_four, atuple_five]
  exact ⟨_, _, AV.weak.refl _, AS.le.refl _, rfl, he⟩

set_option maxHeartbeats 400000 in
theorem eyeU32_calls (s0 s : AS) (p : Nat) (st : EyeSt) (h : EyeS s0 s p st) :
    ACalls Try.prog Γ 63 [.ptr p 0] s (fun r s' => r = .v (.int .i64 (eyeNum 4 st).1) ∧ EyeS s0 s' p (eyeNum 4 st).2) := by
  refine acalls_body Try.func63 rfl Try.ntmps63 Try.results63 (by simp) ?_
  refine awp_reg_seq ?_
  intro K hK
  simp only [↓DN, UP, implies_true, forall_eq', ne_eq, if_true, if_false, aval, abin, aint, ashift, abool, astr, anil, aun, aconv, aindexAddr, aindex, optInt, aslice, abuiltin, asrc, afill, placeOf, asetAll, undef, aload, apart, AV.cells, AV.one, aeval, updO, upd, initE, gdst, thenQ, blockQ, srcOk, Array.isEmpty, List.isEmpty, bytesV, reduceCtorEq, ↓reduceIte, Nat.reduceLT, Nat.reduceLeDiff, Nat.reduceEqDiff, Nat.reduceAdd, Nat.reduceMul, Nat.reducePow, Nat.reduceSub, Int.reduceLT, Int.reduceLE, Int.reduceToNat, REye363, Try.ntmps63]
  refine hK _ _ ?_
  clear hK K
  refine awp_reg_seq ?_
  intro K hK
  simp only [↓DN, UP, implies_true, forall_eq', ne_eq, if_true, if_false, aval, abin, aint, ashift, abool, astr, anil, aun, aconv, aindexAddr, aindex, optInt, aslice, abuiltin, asrc, afill, placeOf, asetAll, undef, aload, apart, AV.cells, AV.one, aeval, updO, upd, initE, gdst, thenQ, blockQ, srcOk, Array.isEmpty, List.isEmpty, bytesV, reduceCtorEq, ↓reduceIte, Nat.reduceLT, Nat.reduceLeDiff, Nat.reduceEqDiff, Nat.reduceAdd, Nat.reduceMul, Nat.reducePow, Nat.reduceSub, Int.reduceLT, Int.reduceLE, Int.reduceToNat, REye363, Try.ntmps63]
  refine acallk (eyeNumber_calls s0 s p st 4 (by omega) h) ?_
  rintro r s' ⟨rfl, he⟩
  simp only [↓AXq_nil, ↓AXq_cons, pval, List.contains_cons, List.contains_nil, Nat.reduceBEq, Bool.or_false, Bool.or_true, Bool.or_self, Bool.false_eq_true, Bool.false_or, ↓DN, UP, implies_true, forall_eq', ne_eq, if_true, if_false, aval, abin, aint, ashift, abool, astr, anil, aun, aconv, aindexAddr, aindex, optInt, aslice, abuiltin, asrc, afill, placeOf, asetAll, undef, aload, apart, AV.cells, AV.one, aeval, updO, upd, initE, gdst, thenQ, blockQ, srcOk, Array.isEmpty, List.isEmpty, bytesV, reduceCtorEq, ↓reduceIte, Nat.reduceLT, Nat.reduceLeDiff, Nat.reduceEqDiff, Nat.reduceAdd, Nat.reduceMul, Nat.reducePow, Nat.reduceSub, Int.reduceLT, Int.reduceLE, Int.reduceToNat, REye363, Try.ntmps63, eyeU_conv 4 (by omega) st]
  refine hK _ _ ?_
  clear hK K
  refine awp_ret ?_
  simp only [retQ, AEnds, aresL, ares, List.toList_toArray, ↓upd_same]; try simp only [↓DN, UP, implies_true, forall_eq', ne_eq, if_true, if_false, aval, abin, aint, ashift, abool, astr, anil, aun, aconv, aindexAddr, aindex, optInt, aslice, abuiltin, asrc, afill, placeOf, asetAll, undef, aload, apart, AV.cells, AV.one, aeval, updO, upd, initE, gdst, thenQ, blockQ, srcOk, Array.isEmpty, List.isEmpty, bytesV, reduceCtorEq, ↓reduceIte, Nat.reduceLT, Nat.reduceLeDiff, Nat.reduceEqDiff, Nat.reduceAdd, Nat.reduceMul, Nat.reducePow, Nat.reduceSub, Int.reduceLT, Int.reduceLE, Int.reduceToNat, REye363, Try.ntmps63, atuple_nil, atuple_one, atuple_two, atuple_three, atuple_four, atuple_five]
  exact ⟨_, _, AV.weak.refl _, AS.le.refl _, rfl, he⟩

set_option maxHeartbeats 400000 in
theorem eyeU64_calls (s0 s : AS) (p : Nat) (st : EyeSt) (h : EyeS s0 s p st) :
    ACalls Try.prog Γ 57 [.ptr p 0] s (fun r s' => r = .v (.int .u64 (eyeNum 8 st).1) ∧ EyeS s0 s' p (eyeNum 8 st).2) := by
  refine acalls_body Try.func57 rfl Try.ntmps57 Try.results57 (by simp) ?_
  refine awp_reg_seq ?_
  intro K hK
  simp only [↓DN, UP, implies_true, forall_eq', ne_eq, if_true, if_false, aval, abin, aint, ashift, abool, astr, anil, aun, aconv, aindexAddr, aindex, optInt, aslice, abuiltin, asrc, afill, placeOf, asetAll, undef, aload, apart, AV.cells, AV.one, aeval, updO, upd, initE, gdst, thenQ, blockQ, srcOk, Array.isEmpty, List.isEmpty, bytesV, reduceCtorEq, ↓reduceIte, Nat.reduceLT, Nat.reduceLeDiff, Nat.reduceEqDiff, Nat.reduceAdd, Nat.reduceMul, Nat.reducePow, Nat.reduceSub, Int.reduceLT, Int.reduceLE, Int.reduceToNat, REye357, Try.ntmps57]
  refine hK _ _ ?_
  clear hK K
  refine awp_reg_seq ?_
  intro K hK
  simp only [↓DN, UP, implies_true, forall_eq', ne_eq, if_true, if_false, aval, abin, aint, ashift, abool, astr, anil, aun, aconv, aindexAddr, aindex, optInt, aslice, abuiltin, asrc, afill, placeOf, asetAll, undef, aload, apart, AV.cells, AV.one, aeval, updO, upd, initE, gdst, thenQ, blockQ, srcOk, Array.isEmpty, List.isEmpty, bytesV, reduceCtorEq, ↓reduceIte, Nat.reduceLT, Nat.reduceLeDiff, Nat.reduceEqDiff, Nat.reduceAdd, Nat.reduceMul, Nat.reducePow, Nat.reduceSub, Int.reduceLT, Int.reduceLE, Int.reduceToNat, REye357, Try.ntmps57]
  refine acallk (eyeNumber_calls s0 s p st 8 (by omega) h) ?_
  rintro r s' ⟨rfl, he⟩
  simp only [↓AXq_nil, ↓AXq_cons, pval, List.contains_cons, List.contains_nil, Nat.reduceBEq, Bool.or_false, Bool.or_true, Bool.or_self, Bool.false_eq_true, Bool.false_or, ↓DN, UP, implies_true, forall_eq', ne_eq, if_true, if_false, aval, abin, aint, ashift, abool, astr, anil, aun, aconv, aindexAddr, aindex, optInt, aslice, abuiltin, asrc, afill, placeOf, asetAll, undef, aload, apart, AV.cells, AV.one, aeval, updO, upd, initE, gdst, thenQ, blockQ, srcOk, Array.isEmpty, List.isEmpty, bytesV, reduceCtorEq, ↓reduceIte, Nat.reduceLT, Nat.reduceLeDiff, Nat.reduceEqDiff, Nat.reduceAdd, Nat.reduceMul, Nat.reducePow, Nat.reduceSub, Int.reduceLT, Int.reduceLE, Int.reduceToNat, REye357, Try.ntmps57]
  refine hK _ _ ?_
  clear hK K
  refine awp_ret ?_
  simp only [retQ, AEnds, aresL, ares, List.toList_toArray, ↓upd_same]; try simp only [↓DN, UP, implies_true, forall_eq', ne_eq, if_true, if_false, aval, abin, aint, ashift, abool, astr, anil, aun, aconv, aindexAddr, aindex, optInt, aslice, abuiltin, asrc, afill, placeOf, asetAll, undef, aload, apart, AV.cells, AV.one, aeval, updO, upd, initE, gdst, thenQ, blockQ, srcOk, Array.isEmpty, List.isEmpty, bytesV, reduceCtorEq, ↓reduceIte, Nat.reduceLT, Nat.reduceLeDiff, Nat.reduceEqDiff, Nat.reduceAdd, Nat.reduceMul, Nat.reducePow, Nat.reduceSub, Int.reduceLT, Int.reduceLE, Int.reduceToNat, REye357, Try.ntmps57, atuple_nil, atuple_one, atuple_two, atuple_three, atuple_four, atuple_five]
  exact ⟨_, _, AV.weak.refl _, AS.le.refl _, rfl, he⟩

set_option maxHeartbeats 1000000 in
theorem eyeText_calls (s0 s : AS) (p : Nat) (st : EyeSt) (k : Nat) (most : Int) (hk : k ≤ 7) (hl : st.1.length ≤ 2 ^ 45) (h : EyeS s0 s p st) :
    ACalls Try.prog Γ 117 [.ptr p 0, .v (.int .i64 k), .v (.int .i64 most)] s (fun r s' => r = bytesV (eyeText k most st).1 .any ∧ EyeS s0 s' p (eyeText k most st).2) := by
  refine acalls_body Try.func117 rfl Try.ntmps117 Try.results117 (by simp) ?_
  have hx := h.obj
  simp only [bytesV] at hx
  refine awp_reg_seq ?_
  intro K hK
  simp only [↓DN, UP, implies_true, forall_eq', ne_eq, if_true, if_false, aval, abin, aint, ashift, abool, astr, anil, aun, aconv, aindexAddr, aindex, optInt, aslice, abuiltin, asrc, afill, placeOf, asetAll, undef, aload, apart, AV.cells, AV.one, aeval, updO, upd, initE, gdst, thenQ, blockQ, srcOk, Array.isEmpty, List.isEmpty, bytesV, reduceCtorEq, ↓reduceIte, Nat.reduceLT, Nat.reduceLeDiff, Nat.reduceEqDiff, Nat.reduceAdd, Nat.reduceMul, Nat.reducePow, Nat.reduceSub, Int.reduceLT, Int.reduceLE, Int.reduceToNat, REye3117, Try.ntmps117]
  refine hK _ _ ?_
  clear hK K
  refine awp_reg_seq ?_
  intro K hK
  simp only [↓DN, UP, implies_true, forall_eq', ne_eq, if_true, if_false, aval, abin, aint, ashift, abool, astr, anil, aun, aconv, aindexAddr, aindex, optInt, aslice, abuiltin, asrc, afill, placeOf, asetAll, undef, aload, apart, AV.cells, AV.one, aeval, updO, upd, initE, gdst, thenQ, blockQ, srcOk, Array.isEmpty, List.isEmpty, bytesV, reduceCtorEq, ↓reduceIte, Nat.reduceLT, Nat.reduceLeDiff, Nat.reduceEqDiff, Nat.reduceAdd, Nat.reduceMul, Nat.reducePow, Nat.reduceSub, Int.reduceLT, Int.reduceLE, Int.reduceToNat, REye3117, Try.ntmps117, hx]
  refine hK _ _ ?_
  clear hK K
  refine awp_reg_seq ?_
  intro K hK
  simp only [↓DN, UP, implies_true, forall_eq', ne_eq, if_true, if_false, aval, abin, aint, ashift, abool, astr, anil, aun, aconv, aindexAddr, aindex, optInt, aslice, abuiltin, asrc, afill, placeOf, asetAll, undef, aload, apart, AV.cells, AV.one, aeval, updO, upd, initE, gdst, thenQ, blockQ, srcOk, Array.isEmpty, List.isEmpty, bytesV, reduceCtorEq, ↓reduceIte, Nat.reduceLT, Nat.reduceLeDiff, Nat.reduceEqDiff, Nat.reduceAdd, Nat.reduceMul, Nat.reducePow, Nat.reduceSub, Int.reduceLT, Int.reduceLE, Int.reduceToNat, REye3117, Try.ntmps117]
  refine acallk (eyeNumber_calls s0 s p st k (by omega) h) ?_
  rintro r s' ⟨rfl, he⟩
  simp only [↓AXq_nil, ↓AXq_cons, pval, List.contains_cons, List.contains_nil, Nat.reduceBEq, Bool.or_false, Bool.or_true, Bool.or_self, Bool.false_eq_true, Bool.false_or, ↓DN, UP, implies_true, forall_eq', ne_eq, if_true, if_false, aval, abin, aint, ashift, abool, astr, anil, aun, aconv, aindexAddr, aindex, optInt, aslice, abuiltin, asrc, afill, placeOf, asetAll, undef, aload, apart, AV.cells, AV.one, aeval, updO, upd, initE, gdst, thenQ, blockQ, srcOk, Array.isEmpty, List.isEmpty, bytesV, reduceCtorEq, ↓reduceIte, Nat.reduceLT, Nat.reduceLeDiff, Nat.reduceEqDiff, Nat.reduceAdd, Nat.reduceMul, Nat.reducePow, Nat.reduceSub, Int.reduceLT, Int.reduceLE, Int.reduceToNat, REye3117, Try.ntmps117, eyeU_conv k hk st]
  refine hK _ _ ?_
  clear hK K
  have hlen := eyeNum_len k st
  obtain ⟨q, hq⟩ : ∃ q, eyeNum k st = q := ⟨_, rfl⟩
  rw [hq] at he hlen
  rw [hq]
  obtain ⟨num, l', er⟩ := q
  have hx' := he.obj
  simp only [bytesV] at hx' hlen
  refine awp_seq_k ?_
  intro K hK
  refine awp_block ?_
  by_cases h0 : er = 0
  · subst h0
    refine awp_reg_seq ?_
    intro K hK
    simp only [↓DN, UP, implies_true, forall_eq', ne_eq, if_true, if_false, aval, abin, aint, ashift, abool, astr, anil, aun, aconv, aindexAddr, aindex, optInt, aslice, abuiltin, asrc, afill, placeOf, asetAll, undef, aload, apart, AV.cells, AV.one, aeval, updO, upd, initE, gdst, thenQ, blockQ, srcOk, Array.isEmpty, List.isEmpty, bytesV, reduceCtorEq, ↓reduceIte, Nat.reduceLT, Nat.reduceLeDiff, Nat.reduceEqDiff, Nat.reduceAdd, Nat.reduceMul, Nat.reducePow, Nat.reduceSub, Int.reduceLT, Int.reduceLE, Int.reduceToNat, REye3117, Try.ntmps117, hx', i64_ne_false 0 rfl]
    refine hK _ _ ?_
    clear hK K
    refine awp_cond_k ?_
    intro X Y hX hY
    simp only [↓DN, UP, implies_true, forall_eq', ne_eq, if_true, if_false, aval, abin, aint, ashift, abool, astr, anil, aun, aconv, aindexAddr, aindex, optInt, aslice, abuiltin, asrc, afill, placeOf, asetAll, undef, aload, apart, AV.cells, AV.one, aeval, updO, upd, initE, gdst, thenQ, blockQ, srcOk, Array.isEmpty, List.isEmpty, bytesV, reduceCtorEq, ↓reduceIte, Nat.reduceLT, Nat.reduceLeDiff, Nat.reduceEqDiff, Nat.reduceAdd, Nat.reduceMul, Nat.reducePow, Nat.reduceSub, Int.reduceLT, Int.reduceLE, Int.reduceToNat, REye3117, Try.ntmps117, Bool.not_true, Bool.not_false, Bool.false_eq_true, Bool.true_eq_false, false_imp_iff, true_imp_iff, decide_eq_true_eq, decide_eq_false_iff_not]
    refine hY ?_
    clear hX hY X Y
    by_cases h1 : most < (num : Int)
    · refine awp_reg_seq ?_
      intro K hK
      simp only [↓DN, UP, implies_true, forall_eq', ne_eq, if_true, if_false, aval, abin, aint, ashift, abool, astr, anil, aun, aconv, aindexAddr, aindex, optInt, aslice, abuiltin, asrc, afill, placeOf, asetAll, undef, aload, apart, AV.cells, AV.one, aeval, updO, upd, initE, gdst, thenQ, blockQ, srcOk, Array.isEmpty, List.isEmpty, bytesV, reduceCtorEq, ↓reduceIte, Nat.reduceLT, Nat.reduceLeDiff, Nat.reduceEqDiff, Nat.reduceAdd, Nat.reduceMul, Nat.reducePow, Nat.reduceSub, Int.reduceLT, Int.reduceLE, Int.reduceToNat, REye3117, Try.ntmps117, decide_eq_true h1]
      refine hK _ _ ?_
      clear hK K
      refine awp_cond_k ?_
      intro X Y hX hY
      simp only [↓DN, UP, implies_true, forall_eq', ne_eq, if_true, if_false, aval, abin, aint, ashift, abool, astr, anil, aun, aconv, aindexAddr, aindex, optInt, aslice, abuiltin, asrc, afill, placeOf, asetAll, undef, aload, apart, AV.cells, AV.one, aeval, updO, upd, initE, gdst, thenQ, blockQ, srcOk, Array.isEmpty, List.isEmpty, bytesV, reduceCtorEq, ↓reduceIte, Nat.reduceLT, Nat.reduceLeDiff, Nat.reduceEqDiff, Nat.reduceAdd, Nat.reduceMul, Nat.reducePow, Nat.reduceSub, Int.reduceLT, Int.reduceLE, Int.reduceToNat, REye3117, Try.ntmps117, Bool.not_true, Bool.not_false, Bool.false_eq_true, Bool.true_eq_false, false_imp_iff, true_imp_iff, decide_eq_true_eq, decide_eq_false_iff_not]
      refine hX ?_
      clear hX hY X Y
      refine awp_reg_seq ?_
      intro K hK
      simp only [↓DN, UP, implies_true, forall_eq', ne_eq, if_true, if_false, aval, abin, aint, ashift, abool, astr, anil, aun, aconv, aindexAddr, aindex, optInt, aslice, abuiltin, asrc, afill, placeOf, asetAll, undef, aload, apart, AV.cells, AV.one, aeval, updO, upd, initE, gdst, thenQ, blockQ, srcOk, Array.isEmpty, List.isEmpty, bytesV, reduceCtorEq, ↓reduceIte, Nat.reduceLT, Nat.reduceLeDiff, Nat.reduceEqDiff, Nat.reduceAdd, Nat.reduceMul, Nat.reducePow, Nat.reduceSub, Int.reduceLT, Int.reduceLE, Int.reduceToNat, REye3117, Try.ntmps117, hx']
      refine hK _ _ ?_
      clear hK K
      refine awp_reg_seq ?_
      intro K hK
      simp only [↓DN, UP, implies_true, forall_eq', ne_eq, if_true, if_false, aval, abin, aint, ashift, abool, astr, anil, aun, aconv, aindexAddr, aindex, optInt, aslice, abuiltin, asrc, afill, placeOf, asetAll, undef, aload, apart, AV.cells, AV.one, aeval, updO, upd, initE, gdst, thenQ, blockQ, srcOk, Array.isEmpty, List.isEmpty, bytesV, reduceCtorEq, ↓reduceIte, Nat.reduceLT, Nat.reduceLeDiff, Nat.reduceEqDiff, Nat.reduceAdd, Nat.reduceMul, Nat.reducePow, Nat.reduceSub, Int.reduceLT, Int.reduceLE, Int.reduceToNat, REye3117, Try.ntmps117]
      refine hK _ _ ?_
      clear hK K
      refine awp_ret ?_
      simp only [retQ, AEnds, aresL, ares, List.toList_toArray, ↓upd_same]; try simp only [↓DN, UP, implies_true, forall_eq', ne_eq, if_true, if_false, aval, abin, aint, ashift, abool, astr, anil, aun, aconv, aindexAddr, aindex, optInt, aslice, abuiltin, asrc, afill, placeOf, asetAll, undef, aload, apart, AV.cells, AV.one, aeval, updO, upd, initE, gdst, thenQ, blockQ, srcOk, Array.isEmpty, List.isEmpty, bytesV, reduceCtorEq, ↓reduceIte, Nat.reduceLT, Nat.reduceLeDiff, Nat.reduceEqDiff, Nat.reduceAdd, Nat.reduceMul, Nat.reducePow, Nat.reduceSub, Int.reduceLT, Int.reduceLE, Int.reduceToNat, REye3117, Try.ntmps117, atuple_nil, atuple_one, atuple_two, atuple_three, atuple_four, atuple_five]
      have e : eyeText k most st = ([], st.1, 11) := by unfold eyeText; rw [hq]; exact (if_pos rfl).trans (if_pos h1)
      rw [e]
      exact ⟨_, _, AV.weak_nil, AS.le.refl _, rfl, he.put⟩
    · refine awp_reg_seq ?_
      intro K hK
      simp only [↓DN, UP, implies_true, forall_eq', ne_eq, if_true, if_false, aval, abin, aint, ashift, abool, astr, anil, aun, aconv, aindexAddr, aindex, optInt, aslice, abuiltin, asrc, afill, placeOf, asetAll, undef, aload, apart, AV.cells, AV.one, aeval, updO, upd, initE, gdst, thenQ, blockQ, srcOk, Array.isEmpty, List.isEmpty, bytesV, reduceCtorEq, ↓reduceIte, Nat.reduceLT, Nat.reduceLeDiff, Nat.reduceEqDiff, Nat.reduceAdd, Nat.reduceMul, Nat.reducePow, Nat.reduceSub, Int.reduceLT, Int.reduceLE, Int.reduceToNat, REye3117, Try.ntmps117, decide_eq_false h1]
      refine hK _ _ ?_
      clear hK K
      refine awp_cond_k ?_
      intro X Y hX hY
      simp only [↓DN, UP, implies_true, forall_eq', ne_eq, if_true, if_false, aval, abin, aint, ashift, abool, astr, anil, aun, aconv, aindexAddr, aindex, optInt, aslice, abuiltin, asrc, afill, placeOf, asetAll, undef, aload, apart, AV.cells, AV.one, aeval, updO, upd, initE, gdst, thenQ, blockQ, srcOk, Array.isEmpty, List.isEmpty, bytesV, reduceCtorEq, ↓reduceIte, Nat.reduceLT, Nat.reduceLeDiff, Nat.reduceEqDiff, Nat.reduceAdd, Nat.reduceMul, Nat.reducePow, Nat.reduceSub, Int.reduceLT, Int.reduceLE, Int.reduceToNat, REye3117, Try.ntmps117, Bool.not_true, Bool.not_false, Bool.false_eq_true, Bool.true_eq_false, false_imp_iff, true_imp_iff, decide_eq_true_eq, decide_eq_false_iff_not]
      refine hY ?_
      clear hX hY X Y
      by_cases h2 : l'.length < num
      · refine awp_reg_seq ?_
        intro K hK
        simp only [↓DN, UP, implies_true, forall_eq', ne_eq, if_true, if_false, aval, abin, aint, ashift, abool, astr, anil, aun, aconv, aindexAddr, aindex, optInt, aslice, abuiltin, asrc, afill, placeOf, asetAll, undef, aload, apart, AV.cells, AV.one, aeval, updO, upd, initE, gdst, thenQ, blockQ, srcOk, Array.isEmpty, List.isEmpty, bytesV, reduceCtorEq, ↓reduceIte, Nat.reduceLT, Nat.reduceLeDiff, Nat.reduceEqDiff, Nat.reduceAdd, Nat.reduceMul, Nat.reducePow, Nat.reduceSub, Int.reduceLT, Int.reduceLE, Int.reduceToNat, REye3117, Try.ntmps117, hx', eye_lt_nat, decide_eq_true h2]
        refine hK _ _ ?_
        clear hK K
        refine awp_cond_k ?_
        intro X Y hX hY
        simp only [↓DN, UP, implies_true, forall_eq', ne_eq, if_true, if_false, aval, abin, aint, ashift, abool, astr, anil, aun, aconv, aindexAddr, aindex, optInt, aslice, abuiltin, asrc, afill, placeOf, asetAll, undef, aload, apart, AV.cells, AV.one, aeval, updO, upd, initE, gdst, thenQ, blockQ, srcOk, Array.isEmpty, List.isEmpty, bytesV, reduceCtorEq, ↓reduceIte, Nat.reduceLT, Nat.reduceLeDiff, Nat.reduceEqDiff, Nat.reduceAdd, Nat.reduceMul, Nat.reducePow, Nat.reduceSub, Int.reduceLT, Int.reduceLE, Int.reduceToNat, REye3117, Try.ntmps117, Bool.not_true, Bool.not_false, Bool.false_eq_true, Bool.true_eq_false, false_imp_iff, true_imp_iff, decide_eq_true_eq, decide_eq_false_iff_not]
        refine hX ?_
        clear hX hY X Y
        refine awp_reg_seq ?_
        intro K hK
        simp only [↓DN, UP, implies_true, forall_eq', ne_eq, if_true, if_false, aval, abin, aint, ashift, abool, astr, anil, aun, aconv, aindexAddr, aindex, optInt, aslice, abuiltin, asrc, afill, placeOf, asetAll, undef, aload, apart, AV.cells, AV.one, aeval, updO, upd, initE, gdst, thenQ, blockQ, srcOk, Array.isEmpty, List.isEmpty, bytesV, reduceCtorEq, ↓reduceIte, Nat.reduceLT, Nat.reduceLeDiff, Nat.reduceEqDiff, Nat.reduceAdd, Nat.reduceMul, Nat.reducePow, Nat.reduceSub, Int.reduceLT, Int.reduceLE, Int.reduceToNat, REye3117, Try.ntmps117, hx']
        refine hK _ _ ?_
        clear hK K
        refine awp_reg_seq ?_
        intro K hK
        simp only [↓DN, UP, implies_true, forall_eq', ne_eq, if_true, if_false, aval, abin, aint, ashift, abool, astr, anil, aun, aconv, aindexAddr, aindex, optInt, aslice, abuiltin, asrc, afill, placeOf, asetAll, undef, aload, apart, AV.cells, AV.one, aeval, updO, upd, initE, gdst, thenQ, blockQ, srcOk, Array.isEmpty, List.isEmpty, bytesV, reduceCtorEq, ↓reduceIte, Nat.reduceLT, Nat.reduceLeDiff, Nat.reduceEqDiff, Nat.reduceAdd, Nat.reduceMul, Nat.reducePow, Nat.reduceSub, Int.reduceLT, Int.reduceLE, Int.reduceToNat, REye3117, Try.ntmps117]
        refine hK _ _ ?_
        clear hK K
        refine awp_ret ?_
        simp only [retQ, AEnds, aresL, ares, List.toList_toArray, ↓upd_same]; try simp only [↓DN, UP, implies_true, forall_eq', ne_eq, if_true, if_false, aval, abin, aint, ashift, abool, astr, anil, aun, aconv, aindexAddr, aindex, optInt, aslice, abuiltin, asrc, afill, placeOf, asetAll, undef, aload, apart, AV.cells, AV.one, aeval, updO, upd, initE, gdst, thenQ, blockQ, srcOk, Array.isEmpty, List.isEmpty, bytesV, reduceCtorEq, ↓reduceIte, Nat.reduceLT, Nat.reduceLeDiff, Nat.reduceEqDiff, Nat.reduceAdd, Nat.reduceMul, Nat.reducePow, Nat.reduceSub, Int.reduceLT, Int.reduceLE, Int.reduceToNat, REye3117, Try.ntmps117, atuple_nil, atuple_one, atuple_two, atuple_three, atuple_four, atuple_five]
        have e : eyeText k most st = ([], st.1, 10) := by unfold eyeText; rw [hq]; exact (if_pos rfl).trans ((if_neg h1).trans (if_pos h2))
        rw [e]
        exact ⟨_, _, AV.weak_nil, AS.le.refl _, rfl, he.put⟩
      · have e : eyeText k most st = eyeNext num (l', 0) := by unfold eyeText; rw [hq]; exact (if_pos rfl).trans ((if_neg h1).trans (if_neg h2))
        refine awp_reg_seq ?_
        intro K hK
        simp only [↓DN, UP, implies_true, forall_eq', ne_eq, if_true, if_false, aval, abin, aint, ashift, abool, astr, anil, aun, aconv, aindexAddr, aindex, optInt, aslice, abuiltin, asrc, afill, placeOf, asetAll, undef, aload, apart, AV.cells, AV.one, aeval, updO, upd, initE, gdst, thenQ, blockQ, srcOk, Array.isEmpty, List.isEmpty, bytesV, reduceCtorEq, ↓reduceIte, Nat.reduceLT, Nat.reduceLeDiff, Nat.reduceEqDiff, Nat.reduceAdd, Nat.reduceMul, Nat.reducePow, Nat.reduceSub, Int.reduceLT, Int.reduceLE, Int.reduceToNat, REye3117, Try.ntmps117, hx', eye_lt_nat, decide_eq_false h2]
        refine hK _ _ ?_
        clear hK K
        refine awp_cond_k ?_
        intro X Y hX hY
        simp only [↓DN, UP, implies_true, forall_eq', ne_eq, if_true, if_false, aval, abin, aint, ashift, abool, astr, anil, aun, aconv, aindexAddr, aindex, optInt, aslice, abuiltin, asrc, afill, placeOf, asetAll, undef, aload, apart, AV.cells, AV.one, aeval, updO, upd, initE, gdst, thenQ, blockQ, srcOk, Array.isEmpty, List.isEmpty, bytesV, reduceCtorEq, ↓reduceIte, Nat.reduceLT, Nat.reduceLeDiff, Nat.reduceEqDiff, Nat.reduceAdd, Nat.reduceMul, Nat.reducePow, Nat.reduceSub, Int.reduceLT, Int.reduceLE, Int.reduceToNat, REye3117, Try.ntmps117, Bool.not_true, Bool.not_false, Bool.false_eq_true, Bool.true_eq_false, false_imp_iff, true_imp_iff, decide_eq_true_eq, decide_eq_false_iff_not]
        refine hY ?_
        clear hX hY X Y
        refine awp_skip ?_
        simp only [thenQ, blockQ, if_true, if_false]
        refine hK _ _ ?_
        clear hK K
        refine awp_reg_seq ?_
        intro K hK
        simp only [↓DN, UP, implies_true, forall_eq', ne_eq, if_true, if_false, aval, abin, aint, ashift, abool, astr, anil, aun, aconv, aindexAddr, aindex, optInt, aslice, abuiltin, asrc, afill, placeOf, asetAll, undef, aload, apart, AV.cells, AV.one, aeval, updO, upd, initE, gdst, thenQ, blockQ, srcOk, Array.isEmpty, List.isEmpty, bytesV, reduceCtorEq, ↓reduceIte, Nat.reduceLT, Nat.reduceLeDiff, Nat.reduceEqDiff, Nat.reduceAdd, Nat.reduceMul, Nat.reducePow, Nat.reduceSub, Int.reduceLT, Int.reduceLE, Int.reduceToNat, REye3117, Try.ntmps117]
        refine acallk (eyeRaw_calls s0 s' p (l', 0) num (by simp only; omega) he) ?_
        rintro r s'' ⟨rfl, he'⟩
        simp only [↓AXq_nil, ↓AXq_cons, pval, List.contains_cons, List.contains_nil, Nat.reduceBEq, Bool.or_false, Bool.or_true, Bool.or_self, Bool.false_eq_true, Bool.false_or, ↓DN, UP, implies_true, forall_eq', ne_eq, if_true, if_false, aval, abin, aint, ashift, abool, astr, anil, aun, aconv, aindexAddr, aindex, optInt, aslice, abuiltin, asrc, afill, placeOf, asetAll, undef, aload, apart, AV.cells, AV.one, aeval, updO, upd, initE, gdst, thenQ, blockQ, srcOk, Array.isEmpty, List.isEmpty, bytesV, reduceCtorEq, ↓reduceIte, Nat.reduceLT, Nat.reduceLeDiff, Nat.reduceEqDiff, Nat.reduceAdd, Nat.reduceMul, Nat.reducePow, Nat.reduceSub, Int.reduceLT, Int.reduceLE, Int.reduceToNat, REye3117, Try.ntmps117]
        refine hK _ _ ?_
        clear hK K
        refine awp_ret ?_
        simp only [retQ, AEnds, aresL, ares, List.toList_toArray, ↓upd_same]; try simp only [↓DN, UP, implies_true, forall_eq', ne_eq, if_true, if_false, aval, abin, aint, ashift, abool, astr, anil, aun, aconv, aindexAddr, aindex, optInt, aslice, abuiltin, asrc, afill, placeOf, asetAll, undef, aload, apart, AV.cells, AV.one, aeval, updO, upd, initE, gdst, thenQ, blockQ, srcOk, Array.isEmpty, List.isEmpty, bytesV, reduceCtorEq, ↓reduceIte, Nat.reduceLT, Nat.reduceLeDiff, Nat.reduceEqDiff, Nat.reduceAdd, Nat.reduceMul, Nat.reducePow, Nat.reduceSub, Int.reduceLT, Int.reduceLE, Int.reduceToNat, REye3117, Try.ntmps117, atuple_nil, atuple_one, atuple_two, atuple_three, atuple_four, atuple_five]
        rw [e]
        exact ⟨_, _, AV.weak.refl _, AS.le.refl _, rfl, he'⟩
  · refine awp_reg_seq ?_
    intro K hK
    simp only [↓DN, UP, implies_true, forall_eq', ne_eq, if_true, if_false, aval, abin, aint, ashift, abool, astr, anil, aun, aconv, aindexAddr, aindex, optInt, aslice, abuiltin, asrc, afill, placeOf, asetAll, undef, aload, apart, AV.cells, AV.one, aeval, updO, upd, initE, gdst, thenQ, blockQ, srcOk, Array.isEmpty, List.isEmpty, bytesV, reduceCtorEq, ↓reduceIte, Nat.reduceLT, Nat.reduceLeDiff, Nat.reduceEqDiff, Nat.reduceAdd, Nat.reduceMul, Nat.reducePow, Nat.reduceSub, Int.reduceLT, Int.reduceLE, Int.reduceToNat, REye3117, Try.ntmps117, hx', i64_ne_true er h0]
    refine hK _ _ ?_
    clear hK K
    refine awp_cond_k ?_
    intro X Y hX hY
    simp only [↓DN, UP, implies_true, forall_eq', ne_eq, if_true, if_false, aval, abin, aint, ashift, abool, astr, anil, aun, aconv, aindexAddr, aindex, optInt, aslice, abuiltin, asrc, afill, placeOf, asetAll, undef, aload, apart, AV.cells, AV.one, aeval, updO, upd, initE, gdst, thenQ, blockQ, srcOk, Array.isEmpty, List.isEmpty, bytesV, reduceCtorEq, ↓reduceIte, Nat.reduceLT, Nat.reduceLeDiff, Nat.reduceEqDiff, Nat.reduceAdd, Nat.reduceMul, Nat.reducePow, Nat.reduceSub, Int.reduceLT, Int.reduceLE, Int.reduceToNat, REye3117, Try.ntmps117, Bool.not_true, Bool.not_false, Bool.false_eq_true, Bool.true_eq_false, false_imp_iff, true_imp_iff, decide_eq_true_eq, decide_eq_false_iff_not]
    refine hX ?_
    clear hX hY X Y
    refine awp_reg_seq ?_
    intro K hK
    simp only [↓DN, UP, implies_true, forall_eq', ne_eq, if_true, if_false, aval, abin, aint, ashift, abool, astr, anil, aun, aconv, aindexAddr, aindex, optInt, aslice, abuiltin, asrc, afill, placeOf, asetAll, undef, aload, apart, AV.cells, AV.one, aeval, updO, upd, initE, gdst, thenQ, blockQ, srcOk, Array.isEmpty, List.isEmpty, bytesV, reduceCtorEq, ↓reduceIte, Nat.reduceLT, Nat.reduceLeDiff, Nat.reduceEqDiff, Nat.reduceAdd, Nat.reduceMul, Nat.reducePow, Nat.reduceSub, Int.reduceLT, Int.reduceLE, Int.reduceToNat, REye3117, Try.ntmps117]
    refine hK _ _ ?_
    clear hK K
    refine awp_ret ?_
    simp only [retQ, AEnds, aresL, ares, List.toList_toArray, ↓upd_same]; try simp only [↓DN, UP, implies_true, forall_eq', ne_eq, if_true, if_false, aval, abin, aint, ashift, abool, astr, anil, aun, aconv, aindexAddr, aindex, optInt, aslice, abuiltin, asrc, afill, placeOf, asetAll, undef, aload, apart, AV.cells, AV.one, aeval, updO, upd, initE, gdst, thenQ, blockQ, srcOk, Array.isEmpty, List.isEmpty, bytesV, reduceCtorEq, ↓reduceIte, Nat.reduceLT, Nat.reduceLeDiff, Nat.reduceEqDiff, Nat.reduceAdd, Nat.reduceMul, Nat.reducePow, Nat.reduceSub, Int.reduceLT, Int.reduceLE, Int.reduceToNat, REye3117, Try.ntmps117, atuple_nil, atuple_one, atuple_two, atuple_three, atuple_four, atuple_five]
    have e : eyeText k most st = ([], l', er) := by unfold eyeText; rw [hq]; exact if_neg h0
    rw [e]
    exact ⟨_, _, AV.weak_nil, AS.le.refl _, rfl, he⟩

set_option maxHeartbeats 400000 in
theorem eyeShort_calls (s0 s : AS) (p : Nat) (st : EyeSt) (most : Int) (hl : st.1.length ≤ 2 ^ 45) (h : EyeS s0 s p st) :
    ACalls Try.prog Γ 62 [.ptr p 0, .v (.int .i64 most)] s (fun r s' => r = bytesV (eyeText 1 most st).1 .any ∧ EyeS s0 s' p (eyeText 1 most st).2) := by
  refine acalls_body Try.func62 rfl Try.ntmps62 Try.results62 (by simp) ?_
  refine awp_reg_seq ?_
  intro K hK
  simp only [↓DN, UP, implies_true, forall_eq', ne_eq, if_true, if_false, aval, abin, aint, ashift, abool, astr, anil, aun, aconv, aindexAddr, aindex, optInt, aslice, abuiltin, asrc, afill, placeOf, asetAll, undef, aload, apart, AV.cells, AV.one, aeval, updO, upd, initE, gdst, thenQ, blockQ, srcOk, Array.isEmpty, List.isEmpty, bytesV, reduceCtorEq, ↓reduceIte, Nat.reduceLT, Nat.reduceLeDiff, Nat.reduceEqDiff, Nat.reduceAdd, Nat.reduceMul, Nat.reducePow, Nat.reduceSub, Int.reduceLT, Int.reduceLE, Int.reduceToNat, REye362, Try.ntmps62]
  refine hK _ _ ?_
  clear hK K
  refine awp_reg_seq ?_
  intro K hK
  simp only [↓DN, UP, implies_true, forall_eq', ne_eq, if_true, if_false, aval, abin, aint, ashift, abool, astr, anil, aun, aconv, aindexAddr, aindex, optInt, aslice, abuiltin, asrc, afill, placeOf, asetAll, undef, aload, apart, AV.cells, AV.one, aeval, updO, upd, initE, gdst, thenQ, blockQ, srcOk, Array.isEmpty, List.isEmpty, bytesV, reduceCtorEq, ↓reduceIte, Nat.reduceLT, Nat.reduceLeDiff, Nat.reduceEqDiff, Nat.reduceAdd, Nat.reduceMul, Nat.reducePow, Nat.reduceSub, Int.reduceLT, Int.reduceLE, Int.reduceToNat, REye362, Try.ntmps62]
  refine acallk (eyeText_calls s0 s p st 1 most (by omega) hl h) ?_
  rintro r s' ⟨rfl, he⟩
  simp only [↓AXq_nil, ↓AXq_cons, pval, List.contains_cons, List.contains_nil, Nat.reduceBEq, Bool.or_false, Bool.or_true, Bool.or_self, Bool.false_eq_true, Bool.false_or, ↓DN, UP, implies_true, forall_eq', ne_eq, if_true, if_false, aval, abin, aint, ashift, abool, astr, anil, aun, aconv, aindexAddr, aindex, optInt, aslice, abuiltin, asrc, afill, placeOf, asetAll, undef, aload, apart, AV.cells, AV.one, aeval, updO, upd, initE, gdst, thenQ, blockQ, srcOk, Array.isEmpty, List.isEmpty, bytesV, reduceCtorEq, ↓reduceIte, Nat.reduceLT, Nat.reduceLeDiff, Nat.reduceEqDiff, Nat.reduceAdd, Nat.reduceMul, Nat.reducePow, Nat.reduceSub, Int.reduceLT, Int.reduceLE, Int.reduceToNat, REye362, Try.ntmps62]
  refine hK _ _ ?_
  clear hK K
  refine awp_ret ?_
  simp only [retQ, AEnds, aresL, ares, List.toList_toArray, ↓upd_same]; try simp only [↓DN, UP, implies_true, forall_eq', ne_eq, if_true, if_false, aval, abin, aint, ashift, abool, astr, anil, aun, aconv, aindexAddr, aindex, optInt, aslice, abuiltin, asrc, afill, placeOf, asetAll, undef, aload, apart, AV.cells, AV.one, aeval, updO, upd, initE, gdst, thenQ, blockQ, srcOk, Array.isEmpty, List.isEmpty, bytesV, reduceCtorEq, ↓reduceIte, Nat.reduceLT, Nat.reduceLeDiff, Nat.reduceEqDiff, Nat.reduceAdd, Nat.reduceMul, Nat.reducePow, Nat.reduceSub, Int.reduceLT, Int.reduceLE, Int.reduceToNat, REye362, Try.ntmps62, atuple_nil, atuple_one, atuple_two, atuple_three, atuple_four, atuple_five]
  exact ⟨_, _, AV.weak.refl _, AS.le.refl _, rfl, he⟩

set_option maxHeartbeats 400000 in
theorem eyeLong_calls (s0 s : AS) (p : Nat) (st : EyeSt) (most : Int) (hl : st.1.length ≤ 2 ^ 45) (h : EyeS s0 s p st) :
    ACalls Try.prog Γ 58 [.ptr p 0, .v (.int .i64 most)] s (fun r s' => r = bytesV (eyeText 2 most st).1 .any ∧ EyeS s0 s' p (eyeText 2 most st).2) := by
  refine acalls_body Try.func58 rfl Try.ntmps58 Try.results58 (by simp) ?_
  refine awp_reg_seq ?_
  intro K hK
  simp only [↓DN, UP, implies_true, forall_eq', ne_eq, if_true, if_false, aval, abin, aint, ashift, abool, astr, anil, aun, aconv, aindexAddr, aindex, optInt, aslice, abuiltin, asrc, afill, placeOf, asetAll, undef, aload, apart, AV.cells, AV.one, aeval, updO, upd, initE, gdst, thenQ, blockQ, srcOk, Array.isEmpty, List.isEmpty, bytesV, reduceCtorEq, ↓reduceIte, Nat.reduceLT, Nat.reduceLeDiff, Nat.reduceEqDiff, Nat.reduceAdd, Nat.reduceMul, Nat.reducePow, Nat.reduceSub, Int.reduceLT, Int.reduceLE, Int.reduceToNat, REye358, Try.ntmps58]
  refine hK _ _ ?_
  clear hK K
  refine awp_reg_seq ?_
  intro K hK
  simp only [↓DN, UP, implies_true, forall_eq', ne_eq, if_true, if_false, aval, abin, aint, ashift, abool, astr, anil, aun, aconv, aindexAddr, aindex, optInt, aslice, abuiltin, asrc, afill, placeOf, asetAll, undef, aload, apart, AV.cells, AV.one, aeval, updO, upd, initE, gdst, thenQ, blockQ, srcOk, Array.isEmpty, List.isEmpty, bytesV, reduceCtorEq, ↓reduceIte, Nat.reduceLT, Nat.reduceLeDiff, Nat.reduceEqDiff, Nat.reduceAdd, Nat.reduceMul, Nat.reducePow, Nat.reduceSub, Int.reduceLT, Int.reduceLE, Int.reduceToNat, REye358, Try.ntmps58]
  refine acallk (eyeText_calls s0 s p st 2 most (by omega) hl h) ?_
  rintro r s' ⟨rfl, he⟩
  simp only [↓AXq_nil, ↓AXq_cons, pval, List.contains_cons, List.contains_nil, Nat.reduceBEq, Bool.or_false, Bool.or_true, Bool.or_self, Bool.false_eq_true, Bool.false_or, ↓DN, UP, implies_true, forall_eq', ne_eq, if_true, if_false, aval, abin, aint, ashift, abool, astr, anil, aun, aconv, aindexAddr, aindex, optInt, aslice, abuiltin, asrc, afill, placeOf, asetAll, undef, aload, apart, AV.cells, AV.one, aeval, updO, upd, initE, gdst, thenQ, blockQ, srcOk, Array.isEmpty, List.isEmpty, bytesV, reduceCtorEq, ↓reduceIte, Nat.reduceLT, Nat.reduceLeDiff, Nat.reduceEqDiff, Nat.reduceAdd, Nat.reduceMul, Nat.reducePow, Nat.reduceSub, Int.reduceLT, Int.reduceLE, Int.reduceToNat, REye358, Try.ntmps58]
  refine hK _ _ ?_
  clear hK K
  refine awp_ret ?_
  simp only [retQ, AEnds, aresL, ares, List.toList_toArray, ↓upd_same]; try simp only [↓DN, UP, implies_true, forall_eq', ne_eq, if_true, if_false, aval, abin, aint, ashift, abool, astr, anil, aun, aconv, aindexAddr, aindex, optInt, aslice, abuiltin, asrc, afill, placeOf, asetAll, undef, aload, apart, AV.cells, AV.one, aeval, updO, upd, initE, gdst, thenQ, blockQ, srcOk, Array.isEmpty, List.isEmpty, bytesV, reduceCtorEq, ↓reduceIte, Nat.reduceLT, Nat.reduceLeDiff, Nat.reduceEqDiff, Nat.reduceAdd, Nat.reduceMul, Nat.reducePow, Nat.reduceSub, Int.reduceLT, Int.reduceLE, Int.reduceToNat, REye358, Try.ntmps58, atuple_nil, atuple_one, atuple_two, atuple_three, atuple_four, atuple_five]
  exact ⟨_, _, AV.weak.refl _, AS.le.refl _, rfl, he⟩

set_option maxHeartbeats 400000 in
theorem eyeLeft_calls (s0 s : AS) (p : Nat) (st : EyeSt) (h : EyeS s0 s p st) :
    ACalls Try.prog Γ 61 [.ptr p 0] s (fun r s' => r = .v (.int .i64 st.1.length) ∧ s' = s) := by
  refine acalls_body Try.func61 rfl Try.ntmps61 Try.results61 (by simp) ?_
  have hx := h.obj
  simp only [bytesV] at hx
  refine awp_reg_seq ?_
  intro K hK
  simp only [↓DN, UP, implies_true, forall_eq', ne_eq, if_true, if_false, aval, abin, aint, ashift, abool, astr, anil, aun, aconv, aindexAddr, aindex, optInt, aslice, abuiltin, asrc, afill, placeOf, asetAll, undef, aload, apart, AV.cells, AV.one, aeval, updO, upd, initE, gdst, thenQ, blockQ, srcOk, Array.isEmpty, List.isEmpty, bytesV, reduceCtorEq, ↓reduceIte, Nat.reduceLT, Nat.reduceLeDiff, Nat.reduceEqDiff, Nat.reduceAdd, Nat.reduceMul, Nat.reducePow, Nat.reduceSub, Int.reduceLT, Int.reduceLE, Int.reduceToNat, REye361, Try.ntmps61]
  refine hK _ _ ?_
  clear hK K
  refine awp_reg_seq ?_
  intro K hK
  simp only [↓DN, UP, implies_true, forall_eq', ne_eq, if_true, if_false, aval, abin, aint, ashift, abool, astr, anil, aun, aconv, aindexAddr, aindex, optInt, aslice, abuiltin, asrc, afill, placeOf, asetAll, undef, aload, apart, AV.cells, AV.one, aeval, updO, upd, initE, gdst, thenQ, blockQ, srcOk, Array.isEmpty, List.isEmpty, bytesV, reduceCtorEq, ↓reduceIte, Nat.reduceLT, Nat.reduceLeDiff, Nat.reduceEqDiff, Nat.reduceAdd, Nat.reduceMul, Nat.reducePow, Nat.reduceSub, Int.reduceLT, Int.reduceLE, Int.reduceToNat, REye361, Try.ntmps61, hx]
  refine hK _ _ ?_
  clear hK K
  refine awp_ret ?_
  simp only [retQ, AEnds, aresL, ares, List.toList_toArray, ↓upd_same]; try simp only [↓DN, UP, implies_true, forall_eq', ne_eq, if_true, if_false, aval, abin, aint, ashift, abool, astr, anil, aun, aconv, aindexAddr, aindex, optInt, aslice, abuiltin, asrc, afill, placeOf, asetAll, undef, aload, apart, AV.cells, AV.one, aeval, updO, upd, initE, gdst, thenQ, blockQ, srcOk, Array.isEmpty, List.isEmpty, bytesV, reduceCtorEq, ↓reduceIte, Nat.reduceLT, Nat.reduceLeDiff, Nat.reduceEqDiff, Nat.reduceAdd, Nat.reduceMul, Nat.reducePow, Nat.reduceSub, Int.reduceLT, Int.reduceLE, Int.reduceToNat, REye361, Try.ntmps61, atuple_nil, atuple_one, atuple_two, atuple_three, atuple_four, atuple_five]
  exact ⟨_, _, AV.weak.refl _, AS.le.refl _, rfl, rfl⟩

set_option maxHeartbeats 400000 in
theorem eyeErr_calls (s0 s : AS) (p : Nat) (st : EyeSt) (h : EyeS s0 s p st) :
    ACalls Try.prog Γ 64 [.ptr p 0] s (fun r s' => r = .v (.int .i64 st.2) ∧ s' = s) := by
  refine acalls_body Try.func64 rfl Try.ntmps64 Try.results64 (by simp) ?_
  have hx := h.obj
  refine awp_reg_seq ?_
  intro K hK
  simp only [↓DN, UP, implies_true, forall_eq', ne_eq, if_true, if_false, aval, abin, aint, ashift, abool, astr, anil, aun, aconv, aindexAddr, aindex, optInt, aslice, abuiltin, asrc, afill, placeOf, asetAll, undef, aload, apart, AV.cells, AV.one, aeval, updO, upd, initE, gdst, thenQ, blockQ, srcOk, Array.isEmpty, List.isEmpty, bytesV, reduceCtorEq, ↓reduceIte, Nat.reduceLT, Nat.reduceLeDiff, Nat.reduceEqDiff, Nat.reduceAdd, Nat.reduceMul, Nat.reducePow, Nat.reduceSub, Int.reduceLT, Int.reduceLE, Int.reduceToNat, REye364, Try.ntmps64]
  refine hK _ _ ?_
  clear hK K
  refine awp_reg_seq ?_
  intro K hK
  simp only [↓DN, UP, implies_true, forall_eq', ne_eq, if_true, if_false, aval, abin, aint, ashift, abool, astr, anil, aun, aconv, aindexAddr, aindex, optInt, aslice, abuiltin, asrc, afill, placeOf, asetAll, undef, aload, apart, AV.cells, AV.one, aeval, updO, upd, initE, gdst, thenQ, blockQ, srcOk, Array.isEmpty, List.isEmpty, bytesV, reduceCtorEq, ↓reduceIte, Nat.reduceLT, Nat.reduceLeDiff, Nat.reduceEqDiff, Nat.reduceAdd, Nat.reduceMul, Nat.reducePow, Nat.reduceSub, Int.reduceLT, Int.reduceLE, Int.reduceToNat, REye364, Try.ntmps64, hx]
  refine hK _ _ ?_
  clear hK K
  refine awp_ret ?_
  simp only [retQ, AEnds, aresL, ares, List.toList_toArray, ↓upd_same]; try simp only [↓DN, UP, implies_true, forall_eq', ne_eq, if_true, if_false, aval, abin, aint, ashift, abool, astr, anil, aun, aconv, aindexAddr, aindex, optInt, aslice, abuiltin, asrc, afill, placeOf, asetAll, undef, aload, apart, AV.cells, AV.one, aeval, updO, upd, initE, gdst, thenQ, blockQ, srcOk, Array.isEmpty, List.isEmpty, bytesV, reduceCtorEq, ↓reduceIte, Nat.reduceLT, Nat.reduceLeDiff, Nat.reduceEqDiff, Nat.reduceAdd, Nat.reduceMul, Nat.reducePow, Nat.reduceSub, Int.reduceLT, Int.reduceLE, Int.reduceToNat, REye364, Try.ntmps64, atuple_nil, atuple_one, atuple_two, atuple_three, atuple_four, atuple_five]
  exact ⟨_, _, AV.weak.refl _, AS.le.refl _, rfl, rfl⟩

set_option maxHeartbeats 400000 in
theorem eyeFail_calls (s0 s : AS) (p : Nat) (st : EyeSt) (e : Int) (h : EyeS s0 s p st) :
    ACalls Try.prog Γ 71 [.ptr p 0, .v (.int .i64 e)] s (fun r s' => r = .tup [] ∧ EyeS s0 s' p (st.1, if st.2 = 0 then e else st.2)) := by
  refine acalls_body Try.func71 rfl Try.ntmps71 Try.results71 (by simp) ?_
  have hx := h.obj
  obtain ⟨l, er⟩ := st
  simp only at hx ⊢
  by_cases h0 : er = 0
  · refine awp_reg_seq ?_
    intro K hK
    simp only [↓DN, UP, implies_true, forall_eq', ne_eq, if_true, if_false, aval, abin, aint, ashift, abool, astr, anil, aun, aconv, aindexAddr, aindex, optInt, aslice, abuiltin, asrc, afill, placeOf, asetAll, undef, aload, apart, AV.cells, AV.one, aeval, updO, upd, initE, gdst, thenQ, blockQ, srcOk, Array.isEmpty, List.isEmpty, bytesV, reduceCtorEq, ↓reduceIte, Nat.reduceLT, Nat.reduceLeDiff, Nat.reduceEqDiff, Nat.reduceAdd, Nat.reduceMul, Nat.reducePow, Nat.reduceSub, Int.reduceLT, Int.reduceLE, Int.reduceToNat, REye371, Try.ntmps71, hx, i64_eq_true er h0]
    refine hK _ _ ?_
    clear hK K
    refine awp_cond_k ?_
    intro X Y hX hY
    simp only [↓DN, UP, implies_true, forall_eq', ne_eq, if_true, if_false, aval, abin, aint, ashift, abool, astr, anil, aun, aconv, aindexAddr, aindex, optInt, aslice, abuiltin, asrc, afill, placeOf, asetAll, undef, aload, apart, AV.cells, AV.one, aeval, updO, upd, initE, gdst, thenQ, blockQ, srcOk, Array.isEmpty, List.isEmpty, bytesV, reduceCtorEq, ↓reduceIte, Nat.reduceLT, Nat.reduceLeDiff, Nat.reduceEqDiff, Nat.reduceAdd, Nat.reduceMul, Nat.reducePow, Nat.reduceSub, Int.reduceLT, Int.reduceLE, Int.reduceToNat, REye371, Try.ntmps71, Bool.not_true, Bool.not_false, Bool.false_eq_true, Bool.true_eq_false, false_imp_iff, true_imp_iff, decide_eq_true_eq, decide_eq_false_iff_not]
    refine hX ?_
    clear hX hY X Y
    refine awp_reg_end ?_
    intro K hK
    simp only [↓DN, UP, implies_true, forall_eq', ne_eq, if_true, if_false, aval, abin, aint, ashift, abool, astr, anil, aun, aconv, aindexAddr, aindex, optInt, aslice, abuiltin, asrc, afill, placeOf, asetAll, undef, aload, apart, AV.cells, AV.one, aeval, updO, upd, initE, gdst, thenQ, blockQ, srcOk, Array.isEmpty, List.isEmpty, bytesV, reduceCtorEq, ↓reduceIte, Nat.reduceLT, Nat.reduceLeDiff, Nat.reduceEqDiff, Nat.reduceAdd, Nat.reduceMul, Nat.reducePow, Nat.reduceSub, Int.reduceLT, Int.reduceLE, Int.reduceToNat, REye371, Try.ntmps71, hx]
    refine hK _ _ ?_
    clear hK K
    simp only [retQ, AEnds, aresL, ares, List.toList_toArray, ↓upd_same]; try simp only [↓DN, UP, implies_true, forall_eq', ne_eq, if_true, if_false, aval, abin, aint, ashift, abool, astr, anil, aun, aconv, aindexAddr, aindex, optInt, aslice, abuiltin, asrc, afill, placeOf, asetAll, undef, aload, apart, AV.cells, AV.one, aeval, updO, upd, initE, gdst, thenQ, blockQ, srcOk, Array.isEmpty, List.isEmpty, bytesV, reduceCtorEq, ↓reduceIte, Nat.reduceLT, Nat.reduceLeDiff, Nat.reduceEqDiff, Nat.reduceAdd, Nat.reduceMul, Nat.reducePow, Nat.reduceSub, Int.reduceLT, Int.reduceLE, Int.reduceToNat, REye371, Try.ntmps71, atuple_nil, atuple_one, atuple_two, atuple_three, atuple_four, atuple_five]
    rw [if_pos h0]
    exact ⟨_, _, AV.weak.refl _, AS.le.refl _, rfl, h.put⟩
  · refine awp_reg_seq ?_
    intro K hK
    simp only [↓DN, UP, implies_true, forall_eq', ne_eq, if_true, if_false, aval, abin, aint, ashift, abool, astr, anil, aun, aconv, aindexAddr, aindex, optInt, aslice, abuiltin, asrc, afill, placeOf, asetAll, undef, aload, apart, AV.cells, AV.one, aeval, updO, upd, initE, gdst, thenQ, blockQ, srcOk, Array.isEmpty, List.isEmpty, bytesV, reduceCtorEq, ↓reduceIte, Nat.reduceLT, Nat.reduceLeDiff, Nat.reduceEqDiff, Nat.reduceAdd, Nat.reduceMul, Nat.reducePow, Nat.reduceSub, Int.reduceLT, Int.reduceLE, Int.reduceToNat, REye371, Try.ntmps71, hx, i64_eq_false er h0]
    refine hK _ _ ?_
    clear hK K
    refine awp_cond_k ?_
    intro X Y hX hY
    simp only [↓DN, UP, implies_true, forall_eq', ne_eq, if_true, if_false, aval, abin, aint, ashift, abool, astr, anil, aun, aconv, aindexAddr, aindex, optInt, aslice, abuiltin, asrc, afill, placeOf, asetAll, undef, aload, apart, AV.cells, AV.one, aeval, updO, upd, initE, gdst, thenQ, blockQ, srcOk, Array.isEmpty, List.isEmpty, bytesV, reduceCtorEq, ↓reduceIte, Nat.reduceLT, Nat.reduceLeDiff, Nat.reduceEqDiff, Nat.reduceAdd, Nat.reduceMul, Nat.reducePow, Nat.reduceSub, Int.reduceLT, Int.reduceLE, Int.reduceToNat, REye371, Try.ntmps71, Bool.not_true, Bool.not_false, Bool.false_eq_true, Bool.true_eq_false, false_imp_iff, true_imp_iff, decide_eq_true_eq, decide_eq_false_iff_not]
    refine hY ?_
    clear hX hY X Y
    refine awp_skip ?_
    simp only [retQ, AEnds, aresL, ares, List.toList_toArray, ↓upd_same]; try simp only [↓DN, UP, implies_true, forall_eq', ne_eq, if_true, if_false, aval, abin, aint, ashift, abool, astr, anil, aun, aconv, aindexAddr, aindex, optInt, aslice, abuiltin, asrc, afill, placeOf, asetAll, undef, aload, apart, AV.cells, AV.one, aeval, updO, upd, initE, gdst, thenQ, blockQ, srcOk, Array.isEmpty, List.isEmpty, bytesV, reduceCtorEq, ↓reduceIte, Nat.reduceLT, Nat.reduceLeDiff, Nat.reduceEqDiff, Nat.reduceAdd, Nat.reduceMul, Nat.reducePow, Nat.reduceSub, Int.reduceLT, Int.reduceLE, Int.reduceToNat, REye371, Try.ntmps71, atuple_nil, atuple_one, atuple_two, atuple_three, atuple_four, atuple_five]
    rw [if_neg h0]
    exact ⟨_, _, AV.weak.refl _, AS.le.refl _, rfl, h⟩

set_option maxHeartbeats 400000 in
theorem eyeEnd_calls (s0 s : AS) (p : Nat) (st : EyeSt) (h : EyeS s0 s p st) :
    ACalls Try.prog Γ 60 [.ptr p 0] s (fun r s' => r = .v (.int .i64 (eyeEnd st)) ∧ s' = s) := by
  refine acalls_body Try.func60 rfl Try.ntmps60 Try.results60 (by simp) ?_
  have hx := h.obj
  obtain ⟨l, er⟩ := st
  simp only [bytesV] at hx
  refine awp_reg_seq ?_
  intro K hK
  simp only [↓DN, UP, implies_true, forall_eq', ne_eq, if_true, if_false, aval, abin, aint, ashift, abool, astr, anil, aun, aconv, aindexAddr, aindex, optInt, aslice, abuiltin, asrc, afill, placeOf, asetAll, undef, aload, apart, AV.cells, AV.one, aeval, updO, upd, initE, gdst, thenQ, blockQ, srcOk, Array.isEmpty, List.isEmpty, bytesV, reduceCtorEq, ↓reduceIte, Nat.reduceLT, Nat.reduceLeDiff, Nat.reduceEqDiff, Nat.reduceAdd, Nat.reduceMul, Nat.reducePow, Nat.reduceSub, Int.reduceLT, Int.reduceLE, Int.reduceToNat, REye360, Try.ntmps60]
  refine hK _ _ ?_
  clear hK K
  refine awp_seq_k ?_
  intro K hK
  have hgo : ∀ E1 : Env, E1 0 = .ptr p 0 → eyeEnd (l, er) = er → K E1 s := by
    intro E1 e0 e
    refine hK _ _ ?_
    clear hK K
    refine awp_reg_seq ?_
    intro K hK
    simp only [↓DN, UP, implies_true, forall_eq', ne_eq, if_true, if_false, aval, abin, aint, ashift, abool, astr, anil, aun, aconv, aindexAddr, aindex, optInt, aslice, abuiltin, asrc, afill, placeOf, asetAll, undef, aload, apart, AV.cells, AV.one, aeval, updO, upd, initE, gdst, thenQ, blockQ, srcOk, Array.isEmpty, List.isEmpty, bytesV, reduceCtorEq, ↓reduceIte, Nat.reduceLT, Nat.reduceLeDiff, Nat.reduceEqDiff, Nat.reduceAdd, Nat.reduceMul, Nat.reducePow, Nat.reduceSub, Int.reduceLT, Int.reduceLE, Int.reduceToNat, REye360, Try.ntmps60, e0, hx]
    refine hK _ _ ?_
    clear hK K
    refine awp_ret ?_
    simp only [retQ, AEnds, aresL, ares, List.toList_toArray, ↓upd_same]; try simp only [↓DN, UP, implies_true, forall_eq', ne_eq, if_true, if_false, aval, abin, aint, ashift, abool, astr, anil, aun, aconv, aindexAddr, aindex, optInt, aslice, abuiltin, asrc, afill, placeOf, asetAll, undef, aload, apart, AV.cells, AV.one, aeval, updO, upd, initE, gdst, thenQ, blockQ, srcOk, Array.isEmpty, List.isEmpty, bytesV, reduceCtorEq, ↓reduceIte, Nat.reduceLT, Nat.reduceLeDiff, Nat.reduceEqDiff, Nat.reduceAdd, Nat.reduceMul, Nat.reducePow, Nat.reduceSub, Int.reduceLT, Int.reduceLE, Int.reduceToNat, REye360, Try.ntmps60, atuple_nil, atuple_one, atuple_two, atuple_three, atuple_four, atuple_five]
    exact ⟨_, _, AV.weak.refl _, AS.le.refl _, by rw [e], rfl⟩
  clear hK
  by_cases h0 : er = 0
  · by_cases h1 : 0 < l.length
    · refine awp_reg_seq ?_
      intro K hK
      simp only [↓DN, UP, implies_true, forall_eq', ne_eq, if_true, if_false, aval, abin, aint, ashift, abool, astr, anil, aun, aconv, aindexAddr, aindex, optInt, aslice, abuiltin, asrc, afill, placeOf, asetAll, undef, aload, apart, AV.cells, AV.one, aeval, updO, upd, initE, gdst, thenQ, blockQ, srcOk, Array.isEmpty, List.isEmpty, bytesV, reduceCtorEq, ↓reduceIte, Nat.reduceLT, Nat.reduceLeDiff, Nat.reduceEqDiff, Nat.reduceAdd, Nat.reduceMul, Nat.reducePow, Nat.reduceSub, Int.reduceLT, Int.reduceLE, Int.reduceToNat, REye360, Try.ntmps60, hx, i64_eq_true er h0, decide_eq_true (show (0 : Int) < (l.length : Int) by omega)]
      refine hK _ _ ?_
      clear hK K
      refine awp_cond_k ?_
      intro X Y hX hY
      simp only [↓DN, UP, implies_true, forall_eq', ne_eq, if_true, if_false, aval, abin, aint, ashift, abool, astr, anil, aun, aconv, aindexAddr, aindex, optInt, aslice, abuiltin, asrc, afill, placeOf, asetAll, undef, aload, apart, AV.cells, AV.one, aeval, updO, upd, initE, gdst, thenQ, blockQ, srcOk, Array.isEmpty, List.isEmpty, bytesV, reduceCtorEq, ↓reduceIte, Nat.reduceLT, Nat.reduceLeDiff, Nat.reduceEqDiff, Nat.reduceAdd, Nat.reduceMul, Nat.reducePow, Nat.reduceSub, Int.reduceLT, Int.reduceLE, Int.reduceToNat, REye360, Try.ntmps60, Bool.not_true, Bool.not_false, Bool.false_eq_true, Bool.true_eq_false, false_imp_iff, true_imp_iff, decide_eq_true_eq, decide_eq_false_iff_not]
      refine hX ?_
      clear hX hY X Y
      refine awp_reg_seq ?_
      intro K hK
      simp only [↓DN, UP, implies_true, forall_eq', ne_eq, if_true, if_false, aval, abin, aint, ashift, abool, astr, anil, aun, aconv, aindexAddr, aindex, optInt, aslice, abuiltin, asrc, afill, placeOf, asetAll, undef, aload, apart, AV.cells, AV.one, aeval, updO, upd, initE, gdst, thenQ, blockQ, srcOk, Array.isEmpty, List.isEmpty, bytesV, reduceCtorEq, ↓reduceIte, Nat.reduceLT, Nat.reduceLeDiff, Nat.reduceEqDiff, Nat.reduceAdd, Nat.reduceMul, Nat.reducePow, Nat.reduceSub, Int.reduceLT, Int.reduceLE, Int.reduceToNat, REye360, Try.ntmps60]
      refine hK _ _ ?_
      clear hK K
      refine awp_ret ?_
      simp only [retQ, AEnds, aresL, ares, List.toList_toArray, ↓upd_same]; try simp only [↓DN, UP, implies_true, forall_eq', ne_eq, if_true, if_false, aval, abin, aint, ashift, abool, astr, anil, aun, aconv, aindexAddr, aindex, optInt, aslice, abuiltin, asrc, afill, placeOf, asetAll, undef, aload, apart, AV.cells, AV.one, aeval, updO, upd, initE, gdst, thenQ, blockQ, srcOk, Array.isEmpty, List.isEmpty, bytesV, reduceCtorEq, ↓reduceIte, Nat.reduceLT, Nat.reduceLeDiff, Nat.reduceEqDiff, Nat.reduceAdd, Nat.reduceMul, Nat.reducePow, Nat.reduceSub, Int.reduceLT, Int.reduceLE, Int.reduceToNat, REye360, Try.ntmps60, atuple_nil, atuple_one, atuple_two, atuple_three, atuple_four, atuple_five]
      exact ⟨_, _, AV.weak.refl _, AS.le.refl _, by simp [eyeEnd, h0, h1, atuple], rfl⟩
    · refine awp_reg_seq ?_
      intro K hK
      simp only [↓DN, UP, implies_true, forall_eq', ne_eq, if_true, if_false, aval, abin, aint, ashift, abool, astr, anil, aun, aconv, aindexAddr, aindex, optInt, aslice, abuiltin, asrc, afill, placeOf, asetAll, undef, aload, apart, AV.cells, AV.one, aeval, updO, upd, initE, gdst, thenQ, blockQ, srcOk, Array.isEmpty, List.isEmpty, bytesV, reduceCtorEq, ↓reduceIte, Nat.reduceLT, Nat.reduceLeDiff, Nat.reduceEqDiff, Nat.reduceAdd, Nat.reduceMul, Nat.reducePow, Nat.reduceSub, Int.reduceLT, Int.reduceLE, Int.reduceToNat, REye360, Try.ntmps60, hx, i64_eq_true er h0, decide_eq_false (show ¬ (0 : Int) < (l.length : Int) by omega)]
      refine hK _ _ ?_
      clear hK K
      refine awp_cond_k ?_
      intro X Y hX hY
      simp only [↓DN, UP, implies_true, forall_eq', ne_eq, if_true, if_false, aval, abin, aint, ashift, abool, astr, anil, aun, aconv, aindexAddr, aindex, optInt, aslice, abuiltin, asrc, afill, placeOf, asetAll, undef, aload, apart, AV.cells, AV.one, aeval, updO, upd, initE, gdst, thenQ, blockQ, srcOk, Array.isEmpty, List.isEmpty, bytesV, reduceCtorEq, ↓reduceIte, Nat.reduceLT, Nat.reduceLeDiff, Nat.reduceEqDiff, Nat.reduceAdd, Nat.reduceMul, Nat.reducePow, Nat.reduceSub, Int.reduceLT, Int.reduceLE, Int.reduceToNat, REye360, Try.ntmps60, Bool.not_true, Bool.not_false, Bool.false_eq_true, Bool.true_eq_false, false_imp_iff, true_imp_iff, decide_eq_true_eq, decide_eq_false_iff_not]
      refine hY ?_
      clear hX hY X Y
      refine awp_skip ?_
      exact hgo _ (by simp only [upd, initE, List.getD_cons_zero, Nat.reduceEqDiff, ↓reduceIte]) (by simp [eyeEnd, h1])
  · refine awp_reg_seq ?_
    intro K hK
    simp only [↓DN, UP, implies_true, forall_eq', ne_eq, if_true, if_false, aval, abin, aint, ashift, abool, astr, anil, aun, aconv, aindexAddr, aindex, optInt, aslice, abuiltin, asrc, afill, placeOf, asetAll, undef, aload, apart, AV.cells, AV.one, aeval, updO, upd, initE, gdst, thenQ, blockQ, srcOk, Array.isEmpty, List.isEmpty, bytesV, reduceCtorEq, ↓reduceIte, Nat.reduceLT, Nat.reduceLeDiff, Nat.reduceEqDiff, Nat.reduceAdd, Nat.reduceMul, Nat.reducePow, Nat.reduceSub, Int.reduceLT, Int.reduceLE, Int.reduceToNat, REye360, Try.ntmps60, hx, i64_eq_false er h0]
    refine hK _ _ ?_
    clear hK K
    refine awp_cond_k ?_
    intro X Y hX hY
    simp only [↓DN, UP, implies_true, forall_eq', ne_eq, if_true, if_false, aval, abin, aint, ashift, abool, astr, anil, aun, aconv, aindexAddr, aindex, optInt, aslice, abuiltin, asrc, afill, placeOf, asetAll, undef, aload, apart, AV.cells, AV.one, aeval, updO, upd, initE, gdst, thenQ, blockQ, srcOk, Array.isEmpty, List.isEmpty, bytesV, reduceCtorEq, ↓reduceIte, Nat.reduceLT, Nat.reduceLeDiff, Nat.reduceEqDiff, Nat.reduceAdd, Nat.reduceMul, Nat.reducePow, Nat.reduceSub, Int.reduceLT, Int.reduceLE, Int.reduceToNat, REye360, Try.ntmps60, Bool.not_true, Bool.not_false, Bool.false_eq_true, Bool.true_eq_false, false_imp_iff, true_imp_iff, decide_eq_true_eq, decide_eq_false_iff_not]
    refine hY ?_
    clear hX hY X Y
    refine awp_skip ?_
    exact hgo _ (by simp only [upd, initE, List.getD_cons_zero, Nat.reduceEqDiff, ↓reduceIte]) (by simp [eyeEnd, h0])

end Go.Proofs.Ytpakgjmcaefnmaa

