/- Contracts of the program's functions, each walked once; the conditions stand in each theorem. -/
import Derived.Test.YtpakgjmcaefnmaaDoorSch1
set_option linter.unusedSimpArgs false
set_option linter.unusedVariables false
set_option autoImplicit false
namespace Go.Proofs.YtpakgjmcaefnmaaDoor
open Go Go.AM Go.Proofs

theorem RSch298 : type_of% (And.intro (And.intro (And.intro (And.intro @Tryd.underlying5 (And.intro T.c5 T.g5)) (And.intro (And.intro T.b5 T.z5) (And.intro @Tryd.underlying22 T.c22))) (And.intro (And.intro T.g22 (And.intro T.b22 T.z22)) (And.intro (And.intro T.s22 @Tryd.underlying52) (And.intro T.c52 T.g52)))) (And.intro (And.intro (And.intro T.b52 (And.intro T.z52 T.h52)) (And.intro (And.intro @Tryd.underlying98 T.c98) (And.intro T.g98 T.b98))) (And.intro (And.intro (And.intro T.z98 T.s98) (And.intro T.f52_0 T.f52_1)) (And.intro (And.intro T.f52_2 T.f52_3) (And.intro T.f52_4 T.f52_5))))) :=
  (And.intro (And.intro (And.intro (And.intro @Tryd.underlying5 (And.intro T.c5 T.g5)) (And.intro (And.intro T.b5 T.z5) (And.intro @Tryd.underlying22 T.c22))) (And.intro (And.intro T.g22 (And.intro T.b22 T.z22)) (And.intro (And.intro T.s22 @Tryd.underlying52) (And.intro T.c52 T.g52)))) (And.intro (And.intro (And.intro T.b52 (And.intro T.z52 T.h52)) (And.intro (And.intro @Tryd.underlying98 T.c98) (And.intro T.g98 T.b98))) (And.intro (And.intro (And.intro T.z98 T.s98) (And.intro T.f52_0 T.f52_1)) (And.intro (And.intro T.f52_2 T.f52_3) (And.intro T.f52_4 T.f52_5)))))

variable {Γ : Nat → List AV}

theorem six_cases {ls : List (List UInt8)} (h : ls.length = 6) : ∃ a b c d e f, ls = [a, b, c, d, e, f] := by
  match ls, h with
  | [a, b, c, d, e, f], _ => exact ⟨a, b, c, d, e, f, rfl⟩

set_option maxHeartbeats 4000000 in
theorem list_calls (ls : List (List UInt8)) (hl : ls.length = 6) (s : AS) :
    ACalls Tryd.prog Γ 98 [.agg (sixV ls)] s (fun r s' => r = .sl 1 6 (sixV ls) .new ∧ s' = s) := by
  refine acalls_body Tryd.func98 rfl Tryd.ntmps98 Tryd.results98 (by simp) ?_
  obtain ⟨a, b, c, d, e, f, rfl⟩ := six_cases hl
  have e1 : sixV [a, b, c, d, e, f] = [bytesV a .any, bytesV b .any, bytesV c .any, bytesV d .any, bytesV e .any, bytesV f .any] := rfl
  have rep6 : ∀ x : AV, List.replicate 6 x = [x, x, x, x, x, x] := fun _ => rfl
  rw [e1]
  refine awp_reg_seq ?_
  intro K hK
  simp only [↓DN, UP, implies_true, forall_eq', ne_eq, if_true, if_false, aval, abin, aint, ashift, abool, astr, anil, aun, aconv, aindexAddr, aindex, optInt, aslice, abuiltin, asrc, afill, placeOf, asetAll, undef, aload, apart, AV.cells, AV.one, aeval, updO, upd, initE, gdst, thenQ, blockQ, srcOk, Array.isEmpty, List.isEmpty, bytesV, reduceCtorEq, ↓reduceIte, Nat.reduceLT, Nat.reduceLeDiff, Nat.reduceEqDiff, Nat.reduceAdd, Nat.reduceMul, Nat.reducePow, Nat.reduceSub, Int.reduceLT, Int.reduceLE, Int.reduceToNat, RSch298, Tryd.ntmps98]
  intro o ho
  refine hK _ _ ?_
  clear hK K
  refine awp_reg_seq ?_
  intro K hK
  simp only [↓DN, UP, implies_true, forall_eq', ne_eq, if_true, if_false, aval, abin, aint, ashift, abool, astr, anil, aun, aconv, aindexAddr, aindex, optInt, aslice, abuiltin, asrc, afill, placeOf, asetAll, undef, aload, apart, AV.cells, AV.one, aeval, updO, upd, initE, gdst, thenQ, blockQ, srcOk, Array.isEmpty, List.isEmpty, bytesV, reduceCtorEq, ↓reduceIte, Nat.reduceLT, Nat.reduceLeDiff, Nat.reduceEqDiff, Nat.reduceAdd, Nat.reduceMul, Nat.reducePow, Nat.reduceSub, Int.reduceLT, Int.reduceLE, Int.reduceToNat, RSch298, Tryd.ntmps98, rep6]
  refine hK _ _ ?_
  clear hK K
  refine awp_ret ?_
  simp only [retQ, AEnds, aresL, ares, List.toList_toArray, ↓upd_same]; try simp only [↓DN, UP, implies_true, forall_eq', ne_eq, if_true, if_false, aval, abin, aint, ashift, abool, astr, anil, aun, aconv, aindexAddr, aindex, optInt, aslice, abuiltin, asrc, afill, placeOf, asetAll, undef, aload, apart, AV.cells, AV.one, aeval, updO, upd, initE, gdst, thenQ, blockQ, srcOk, Array.isEmpty, List.isEmpty, bytesV, reduceCtorEq, ↓reduceIte, Nat.reduceLT, Nat.reduceLeDiff, Nat.reduceEqDiff, Nat.reduceAdd, Nat.reduceMul, Nat.reducePow, Nat.reduceSub, Int.reduceLT, Int.reduceLE, Int.reduceToNat, RSch298, Tryd.ntmps98, atuple_nil, atuple_one, atuple_two, atuple_three, atuple_four, atuple_five]
  exact ⟨_, s, AV.weak.refl _, AS.le_set (AS.le.refl s) ho _, rfl, rfl⟩

end Go.Proofs.YtpakgjmcaefnmaaDoor


