/- Contracts of the program's functions, each walked once; the conditions stand in each theorem. -/
import Derived.Test.YtpakgjmcaefnmaaDoorMac3
set_option linter.unusedSimpArgs false
set_option linter.unusedVariables false
set_option autoImplicit false
namespace Go.Proofs.YtpakgjmcaefnmaaDoor
open Go Go.AM Go.Proofs

theorem RMac426 : type_of% (And.intro (And.intro (And.intro (And.intro @Tryd.underlying5 (And.intro T.c5 T.g5)) (And.intro T.b5 (And.intro T.z5 @Tryd.underlying9))) (And.intro (And.intro T.c9 (And.intro T.g9 T.b9)) (And.intro T.z9 (And.intro @Tryd.underlying22 T.c22)))) (And.intro (And.intro (And.intro T.g22 (And.intro T.b22 T.z22)) (And.intro T.s22 (And.intro @Tryd.underlying98 T.c98))) (And.intro (And.intro T.g98 (And.intro T.b98 T.z98)) (And.intro T.s98 (And.intro T.k80 T.k27))))) :=
  (And.intro (And.intro (And.intro (And.intro @Tryd.underlying5 (And.intro T.c5 T.g5)) (And.intro T.b5 (And.intro T.z5 @Tryd.underlying9))) (And.intro (And.intro T.c9 (And.intro T.g9 T.b9)) (And.intro T.z9 (And.intro @Tryd.underlying22 T.c22)))) (And.intro (And.intro (And.intro T.g22 (And.intro T.b22 T.z22)) (And.intro T.s22 (And.intro @Tryd.underlying98 T.c98))) (And.intro (And.intro T.g98 (And.intro T.b98 T.z98)) (And.intro T.s98 (And.intro T.k80 T.k27)))))
theorem RMac46 : type_of% (And.intro (And.intro (And.intro (And.intro (And.intro @Tryd.underlying3 T.c3) (And.intro T.g3 T.b3)) (And.intro (And.intro T.z3 @Tryd.underlying4) (And.intro T.c4 T.g4))) (And.intro (And.intro (And.intro T.b4 T.z4) (And.intro @Tryd.underlying5 T.c5)) (And.intro (And.intro T.g5 T.b5) (And.intro T.z5 (And.intro @Tryd.underlying9 T.c9))))) (And.intro (And.intro (And.intro (And.intro T.g9 T.b9) (And.intro T.z9 @Tryd.underlying22)) (And.intro (And.intro T.c22 T.g22) (And.intro T.b22 (And.intro T.z22 T.s22)))) (And.intro (And.intro (And.intro @Tryd.underlying98 T.c98) (And.intro T.g98 T.b98)) (And.intro (And.intro T.z98 T.s98) (And.intro T.k26 (And.intro T.k27 T.k28)))))) :=
  (And.intro (And.intro (And.intro (And.intro (And.intro @Tryd.underlying3 T.c3) (And.intro T.g3 T.b3)) (And.intro (And.intro T.z3 @Tryd.underlying4) (And.intro T.c4 T.g4))) (And.intro (And.intro (And.intro T.b4 T.z4) (And.intro @Tryd.underlying5 T.c5)) (And.intro (And.intro T.g5 T.b5) (And.intro T.z5 (And.intro @Tryd.underlying9 T.c9))))) (And.intro (And.intro (And.intro (And.intro T.g9 T.b9) (And.intro T.z9 @Tryd.underlying22)) (And.intro (And.intro T.c22 T.g22) (And.intro T.b22 (And.intro T.z22 T.s22)))) (And.intro (And.intro (And.intro @Tryd.underlying98 T.c98) (And.intro T.g98 T.b98)) (And.intro (And.intro T.z98 T.s98) (And.intro T.k26 (And.intro T.k27 T.k28))))))

variable {Γ : Nat → List AV}

def jefe : List UInt8 := [74, 101, 102, 101]
def nothing : List UInt8 := [119, 104, 97, 116, 32, 100, 111, 32, 121, 97, 32, 119, 97, 110, 116, 32, 102, 111, 114, 32, 110, 111, 116, 104, 105, 110, 103, 63]
theorem jefe_hex : hexB (Mac.tag jefe nothing) = [53, 98, 100, 99, 99, 49, 52, 54, 98, 102, 54, 48, 55, 53, 52, 101, 54, 97, 48, 52, 50, 52, 50, 54, 48, 56, 57, 53, 55, 53, 99, 55, 53, 97, 48, 48, 51, 102, 48, 56, 57, 100, 50, 55, 51, 57, 56, 51, 57, 100, 101, 99, 53, 56, 98, 57, 54, 52, 101, 99, 51, 56, 52, 51] := by decide +kernel
theorem rep28 (x : AV) : List.replicate 28 x = [x, x, x, x, x, x, x, x, x, x, x, x, x, x, x, x, x, x, x, x, x, x, x, x, x, x, x, x] := rfl
theorem mrep4 (x : AV) : List.replicate 4 x = [x, x, x, x] := rfl

set_option maxHeartbeats 2000000 in
theorem awake03_calls (hG0 : Γ 0 = stC Sha.H0) (hG : Γ 1 = Sha.K.map wV) (s : AS) :
    ACalls Tryd.prog Γ 26 [] s (fun r s' => r = .v (.bool true) ∧ s' = s) := by
  refine acalls_body Tryd.func26 rfl Tryd.ntmps26 Tryd.results26 (by simp) ?_
  refine awp_reg_seq ?_
  intro K hK
  simp only [↓DN, UP, implies_true, forall_eq', ne_eq, if_true, if_false, aval, abin, aint, ashift, abool, astr, anil, aun, aconv, aindexAddr, aindex, optInt, aslice, abuiltin, asrc, afill, placeOf, asetAll, undef, aload, apart, AV.cells, AV.one, aeval, updO, upd, initE, gdst, thenQ, blockQ, srcOk, Array.isEmpty, List.isEmpty, bytesV, reduceCtorEq, ↓reduceIte, Nat.reduceLT, Nat.reduceLeDiff, Nat.reduceEqDiff, Nat.reduceAdd, Nat.reduceMul, Nat.reducePow, Nat.reduceSub, Int.reduceLT, Int.reduceLE, Int.reduceToNat, RMac426, Tryd.ntmps26]
  refine hK _ _ ?_
  clear hK K
  refine awp_reg_seq ?_
  intro K hK
  simp only [↓DN, UP, implies_true, forall_eq', ne_eq, if_true, if_false, aval, abin, aint, ashift, abool, astr, anil, aun, aconv, aindexAddr, aindex, optInt, aslice, abuiltin, asrc, afill, placeOf, asetAll, undef, aload, apart, AV.cells, AV.one, aeval, updO, upd, initE, gdst, thenQ, blockQ, srcOk, Array.isEmpty, List.isEmpty, bytesV, reduceCtorEq, ↓reduceIte, Nat.reduceLT, Nat.reduceLeDiff, Nat.reduceEqDiff, Nat.reduceAdd, Nat.reduceMul, Nat.reducePow, Nat.reduceSub, Int.reduceLT, Int.reduceLE, Int.reduceToNat, RMac426, Tryd.ntmps26, List.replicate_one, Nat.lt_irrefl, mrep4, rep28]
  refine acallk (ACalls.weaks (.cons (AV.weak_any (sp := .new)) (.cons (AV.weak_slc (.cons (AV.weak_any (sp := .new)) .nil)) .nil)) (macTag_calls hG0 hG jefe [nothing] .new (by decide) (by decide) (by decide) s)) ?_
  intro r s1 hout
  rw [show [nothing].flatten = nothing from rfl] at hout
  have htl := Mac.tag_len jefe nothing
  obtain ⟨t, e, rfl⟩ := outS_own hout (by rw [← List.length_pos_iff, htl]; decide)
  simp only [↓AXq_nil, ↓AXq_cons, pval, List.contains_cons, List.contains_nil, Nat.reduceBEq, Bool.or_false, Bool.or_true, Bool.or_self, Bool.false_eq_true, Bool.false_or, ↓DN, UP, implies_true, forall_eq', ne_eq, if_true, if_false, aval, abin, aint, ashift, abool, astr, anil, aun, aconv, aindexAddr, aindex, optInt, aslice, abuiltin, asrc, afill, placeOf, asetAll, undef, aload, apart, AV.cells, AV.one, aeval, updO, upd, initE, gdst, thenQ, blockQ, srcOk, Array.isEmpty, List.isEmpty, bytesV, reduceCtorEq, ↓reduceIte, Nat.reduceLT, Nat.reduceLeDiff, Nat.reduceEqDiff, Nat.reduceAdd, Nat.reduceMul, Nat.reducePow, Nat.reduceSub, Int.reduceLT, Int.reduceLE, Int.reduceToNat, RMac426, Tryd.ntmps26]
  refine acallk (hex_calls _ (by rw [htl]; decide) _) ?_
  rintro r s2 ⟨rfl, rfl⟩
  simp only [↓AXq_nil, ↓AXq_cons, pval, List.contains_cons, List.contains_nil, Nat.reduceBEq, Bool.or_false, Bool.or_true, Bool.or_self, Bool.false_eq_true, Bool.false_or, ↓DN, UP, implies_true, forall_eq', ne_eq, if_true, if_false, aval, abin, aint, ashift, abool, astr, anil, aun, aconv, aindexAddr, aindex, optInt, aslice, abuiltin, asrc, afill, placeOf, asetAll, undef, aload, apart, AV.cells, AV.one, aeval, updO, upd, initE, gdst, thenQ, blockQ, srcOk, Array.isEmpty, List.isEmpty, bytesV, reduceCtorEq, ↓reduceIte, Nat.reduceLT, Nat.reduceLeDiff, Nat.reduceEqDiff, Nat.reduceAdd, Nat.reduceMul, Nat.reducePow, Nat.reduceSub, Int.reduceLT, Int.reduceLE, Int.reduceToNat, RMac426, Tryd.ntmps26, jefe_hex]
  refine hK _ _ ?_
  clear hK K
  refine awp_ret ?_
  simp only [retQ, AEnds, aresL, ares, List.toList_toArray, ↓upd_same]; try simp only [↓DN, UP, implies_true, forall_eq', ne_eq, if_true, if_false, aval, abin, aint, ashift, abool, astr, anil, aun, aconv, aindexAddr, aindex, optInt, aslice, abuiltin, asrc, afill, placeOf, asetAll, undef, aload, apart, AV.cells, AV.one, aeval, updO, upd, initE, gdst, thenQ, blockQ, srcOk, Array.isEmpty, List.isEmpty, bytesV, reduceCtorEq, ↓reduceIte, Nat.reduceLT, Nat.reduceLeDiff, Nat.reduceEqDiff, Nat.reduceAdd, Nat.reduceMul, Nat.reducePow, Nat.reduceSub, Int.reduceLT, Int.reduceLE, Int.reduceToNat, RMac426, Tryd.ntmps26, atuple_nil, atuple_one, atuple_two, atuple_three, atuple_four, atuple_five]
  exact ⟨_, s, AV.weak.refl _, hout.1, by simp, rfl⟩

theorem partsB_two (a b : List UInt8) : PartsB [a, b] = [bytesV a .any, bytesV b .any] := rfl

set_option maxHeartbeats 2000000 in
set_option maxRecDepth 100000 in
theorem macTags_calls (hG0 : Γ 0 = stC Sha.H0) (hG : Γ 1 = Sha.K.map wV) (key a b : List UInt8) (ha : a.length ≤ 2 ^ 47) (hb : b.length ≤ 2 ^ 47) (s : AS) :
    ACalls Tryd.prog Γ 6 [bytesV key .any, bytesV a .any, bytesV b .any] s (fun r s' => r = .v (.bool true)) := by
  refine acalls_body Tryd.func6 rfl Tryd.ntmps6 Tryd.results6 (by simp) ?_
  have hadd : iadd .i64 (a.length : Int) (b.length : Int) = ((a.length + b.length : Nat) : Int) := i64_add _ _ (by omega)
  refine awp_reg_seq ?_
  intro K hK
  simp only [↓DN, UP, implies_true, forall_eq', ne_eq, if_true, if_false, aval, abin, aint, ashift, abool, astr, anil, aun, aconv, aindexAddr, aindex, optInt, aslice, abuiltin, asrc, afill, placeOf, asetAll, undef, aload, apart, AV.cells, AV.one, aeval, updO, upd, initE, gdst, thenQ, blockQ, srcOk, Array.isEmpty, List.isEmpty, bytesV, reduceCtorEq, ↓reduceIte, Nat.reduceLT, Nat.reduceLeDiff, Nat.reduceEqDiff, Nat.reduceAdd, Nat.reduceMul, Nat.reducePow, Nat.reduceSub, Int.reduceLT, Int.reduceLE, Int.reduceToNat, RMac46, Tryd.ntmps6]
  refine hK _ _ ?_
  clear hK K
  refine awp_seq_k ?_
  intro K hK
  refine awp_reg_seq ?_
  intro K hK
  simp only [↓DN, UP, implies_true, forall_eq', ne_eq, if_true, if_false, aval, abin, aint, ashift, abool, astr, anil, aun, aconv, aindexAddr, aindex, optInt, aslice, abuiltin, asrc, afill, placeOf, asetAll, undef, aload, apart, AV.cells, AV.one, aeval, updO, upd, initE, gdst, thenQ, blockQ, srcOk, Array.isEmpty, List.isEmpty, bytesV, reduceCtorEq, ↓reduceIte, Nat.reduceLT, Nat.reduceLeDiff, Nat.reduceEqDiff, Nat.reduceAdd, Nat.reduceMul, Nat.reducePow, Nat.reduceSub, Int.reduceLT, Int.reduceLE, Int.reduceToNat, RMac46, Tryd.ntmps6]
  refine acallk (awake03_calls hG0 hG _) ?_
  rintro r s1 ⟨rfl, rfl⟩
  by_cases hbig : 200 < key.length ∨ 600 < a.length + b.length
  · have hskip : ∀ E1 : Env, E1 23 = .v (.bool true) → K E1 s1 → True := fun _ _ _ => trivial
    clear hskip
    by_cases h1 : 200 < key.length
    · simp only [↓AXq_nil, ↓AXq_cons, pval, List.contains_cons, List.contains_nil, Nat.reduceBEq, Bool.or_false, Bool.or_true, Bool.or_self, Bool.false_eq_true, Bool.false_or, ↓DN, UP, implies_true, forall_eq', ne_eq, if_true, if_false, aval, abin, aint, ashift, abool, astr, anil, aun, aconv, aindexAddr, aindex, optInt, aslice, abuiltin, asrc, afill, placeOf, asetAll, undef, aload, apart, AV.cells, AV.one, aeval, updO, upd, initE, gdst, thenQ, blockQ, srcOk, Array.isEmpty, List.isEmpty, bytesV, reduceCtorEq, ↓reduceIte, Nat.reduceLT, Nat.reduceLeDiff, Nat.reduceEqDiff, Nat.reduceAdd, Nat.reduceMul, Nat.reducePow, Nat.reduceSub, Int.reduceLT, Int.reduceLE, Int.reduceToNat, RMac46, Tryd.ntmps6, decide_eq_true (show (200 : Int) < (key.length : Int) by omega), hadd]
      refine hK _ _ ?_
      clear hK K
      refine awp_cond_k ?_
      intro X Y hX hY
      simp only [↓DN, UP, implies_true, forall_eq', ne_eq, if_true, if_false, aval, abin, aint, ashift, abool, astr, anil, aun, aconv, aindexAddr, aindex, optInt, aslice, abuiltin, asrc, afill, placeOf, asetAll, undef, aload, apart, AV.cells, AV.one, aeval, updO, upd, initE, gdst, thenQ, blockQ, srcOk, Array.isEmpty, List.isEmpty, bytesV, reduceCtorEq, ↓reduceIte, Nat.reduceLT, Nat.reduceLeDiff, Nat.reduceEqDiff, Nat.reduceAdd, Nat.reduceMul, Nat.reducePow, Nat.reduceSub, Int.reduceLT, Int.reduceLE, Int.reduceToNat, RMac46, Tryd.ntmps6, Bool.not_true, Bool.not_false, Bool.false_eq_true, Bool.true_eq_false, false_imp_iff, true_imp_iff, decide_eq_true_eq, decide_eq_false_iff_not]
      refine hX ?_
      clear hX hY X Y
      refine awp_reg_seq ?_
      intro K hK
      simp only [↓DN, UP, implies_true, forall_eq', ne_eq, if_true, if_false, aval, abin, aint, ashift, abool, astr, anil, aun, aconv, aindexAddr, aindex, optInt, aslice, abuiltin, asrc, afill, placeOf, asetAll, undef, aload, apart, AV.cells, AV.one, aeval, updO, upd, initE, gdst, thenQ, blockQ, srcOk, Array.isEmpty, List.isEmpty, bytesV, reduceCtorEq, ↓reduceIte, Nat.reduceLT, Nat.reduceLeDiff, Nat.reduceEqDiff, Nat.reduceAdd, Nat.reduceMul, Nat.reducePow, Nat.reduceSub, Int.reduceLT, Int.reduceLE, Int.reduceToNat, RMac46, Tryd.ntmps6]
      refine acallk (awake03_calls hG0 hG _) ?_
      rintro r s2 ⟨rfl, rfl⟩
      simp only [↓AXq_nil, ↓AXq_cons, pval, List.contains_cons, List.contains_nil, Nat.reduceBEq, Bool.or_false, Bool.or_true, Bool.or_self, Bool.false_eq_true, Bool.false_or, ↓DN, UP, implies_true, forall_eq', ne_eq, if_true, if_false, aval, abin, aint, ashift, abool, astr, anil, aun, aconv, aindexAddr, aindex, optInt, aslice, abuiltin, asrc, afill, placeOf, asetAll, undef, aload, apart, AV.cells, AV.one, aeval, updO, upd, initE, gdst, thenQ, blockQ, srcOk, Array.isEmpty, List.isEmpty, bytesV, reduceCtorEq, ↓reduceIte, Nat.reduceLT, Nat.reduceLeDiff, Nat.reduceEqDiff, Nat.reduceAdd, Nat.reduceMul, Nat.reducePow, Nat.reduceSub, Int.reduceLT, Int.reduceLE, Int.reduceToNat, RMac46, Tryd.ntmps6]
      refine hK _ _ ?_
      clear hK K
      refine awp_ret ?_
      simp only [retQ, AEnds, aresL, ares, List.toList_toArray, ↓upd_same]; try simp only [↓DN, UP, implies_true, forall_eq', ne_eq, if_true, if_false, aval, abin, aint, ashift, abool, astr, anil, aun, aconv, aindexAddr, aindex, optInt, aslice, abuiltin, asrc, afill, placeOf, asetAll, undef, aload, apart, AV.cells, AV.one, aeval, updO, upd, initE, gdst, thenQ, blockQ, srcOk, Array.isEmpty, List.isEmpty, bytesV, reduceCtorEq, ↓reduceIte, Nat.reduceLT, Nat.reduceLeDiff, Nat.reduceEqDiff, Nat.reduceAdd, Nat.reduceMul, Nat.reducePow, Nat.reduceSub, Int.reduceLT, Int.reduceLE, Int.reduceToNat, RMac46, Tryd.ntmps6, atuple_nil, atuple_one, atuple_two, atuple_three, atuple_four, atuple_five]
      exact ⟨_, _, AV.weak.refl _, AS.le.refl _, rfl⟩
    · have h2 : 600 < a.length + b.length := by omega
      simp only [↓AXq_nil, ↓AXq_cons, pval, List.contains_cons, List.contains_nil, Nat.reduceBEq, Bool.or_false, Bool.or_true, Bool.or_self, Bool.false_eq_true, Bool.false_or, ↓DN, UP, implies_true, forall_eq', ne_eq, if_true, if_false, aval, abin, aint, ashift, abool, astr, anil, aun, aconv, aindexAddr, aindex, optInt, aslice, abuiltin, asrc, afill, placeOf, asetAll, undef, aload, apart, AV.cells, AV.one, aeval, updO, upd, initE, gdst, thenQ, blockQ, srcOk, Array.isEmpty, List.isEmpty, bytesV, reduceCtorEq, ↓reduceIte, Nat.reduceLT, Nat.reduceLeDiff, Nat.reduceEqDiff, Nat.reduceAdd, Nat.reduceMul, Nat.reducePow, Nat.reduceSub, Int.reduceLT, Int.reduceLE, Int.reduceToNat, RMac46, Tryd.ntmps6, decide_eq_false (show ¬ (200 : Int) < (key.length : Int) by omega), hadd, decide_eq_true (show (600 : Int) < ((a.length + b.length : Nat) : Int) by omega)]
      refine hK _ _ ?_
      clear hK K
      refine awp_cond_k ?_
      intro X Y hX hY
      simp only [↓DN, UP, implies_true, forall_eq', ne_eq, if_true, if_false, aval, abin, aint, ashift, abool, astr, anil, aun, aconv, aindexAddr, aindex, optInt, aslice, abuiltin, asrc, afill, placeOf, asetAll, undef, aload, apart, AV.cells, AV.one, aeval, updO, upd, initE, gdst, thenQ, blockQ, srcOk, Array.isEmpty, List.isEmpty, bytesV, reduceCtorEq, ↓reduceIte, Nat.reduceLT, Nat.reduceLeDiff, Nat.reduceEqDiff, Nat.reduceAdd, Nat.reduceMul, Nat.reducePow, Nat.reduceSub, Int.reduceLT, Int.reduceLE, Int.reduceToNat, RMac46, Tryd.ntmps6, Bool.not_true, Bool.not_false, Bool.false_eq_true, Bool.true_eq_false, false_imp_iff, true_imp_iff, decide_eq_true_eq, decide_eq_false_iff_not]
      refine hX ?_
      clear hX hY X Y
      refine awp_reg_seq ?_
      intro K hK
      simp only [↓DN, UP, implies_true, forall_eq', ne_eq, if_true, if_false, aval, abin, aint, ashift, abool, astr, anil, aun, aconv, aindexAddr, aindex, optInt, aslice, abuiltin, asrc, afill, placeOf, asetAll, undef, aload, apart, AV.cells, AV.one, aeval, updO, upd, initE, gdst, thenQ, blockQ, srcOk, Array.isEmpty, List.isEmpty, bytesV, reduceCtorEq, ↓reduceIte, Nat.reduceLT, Nat.reduceLeDiff, Nat.reduceEqDiff, Nat.reduceAdd, Nat.reduceMul, Nat.reducePow, Nat.reduceSub, Int.reduceLT, Int.reduceLE, Int.reduceToNat, RMac46, Tryd.ntmps6]
      refine acallk (awake03_calls hG0 hG _) ?_
      rintro r s2 ⟨rfl, rfl⟩
      simp only [↓AXq_nil, ↓AXq_cons, pval, List.contains_cons, List.contains_nil, Nat.reduceBEq, Bool.or_false, Bool.or_true, Bool.or_self, Bool.false_eq_true, Bool.false_or, ↓DN, UP, implies_true, forall_eq', ne_eq, if_true, if_false, aval, abin, aint, ashift, abool, astr, anil, aun, aconv, aindexAddr, aindex, optInt, aslice, abuiltin, asrc, afill, placeOf, asetAll, undef, aload, apart, AV.cells, AV.one, aeval, updO, upd, initE, gdst, thenQ, blockQ, srcOk, Array.isEmpty, List.isEmpty, bytesV, reduceCtorEq, ↓reduceIte, Nat.reduceLT, Nat.reduceLeDiff, Nat.reduceEqDiff, Nat.reduceAdd, Nat.reduceMul, Nat.reducePow, Nat.reduceSub, Int.reduceLT, Int.reduceLE, Int.reduceToNat, RMac46, Tryd.ntmps6]
      refine hK _ _ ?_
      clear hK K
      refine awp_ret ?_
      simp only [retQ, AEnds, aresL, ares, List.toList_toArray, ↓upd_same]; try simp only [↓DN, UP, implies_true, forall_eq', ne_eq, if_true, if_false, aval, abin, aint, ashift, abool, astr, anil, aun, aconv, aindexAddr, aindex, optInt, aslice, abuiltin, asrc, afill, placeOf, asetAll, undef, aload, apart, AV.cells, AV.one, aeval, updO, upd, initE, gdst, thenQ, blockQ, srcOk, Array.isEmpty, List.isEmpty, bytesV, reduceCtorEq, ↓reduceIte, Nat.reduceLT, Nat.reduceLeDiff, Nat.reduceEqDiff, Nat.reduceAdd, Nat.reduceMul, Nat.reducePow, Nat.reduceSub, Int.reduceLT, Int.reduceLE, Int.reduceToNat, RMac46, Tryd.ntmps6, atuple_nil, atuple_one, atuple_two, atuple_three, atuple_four, atuple_five]
      exact ⟨_, _, AV.weak.refl _, AS.le.refl _, rfl⟩
  · simp only [↓AXq_nil, ↓AXq_cons, pval, List.contains_cons, List.contains_nil, Nat.reduceBEq, Bool.or_false, Bool.or_true, Bool.or_self, Bool.false_eq_true, Bool.false_or, ↓DN, UP, implies_true, forall_eq', ne_eq, if_true, if_false, aval, abin, aint, ashift, abool, astr, anil, aun, aconv, aindexAddr, aindex, optInt, aslice, abuiltin, asrc, afill, placeOf, asetAll, undef, aload, apart, AV.cells, AV.one, aeval, updO, upd, initE, gdst, thenQ, blockQ, srcOk, Array.isEmpty, List.isEmpty, bytesV, reduceCtorEq, ↓reduceIte, Nat.reduceLT, Nat.reduceLeDiff, Nat.reduceEqDiff, Nat.reduceAdd, Nat.reduceMul, Nat.reducePow, Nat.reduceSub, Int.reduceLT, Int.reduceLE, Int.reduceToNat, RMac46, Tryd.ntmps6, decide_eq_false (show ¬ (200 : Int) < (key.length : Int) by omega), hadd, decide_eq_false (show ¬ (600 : Int) < ((a.length + b.length : Nat) : Int) by omega)]
    refine hK _ _ ?_
    clear hK K
    refine awp_cond_k ?_
    intro X Y hX hY
    simp only [↓DN, UP, implies_true, forall_eq', ne_eq, if_true, if_false, aval, abin, aint, ashift, abool, astr, anil, aun, aconv, aindexAddr, aindex, optInt, aslice, abuiltin, asrc, afill, placeOf, asetAll, undef, aload, apart, AV.cells, AV.one, aeval, updO, upd, initE, gdst, thenQ, blockQ, srcOk, Array.isEmpty, List.isEmpty, bytesV, reduceCtorEq, ↓reduceIte, Nat.reduceLT, Nat.reduceLeDiff, Nat.reduceEqDiff, Nat.reduceAdd, Nat.reduceMul, Nat.reducePow, Nat.reduceSub, Int.reduceLT, Int.reduceLE, Int.reduceToNat, RMac46, Tryd.ntmps6, Bool.not_true, Bool.not_false, Bool.false_eq_true, Bool.true_eq_false, false_imp_iff, true_imp_iff, decide_eq_true_eq, decide_eq_false_iff_not]
    refine hY ?_
    clear hX hY X Y
    refine awp_skip ?_
    refine hK _ _ ?_
    clear hK K
    have hroom := i64_room (show a.length + b.length < 2 ^ 62 by omega)
    refine awp_drw_seq T.mixed [] (by kernel_rfl) ?_
    intro K hK
    simp only [↓AXq_nil, ↓AXq_cons, pval, List.contains_cons, List.contains_nil, Nat.reduceBEq, Bool.or_false, Bool.or_true, Bool.or_self, Bool.false_eq_true, Bool.false_or, ↓DN, UP, implies_true, forall_eq', ne_eq, if_true, if_false, aval, abin, aint, ashift, abool, astr, anil, aun, aconv, aindexAddr, aindex, optInt, aslice, abuiltin, asrc, afill, placeOf, asetAll, undef, aload, apart, AV.cells, AV.one, aeval, updO, upd, initE, gdst, thenQ, blockQ, srcOk, Array.isEmpty, List.isEmpty, bytesV, reduceCtorEq, ↓reduceIte, Nat.reduceLT, Nat.reduceLeDiff, Nat.reduceEqDiff, Nat.reduceAdd, Nat.reduceMul, Nat.reducePow, Nat.reduceSub, Int.reduceLT, Int.reduceLE, Int.reduceToNat, RMac46, Tryd.ntmps6, hroom]
    refine hK _ _ ?_
    clear hK K
    have hrep2 : ∀ x : AV, List.replicate 2 x = [x, x] := fun _ => rfl
    refine awp_drw_seq T.mixed [4, 8] (by kernel_rfl) ?_
    intro K hK
    simp only [↓AXq_nil, ↓AXq_cons, pval, List.contains_cons, List.contains_nil, Nat.reduceBEq, Bool.or_false, Bool.or_true, Bool.or_self, Bool.false_eq_true, Bool.false_or, ↓DN, UP, implies_true, forall_eq', ne_eq, if_true, if_false, aval, abin, aint, ashift, abool, astr, anil, aun, aconv, aindexAddr, aindex, optInt, aslice, abuiltin, asrc, afill, placeOf, asetAll, undef, aload, apart, AV.cells, AV.one, aeval, updO, upd, initE, gdst, thenQ, blockQ, srcOk, Array.isEmpty, List.isEmpty, bytesV, reduceCtorEq, ↓reduceIte, Nat.reduceLT, Nat.reduceLeDiff, Nat.reduceEqDiff, Nat.reduceAdd, Nat.reduceMul, Nat.reducePow, Nat.reduceSub, Int.reduceLT, Int.reduceLE, Int.reduceToNat, RMac46, Tryd.ntmps6, hrep2]
    have hm := macTag_calls (Γ := Γ) hG0 hG key [a, b] .new (by omega) (by simp) (by simp; omega) s1
    rw [show [a, b].flatten = a ++ b from by simp] at hm
    refine acallk hm ?_
    intro r s2 hout
    have htl := Mac.tag_len key (a ++ b)
    obtain ⟨t, e, rfl⟩ := outS_own hout (by rw [← List.length_pos_iff, htl]; decide)
    clear hout
    simp only [↓AXq_nil, ↓AXq_cons, pval, List.contains_cons, List.contains_nil, Nat.reduceBEq, Bool.or_false, Bool.or_true, Bool.or_self, Bool.false_eq_true, Bool.false_or, ↓DN, UP, implies_true, forall_eq', ne_eq, if_true, if_false, aval, abin, aint, ashift, abool, astr, anil, aun, aconv, aindexAddr, aindex, optInt, aslice, abuiltin, asrc, afill, placeOf, asetAll, undef, aload, apart, AV.cells, AV.one, aeval, updO, upd, initE, gdst, thenQ, blockQ, srcOk, Array.isEmpty, List.isEmpty, bytesV, reduceCtorEq, ↓reduceIte, Nat.reduceLT, Nat.reduceLeDiff, Nat.reduceEqDiff, Nat.reduceAdd, Nat.reduceMul, Nat.reducePow, Nat.reduceSub, Int.reduceLT, Int.reduceLE, Int.reduceToNat, RMac46, Tryd.ntmps6]
    refine acallk (refTag_calls key (a ++ b) (by omega) (by rw [List.length_append]; omega) s2) ?_
    rintro r s3 ⟨rfl, rfl⟩
    simp only [↓AXq_nil, ↓AXq_cons, pval, List.contains_cons, List.contains_nil, Nat.reduceBEq, Bool.or_false, Bool.or_true, Bool.or_self, Bool.false_eq_true, Bool.false_or, ↓DN, UP, implies_true, forall_eq', ne_eq, if_true, if_false, aval, abin, aint, ashift, abool, astr, anil, aun, aconv, aindexAddr, aindex, optInt, aslice, abuiltin, asrc, afill, placeOf, asetAll, undef, aload, apart, AV.cells, AV.one, aeval, updO, upd, initE, gdst, thenQ, blockQ, srcOk, Array.isEmpty, List.isEmpty, bytesV, reduceCtorEq, ↓reduceIte, Nat.reduceLT, Nat.reduceLeDiff, Nat.reduceEqDiff, Nat.reduceAdd, Nat.reduceMul, Nat.reducePow, Nat.reduceSub, Int.reduceLT, Int.reduceLE, Int.reduceToNat, RMac46, Tryd.ntmps6, hroom]
    refine hK _ _ ?_
    clear hK K
    refine awp_ret ?_
    simp only [retQ, AEnds, aresL, ares, List.toList_toArray, ↓upd_same]; try simp only [↓DN, UP, implies_true, forall_eq', ne_eq, if_true, if_false, aval, abin, aint, ashift, abool, astr, anil, aun, aconv, aindexAddr, aindex, optInt, aslice, abuiltin, asrc, afill, placeOf, asetAll, undef, aload, apart, AV.cells, AV.one, aeval, updO, upd, initE, gdst, thenQ, blockQ, srcOk, Array.isEmpty, List.isEmpty, bytesV, reduceCtorEq, ↓reduceIte, Nat.reduceLT, Nat.reduceLeDiff, Nat.reduceEqDiff, Nat.reduceAdd, Nat.reduceMul, Nat.reducePow, Nat.reduceSub, Int.reduceLT, Int.reduceLE, Int.reduceToNat, RMac46, Tryd.ntmps6, atuple_nil, atuple_one, atuple_two, atuple_three, atuple_four, atuple_five]
    exact ⟨_, _, AV.weak.refl _, AS.le.refl _, rfl⟩

end Go.Proofs.YtpakgjmcaefnmaaDoor

