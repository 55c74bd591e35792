/- Contracts of the program's functions, each walked once; the conditions stand in each theorem. -/
import Derived.Test.YtpakgjmcaefnmaaDoorNode5
import Derived.Test.YtpakgjmcaefnmaaDoorSha9
import Derived.Test.YtpakgjmcaefnmaaDoorSha7
import Derived.Test.YtpakgjmcaefnmaaDoorAMp6
set_option linter.unusedSimpArgs false
set_option linter.unusedVariables false
set_option autoImplicit false
namespace Go.Proofs.YtpakgjmcaefnmaaDoor
open Go Go.AM Go.Proofs

theorem RNodeH1102 : type_of% (And.intro (And.intro (And.intro (And.intro (And.intro @Tryd.underlying3 (And.intro T.c3 T.g3)) (And.intro T.b3 (And.intro T.z3 @Tryd.underlying4))) (And.intro (And.intro T.c4 (And.intro T.g4 T.b4)) (And.intro (And.intro T.z4 @Tryd.underlying5) (And.intro T.c5 T.g5)))) (And.intro (And.intro (And.intro T.b5 (And.intro T.z5 @Tryd.underlying22)) (And.intro T.c22 (And.intro T.g22 T.b22))) (And.intro (And.intro T.z22 (And.intro T.s22 @Tryd.underlying63)) (And.intro (And.intro T.c63 T.g63) (And.intro T.b63 T.z63))))) (And.intro (And.intro (And.intro (And.intro @Tryd.underlying64 (And.intro T.c64 T.g64)) (And.intro T.b64 (And.intro T.z64 T.s64))) (And.intro (And.intro @Tryd.underlying66 (And.intro T.c66 T.g66)) (And.intro (And.intro T.b66 T.z66) (And.intro T.h66 @Tryd.underlying114)))) (And.intro (And.intro (And.intro T.c114 (And.intro T.g114 T.b114)) (And.intro T.z114 (And.intro T.p114 @Tryd.underlying142))) (And.intro (And.intro T.c142 (And.intro T.g142 T.b142)) (And.intro (And.intro T.z142 T.h142) (And.intro T.k103 T.k104)))))) :=
  (And.intro (And.intro (And.intro (And.intro (And.intro @Tryd.underlying3 (And.intro T.c3 T.g3)) (And.intro T.b3 (And.intro T.z3 @Tryd.underlying4))) (And.intro (And.intro T.c4 (And.intro T.g4 T.b4)) (And.intro (And.intro T.z4 @Tryd.underlying5) (And.intro T.c5 T.g5)))) (And.intro (And.intro (And.intro T.b5 (And.intro T.z5 @Tryd.underlying22)) (And.intro T.c22 (And.intro T.g22 T.b22))) (And.intro (And.intro T.z22 (And.intro T.s22 @Tryd.underlying63)) (And.intro (And.intro T.c63 T.g63) (And.intro T.b63 T.z63))))) (And.intro (And.intro (And.intro (And.intro @Tryd.underlying64 (And.intro T.c64 T.g64)) (And.intro T.b64 (And.intro T.z64 T.s64))) (And.intro (And.intro @Tryd.underlying66 (And.intro T.c66 T.g66)) (And.intro (And.intro T.b66 T.z66) (And.intro T.h66 @Tryd.underlying114)))) (And.intro (And.intro (And.intro T.c114 (And.intro T.g114 T.b114)) (And.intro T.z114 (And.intro T.p114 @Tryd.underlying142))) (And.intro (And.intro T.c142 (And.intro T.g142 T.b142)) (And.intro (And.intro T.z142 T.h142) (And.intro T.k103 T.k104))))))
theorem RNodeH1105 : type_of% (And.intro (And.intro (And.intro (And.intro (And.intro @Tryd.underlying3 (And.intro T.c3 T.g3)) (And.intro T.b3 (And.intro T.z3 @Tryd.underlying4))) (And.intro (And.intro T.c4 (And.intro T.g4 T.b4)) (And.intro T.z4 (And.intro @Tryd.underlying5 T.c5)))) (And.intro (And.intro (And.intro T.g5 (And.intro T.b5 T.z5)) (And.intro @Tryd.underlying22 (And.intro T.c22 T.g22))) (And.intro (And.intro T.b22 (And.intro T.z22 T.s22)) (And.intro (And.intro @Tryd.underlying63 T.c63) (And.intro T.g63 T.b63))))) (And.intro (And.intro (And.intro (And.intro T.z63 (And.intro @Tryd.underlying64 T.c64)) (And.intro T.g64 (And.intro T.b64 T.z64))) (And.intro (And.intro T.s64 (And.intro @Tryd.underlying66 T.c66)) (And.intro (And.intro T.g66 T.b66) (And.intro T.z66 T.h66)))) (And.intro (And.intro (And.intro @Tryd.underlying114 (And.intro T.c114 T.g114)) (And.intro T.b114 (And.intro T.z114 T.p114))) (And.intro (And.intro @Tryd.underlying142 (And.intro T.c142 T.g142)) (And.intro (And.intro T.b142 T.z142) (And.intro T.h142 T.k104)))))) :=
  (And.intro (And.intro (And.intro (And.intro (And.intro @Tryd.underlying3 (And.intro T.c3 T.g3)) (And.intro T.b3 (And.intro T.z3 @Tryd.underlying4))) (And.intro (And.intro T.c4 (And.intro T.g4 T.b4)) (And.intro T.z4 (And.intro @Tryd.underlying5 T.c5)))) (And.intro (And.intro (And.intro T.g5 (And.intro T.b5 T.z5)) (And.intro @Tryd.underlying22 (And.intro T.c22 T.g22))) (And.intro (And.intro T.b22 (And.intro T.z22 T.s22)) (And.intro (And.intro @Tryd.underlying63 T.c63) (And.intro T.g63 T.b63))))) (And.intro (And.intro (And.intro (And.intro T.z63 (And.intro @Tryd.underlying64 T.c64)) (And.intro T.g64 (And.intro T.b64 T.z64))) (And.intro (And.intro T.s64 (And.intro @Tryd.underlying66 T.c66)) (And.intro (And.intro T.g66 T.b66) (And.intro T.z66 T.h66)))) (And.intro (And.intro (And.intro @Tryd.underlying114 (And.intro T.c114 T.g114)) (And.intro T.b114 (And.intro T.z114 T.p114))) (And.intro (And.intro @Tryd.underlying142 (And.intro T.c142 T.g142)) (And.intro (And.intro T.b142 T.z142) (And.intro T.h142 T.k104))))))
theorem RNodeH1107 : type_of% (And.intro (And.intro (And.intro (And.intro (And.intro @Tryd.underlying3 (And.intro T.c3 T.g3)) (And.intro T.b3 (And.intro T.z3 @Tryd.underlying4))) (And.intro (And.intro T.c4 (And.intro T.g4 T.b4)) (And.intro (And.intro T.z4 @Tryd.underlying5) (And.intro T.c5 T.g5)))) (And.intro (And.intro (And.intro T.b5 (And.intro T.z5 @Tryd.underlying22)) (And.intro (And.intro T.c22 T.g22) (And.intro T.b22 T.z22))) (And.intro (And.intro T.s22 (And.intro @Tryd.underlying63 T.c63)) (And.intro (And.intro T.g63 T.b63) (And.intro T.z63 @Tryd.underlying64))))) (And.intro (And.intro (And.intro (And.intro T.c64 (And.intro T.g64 T.b64)) (And.intro T.z64 (And.intro T.s64 @Tryd.underlying66))) (And.intro (And.intro T.c66 (And.intro T.g66 T.b66)) (And.intro (And.intro T.z66 T.h66) (And.intro @Tryd.underlying114 T.c114)))) (And.intro (And.intro (And.intro T.g114 (And.intro T.b114 T.z114)) (And.intro (And.intro T.p114 @Tryd.underlying142) (And.intro T.c142 T.g142))) (And.intro (And.intro T.b142 (And.intro T.z142 T.h142)) (And.intro (And.intro T.f66_2 T.f66_3) (And.intro T.k108 T.k92)))))) :=
  (And.intro (And.intro (And.intro (And.intro (And.intro @Tryd.underlying3 (And.intro T.c3 T.g3)) (And.intro T.b3 (And.intro T.z3 @Tryd.underlying4))) (And.intro (And.intro T.c4 (And.intro T.g4 T.b4)) (And.intro (And.intro T.z4 @Tryd.underlying5) (And.intro T.c5 T.g5)))) (And.intro (And.intro (And.intro T.b5 (And.intro T.z5 @Tryd.underlying22)) (And.intro (And.intro T.c22 T.g22) (And.intro T.b22 T.z22))) (And.intro (And.intro T.s22 (And.intro @Tryd.underlying63 T.c63)) (And.intro (And.intro T.g63 T.b63) (And.intro T.z63 @Tryd.underlying64))))) (And.intro (And.intro (And.intro (And.intro T.c64 (And.intro T.g64 T.b64)) (And.intro T.z64 (And.intro T.s64 @Tryd.underlying66))) (And.intro (And.intro T.c66 (And.intro T.g66 T.b66)) (And.intro (And.intro T.z66 T.h66) (And.intro @Tryd.underlying114 T.c114)))) (And.intro (And.intro (And.intro T.g114 (And.intro T.b114 T.z114)) (And.intro (And.intro T.p114 @Tryd.underlying142) (And.intro T.c142 T.g142))) (And.intro (And.intro T.b142 (And.intro T.z142 T.h142)) (And.intro (And.intro T.f66_2 T.f66_3) (And.intro T.k108 T.k92))))))
theorem RNodeH1101 : type_of% (And.intro (And.intro (And.intro (And.intro @Tryd.underlying3 (And.intro T.c3 T.g3)) (And.intro (And.intro T.b3 T.z3) (And.intro @Tryd.underlying4 T.c4))) (And.intro (And.intro (And.intro T.g4 T.b4) (And.intro T.z4 @Tryd.underlying22)) (And.intro (And.intro T.c22 T.g22) (And.intro T.b22 T.z22)))) (And.intro (And.intro (And.intro (And.intro T.s22 @Tryd.underlying114) (And.intro T.c114 T.g114)) (And.intro (And.intro T.b114 T.z114) (And.intro T.p114 @Tryd.underlying142))) (And.intro (And.intro (And.intro T.c142 T.g142) (And.intro T.b142 T.z142)) (And.intro (And.intro T.h142 T.k131) (And.intro T.k94 T.k90))))) :=
  (And.intro (And.intro (And.intro (And.intro @Tryd.underlying3 (And.intro T.c3 T.g3)) (And.intro (And.intro T.b3 T.z3) (And.intro @Tryd.underlying4 T.c4))) (And.intro (And.intro (And.intro T.g4 T.b4) (And.intro T.z4 @Tryd.underlying22)) (And.intro (And.intro T.c22 T.g22) (And.intro T.b22 T.z22)))) (And.intro (And.intro (And.intro (And.intro T.s22 @Tryd.underlying114) (And.intro T.c114 T.g114)) (And.intro (And.intro T.b114 T.z114) (And.intro T.p114 @Tryd.underlying142))) (And.intro (And.intro (And.intro T.c142 T.g142) (And.intro T.b142 T.z142)) (And.intro (And.intro T.h142 T.k131) (And.intro T.k94 T.k90)))))

variable {Γ : Nat → List AV}

theorem k102 : callable Tryd.prog 102 = true := by kernel_rfl
theorem k105 : callable Tryd.prog 105 = true := by kernel_rfl
theorem k107 : callable Tryd.prog 107 = true := by kernel_rfl

theorem penSmall_len (k : Nat) (n : Int) (st : List UInt8 × Bool) : (penSmall k n st).1.length ≤ st.1.length + k := by
  unfold penSmall penNum
  split
  · split
    · omega
    · simp
  · simp only; omega

set_option maxHeartbeats 1000000 in
theorem leafClo_calls (number : Int) (hn : -9223372036854775808 ≤ number ∧ number ≤ 9223372036854775807) (N : NodeV) (hl : N.unm.length ≤ 2 ^ 61) (s0 s : AS) (p : Nat) (st : List UInt8 × Bool) (hst : st.1.length ≤ 100) (h : PenS s0 s p st) :
    ACalls Tryd.prog Γ 102 [.ptr p 0, .rop [.v (.int .i64 number)], .rop N.cells] s (fun r s' => r = .tup [] ∧ PenS s0 s' p (nodePen N (penSmall 4 number st))) := by
  refine acalls_body Tryd.func102 rfl Tryd.ntmps102 Tryd.results102 (by simp) ?_
  have hw := nodeWrite_calls (Γ := Γ) N hl
  unfold NodeV.cells at *
  refine awp_reg_seq ?_
  intro K hK
  simp only [↓DN, UP, implies_true, forall_eq', ne_eq, if_true, if_false, aval, abin, aint, ashift, abool, astr, anil, aun, aconv, aindexAddr, aindex, optInt, aslice, abuiltin, asrc, afill, placeOf, asetAll, undef, aload, apart, AV.cells, AV.one, aeval, updO, upd, initE, gdst, thenQ, blockQ, srcOk, Array.isEmpty, List.isEmpty, bytesV, reduceCtorEq, ↓reduceIte, Nat.reduceLT, Nat.reduceLeDiff, Nat.reduceEqDiff, Nat.reduceAdd, Nat.reduceMul, Nat.reducePow, Nat.reduceSub, Int.reduceLT, Int.reduceLE, Int.reduceToNat, RNodeH1102, Tryd.ntmps102]
  refine acallk (penU32_calls s0 s p st number hn (by omega) h) ?_
  rintro r s1 ⟨rfl, h1⟩
  simp only [↓AXq_nil, ↓AXq_cons, pval, List.contains_cons, List.contains_nil, Nat.reduceBEq, Bool.or_false, Bool.or_true, Bool.or_self, Bool.false_eq_true, Bool.false_or, ↓DN, UP, implies_true, forall_eq', ne_eq, if_true, if_false, aval, abin, aint, ashift, abool, astr, anil, aun, aconv, aindexAddr, aindex, optInt, aslice, abuiltin, asrc, afill, placeOf, asetAll, undef, aload, apart, AV.cells, AV.one, aeval, updO, upd, initE, gdst, thenQ, blockQ, srcOk, Array.isEmpty, List.isEmpty, bytesV, reduceCtorEq, ↓reduceIte, Nat.reduceLT, Nat.reduceLeDiff, Nat.reduceEqDiff, Nat.reduceAdd, Nat.reduceMul, Nat.reducePow, Nat.reduceSub, Int.reduceLT, Int.reduceLE, Int.reduceToNat, RNodeH1102, Tryd.ntmps102]
  refine hK _ _ ?_
  clear hK K
  have hl4 := penSmall_len 4 number st
  refine awp_reg_end ?_
  intro K hK
  simp only [↓DN, UP, implies_true, forall_eq', ne_eq, if_true, if_false, aval, abin, aint, ashift, abool, astr, anil, aun, aconv, aindexAddr, aindex, optInt, aslice, abuiltin, asrc, afill, placeOf, asetAll, undef, aload, apart, AV.cells, AV.one, aeval, updO, upd, initE, gdst, thenQ, blockQ, srcOk, Array.isEmpty, List.isEmpty, bytesV, reduceCtorEq, ↓reduceIte, Nat.reduceLT, Nat.reduceLeDiff, Nat.reduceEqDiff, Nat.reduceAdd, Nat.reduceMul, Nat.reducePow, Nat.reduceSub, Int.reduceLT, Int.reduceLE, Int.reduceToNat, RNodeH1102, Tryd.ntmps102, intsV]
  refine acallk (hw s0 s1 p _ (by omega) h1) ?_
  rintro r s2 ⟨rfl, h2⟩
  simp only [↓AXq_nil, ↓AXq_cons, pval, List.contains_cons, List.contains_nil, Nat.reduceBEq, Bool.or_false, Bool.or_true, Bool.or_self, Bool.false_eq_true, Bool.false_or, ↓DN, UP, implies_true, forall_eq', ne_eq, if_true, if_false, aval, abin, aint, ashift, abool, astr, anil, aun, aconv, aindexAddr, aindex, optInt, aslice, abuiltin, asrc, afill, placeOf, asetAll, undef, aload, apart, AV.cells, AV.one, aeval, updO, upd, initE, gdst, thenQ, blockQ, srcOk, Array.isEmpty, List.isEmpty, bytesV, reduceCtorEq, ↓reduceIte, Nat.reduceLT, Nat.reduceLeDiff, Nat.reduceEqDiff, Nat.reduceAdd, Nat.reduceMul, Nat.reducePow, Nat.reduceSub, Int.reduceLT, Int.reduceLE, Int.reduceToNat, RNodeH1102, Tryd.ntmps102]
  refine hK _ _ ?_
  clear hK K
  simp only [retQ, AEnds, aresL, ares, List.toList_toArray, ↓upd_same]; try simp only [↓DN, UP, implies_true, forall_eq', ne_eq, if_true, if_false, aval, abin, aint, ashift, abool, astr, anil, aun, aconv, aindexAddr, aindex, optInt, aslice, abuiltin, asrc, afill, placeOf, asetAll, undef, aload, apart, AV.cells, AV.one, aeval, updO, upd, initE, gdst, thenQ, blockQ, srcOk, Array.isEmpty, List.isEmpty, bytesV, reduceCtorEq, ↓reduceIte, Nat.reduceLT, Nat.reduceLeDiff, Nat.reduceEqDiff, Nat.reduceAdd, Nat.reduceMul, Nat.reducePow, Nat.reduceSub, Int.reduceLT, Int.reduceLE, Int.reduceToNat, RNodeH1102, Tryd.ntmps102, atuple_nil, atuple_one, atuple_two, atuple_three, atuple_four, atuple_five]
  exact ⟨_, _, AV.weak.refl _, AS.le.refl _, rfl, h2⟩

set_option maxHeartbeats 1000000 in
theorem branchClo_calls (N : NodeV) (hl : N.unm.length ≤ 2 ^ 61) (s0 s : AS) (p : Nat) (st : List UInt8 × Bool) (hst : st.1.length ≤ 100) (h : PenS s0 s p st) :
    ACalls Tryd.prog Γ 105 [.ptr p 0, .rop N.cells] s (fun r s' => r = .tup [] ∧ PenS s0 s' p (nodePen N st)) := by
  refine acalls_body Tryd.func105 rfl Tryd.ntmps105 Tryd.results105 (by simp) ?_
  have hw := nodeWrite_calls (Γ := Γ) N hl
  unfold NodeV.cells at *
  refine awp_reg_end ?_
  intro K hK
  simp only [↓DN, UP, implies_true, forall_eq', ne_eq, if_true, if_false, aval, abin, aint, ashift, abool, astr, anil, aun, aconv, aindexAddr, aindex, optInt, aslice, abuiltin, asrc, afill, placeOf, asetAll, undef, aload, apart, AV.cells, AV.one, aeval, updO, upd, initE, gdst, thenQ, blockQ, srcOk, Array.isEmpty, List.isEmpty, bytesV, reduceCtorEq, ↓reduceIte, Nat.reduceLT, Nat.reduceLeDiff, Nat.reduceEqDiff, Nat.reduceAdd, Nat.reduceMul, Nat.reducePow, Nat.reduceSub, Int.reduceLT, Int.reduceLE, Int.reduceToNat, RNodeH1105, Tryd.ntmps105, intsV]
  refine acallk (hw s0 s p _ (by omega) h) ?_
  rintro r s2 ⟨rfl, h2⟩
  simp only [↓AXq_nil, ↓AXq_cons, pval, List.contains_cons, List.contains_nil, Nat.reduceBEq, Bool.or_false, Bool.or_true, Bool.or_self, Bool.false_eq_true, Bool.false_or, ↓DN, UP, implies_true, forall_eq', ne_eq, if_true, if_false, aval, abin, aint, ashift, abool, astr, anil, aun, aconv, aindexAddr, aindex, optInt, aslice, abuiltin, asrc, afill, placeOf, asetAll, undef, aload, apart, AV.cells, AV.one, aeval, updO, upd, initE, gdst, thenQ, blockQ, srcOk, Array.isEmpty, List.isEmpty, bytesV, reduceCtorEq, ↓reduceIte, Nat.reduceLT, Nat.reduceLeDiff, Nat.reduceEqDiff, Nat.reduceAdd, Nat.reduceMul, Nat.reducePow, Nat.reduceSub, Int.reduceLT, Int.reduceLE, Int.reduceToNat, RNodeH1105, Tryd.ntmps105]
  refine hK _ _ ?_
  clear hK K
  simp only [retQ, AEnds, aresL, ares, List.toList_toArray, ↓upd_same]; try simp only [↓DN, UP, implies_true, forall_eq', ne_eq, if_true, if_false, aval, abin, aint, ashift, abool, astr, anil, aun, aconv, aindexAddr, aindex, optInt, aslice, abuiltin, asrc, afill, placeOf, asetAll, undef, aload, apart, AV.cells, AV.one, aeval, updO, upd, initE, gdst, thenQ, blockQ, srcOk, Array.isEmpty, List.isEmpty, bytesV, reduceCtorEq, ↓reduceIte, Nat.reduceLT, Nat.reduceLeDiff, Nat.reduceEqDiff, Nat.reduceAdd, Nat.reduceMul, Nat.reducePow, Nat.reduceSub, Int.reduceLT, Int.reduceLE, Int.reduceToNat, RNodeH1105, Tryd.ntmps105, atuple_nil, atuple_one, atuple_two, atuple_three, atuple_four, atuple_five]
  exact ⟨_, _, AV.weak.refl _, AS.le.refl _, rfl, h2⟩

set_option maxHeartbeats 1000000 in
theorem parentClo_calls (N : NodeV) (hk : N.key < 2 ^ 64) (hp : N.parent.length ≤ 100) (s0 s : AS) (p : Nat) (st : List UInt8 × Bool) (hst : st.1.length ≤ 100) (h : PenS s0 s p st) :
    ACalls Tryd.prog Γ 107 [.ptr p 0, .rop N.cells] s (fun r s' => r = .tup [] ∧ PenS s0 s' p (penText 1 N.parent (penNum 8 N.key st))) := by
  refine acalls_body Tryd.func107 rfl Tryd.ntmps107 Tryd.results107 (by simp) ?_
  have hnl : (penNum 8 N.key st).1.length ≤ st.1.length + 8 := by unfold penNum; split; omega; simp
  obtain ⟨k, m, y, pa, u⟩ := N
  simp only at hk hp hnl
  unfold NodeV.cells at *
  refine awp_reg_seq ?_
  intro K hK
  simp only [↓DN, UP, implies_true, forall_eq', ne_eq, if_true, if_false, aval, abin, aint, ashift, abool, astr, anil, aun, aconv, aindexAddr, aindex, optInt, aslice, abuiltin, asrc, afill, placeOf, asetAll, undef, aload, apart, AV.cells, AV.one, aeval, updO, upd, initE, gdst, thenQ, blockQ, srcOk, Array.isEmpty, List.isEmpty, bytesV, reduceCtorEq, ↓reduceIte, Nat.reduceLT, Nat.reduceLeDiff, Nat.reduceEqDiff, Nat.reduceAdd, Nat.reduceMul, Nat.reducePow, Nat.reduceSub, Int.reduceLT, Int.reduceLE, Int.reduceToNat, RNodeH1107, Tryd.ntmps107]
  refine acallk (penU64_calls s0 s p st y hk (by omega) h) ?_
  rintro r s1 ⟨rfl, h1⟩
  simp only [↓AXq_nil, ↓AXq_cons, pval, List.contains_cons, List.contains_nil, Nat.reduceBEq, Bool.or_false, Bool.or_true, Bool.or_self, Bool.false_eq_true, Bool.false_or, ↓DN, UP, implies_true, forall_eq', ne_eq, if_true, if_false, aval, abin, aint, ashift, abool, astr, anil, aun, aconv, aindexAddr, aindex, optInt, aslice, abuiltin, asrc, afill, placeOf, asetAll, undef, aload, apart, AV.cells, AV.one, aeval, updO, upd, initE, gdst, thenQ, blockQ, srcOk, Array.isEmpty, List.isEmpty, bytesV, reduceCtorEq, ↓reduceIte, Nat.reduceLT, Nat.reduceLeDiff, Nat.reduceEqDiff, Nat.reduceAdd, Nat.reduceMul, Nat.reducePow, Nat.reduceSub, Int.reduceLT, Int.reduceLE, Int.reduceToNat, RNodeH1107, Tryd.ntmps107]
  refine hK _ _ ?_
  clear hK K
  refine awp_reg_end ?_
  intro K hK
  simp only [↓DN, UP, implies_true, forall_eq', ne_eq, if_true, if_false, aval, abin, aint, ashift, abool, astr, anil, aun, aconv, aindexAddr, aindex, optInt, aslice, abuiltin, asrc, afill, placeOf, asetAll, undef, aload, apart, AV.cells, AV.one, aeval, updO, upd, initE, gdst, thenQ, blockQ, srcOk, Array.isEmpty, List.isEmpty, bytesV, reduceCtorEq, ↓reduceIte, Nat.reduceLT, Nat.reduceLeDiff, Nat.reduceEqDiff, Nat.reduceAdd, Nat.reduceMul, Nat.reducePow, Nat.reduceSub, Int.reduceLT, Int.reduceLE, Int.reduceToNat, RNodeH1107, Tryd.ntmps107, intsV]
  refine acallk (penShort_calls s0 s1 p _ (bytesV pa .any) pa (.inr ⟨_, rfl⟩) (by omega) h1) ?_
  rintro r s2 ⟨rfl, h2⟩
  simp only [↓AXq_nil, ↓AXq_cons, pval, List.contains_cons, List.contains_nil, Nat.reduceBEq, Bool.or_false, Bool.or_true, Bool.or_self, Bool.false_eq_true, Bool.false_or, ↓DN, UP, implies_true, forall_eq', ne_eq, if_true, if_false, aval, abin, aint, ashift, abool, astr, anil, aun, aconv, aindexAddr, aindex, optInt, aslice, abuiltin, asrc, afill, placeOf, asetAll, undef, aload, apart, AV.cells, AV.one, aeval, updO, upd, initE, gdst, thenQ, blockQ, srcOk, Array.isEmpty, List.isEmpty, bytesV, reduceCtorEq, ↓reduceIte, Nat.reduceLT, Nat.reduceLeDiff, Nat.reduceEqDiff, Nat.reduceAdd, Nat.reduceMul, Nat.reducePow, Nat.reduceSub, Int.reduceLT, Int.reduceLE, Int.reduceToNat, RNodeH1107, Tryd.ntmps107]
  refine hK _ _ ?_
  clear hK K
  simp only [retQ, AEnds, aresL, ares, List.toList_toArray, ↓upd_same]; try simp only [↓DN, UP, implies_true, forall_eq', ne_eq, if_true, if_false, aval, abin, aint, ashift, abool, astr, anil, aun, aconv, aindexAddr, aindex, optInt, aslice, abuiltin, asrc, afill, placeOf, asetAll, undef, aload, apart, AV.cells, AV.one, aeval, updO, upd, initE, gdst, thenQ, blockQ, srcOk, Array.isEmpty, List.isEmpty, bytesV, reduceCtorEq, ↓reduceIte, Nat.reduceLT, Nat.reduceLeDiff, Nat.reduceEqDiff, Nat.reduceAdd, Nat.reduceMul, Nat.reducePow, Nat.reduceSub, Int.reduceLT, Int.reduceLE, Int.reduceToNat, RNodeH1107, Tryd.ntmps107, atuple_nil, atuple_one, atuple_two, atuple_three, atuple_four, atuple_five]
  exact ⟨_, _, AV.weak.refl _, AS.le.refl _, rfl, h2⟩

set_option maxHeartbeats 1000000 in
/-- The octets behind a mark, whatever the closure writes. -/
theorem octets19_calls (mark : Nat) (hm : mark < 256) (k : FuncId) (caps : List AV) (hk : callable Tryd.prog k = true) (F : List UInt8 × Bool)
    (hF : ∀ s0 s p, PenS s0 s p ([UInt8.ofNat mark], false) → ACalls Tryd.prog Γ k (.ptr p 0 :: caps) s (fun r s' => r = .tup [] ∧ PenS s0 s' p F)) (hl : F.1.length ≤ 2 ^ 45) (s : AS) :
    ACalls Tryd.prog Γ 101 [.v (.int .i64 (mark : Int)), .clo k caps] s (fun r s' => r = .tup [bytesV (if F.2 = true then [] else F.1) .any, .v (.bool !F.2)] ∧ s' = s) := by
  refine acalls_body Tryd.func101 rfl Tryd.ntmps101 Tryd.results101 (by simp) ?_
  have h0 : penSmall 1 (mark : Int) ([], false) = ([UInt8.ofNat mark], false) := by
    unfold penSmall
    rw [if_pos ⟨by omega, by omega⟩]
    simp [penNum, be]
  refine awp_reg_seq ?_
  intro K hK
  simp only [↓DN, UP, implies_true, forall_eq', ne_eq, if_true, if_false, aval, abin, aint, ashift, abool, astr, anil, aun, aconv, aindexAddr, aindex, optInt, aslice, abuiltin, asrc, afill, placeOf, asetAll, undef, aload, apart, AV.cells, AV.one, aeval, updO, upd, initE, gdst, thenQ, blockQ, srcOk, Array.isEmpty, List.isEmpty, bytesV, reduceCtorEq, ↓reduceIte, Nat.reduceLT, Nat.reduceLeDiff, Nat.reduceEqDiff, Nat.reduceAdd, Nat.reduceMul, Nat.reducePow, Nat.reduceSub, Int.reduceLT, Int.reduceLE, Int.reduceToNat, RNodeH1101, Tryd.ntmps101]
  refine hK _ _ ?_
  clear hK K
  refine awp_reg_seq ?_
  intro K hK
  simp only [↓DN, UP, implies_true, forall_eq', ne_eq, if_true, if_false, aval, abin, aint, ashift, abool, astr, anil, aun, aconv, aindexAddr, aindex, optInt, aslice, abuiltin, asrc, afill, placeOf, asetAll, undef, aload, apart, AV.cells, AV.one, aeval, updO, upd, initE, gdst, thenQ, blockQ, srcOk, Array.isEmpty, List.isEmpty, bytesV, reduceCtorEq, ↓reduceIte, Nat.reduceLT, Nat.reduceLeDiff, Nat.reduceEqDiff, Nat.reduceAdd, Nat.reduceMul, Nat.reducePow, Nat.reduceSub, Int.reduceLT, Int.reduceLE, Int.reduceToNat, RNodeH1101, Tryd.ntmps101]
  refine acallk (new_calls s) ?_
  rintro r s1 ⟨p, rfl, q1⟩
  simp only [↓AXq_nil, ↓AXq_cons, pval, List.contains_cons, List.contains_nil, Nat.reduceBEq, Bool.or_false, Bool.or_true, Bool.or_self, Bool.false_eq_true, Bool.false_or, ↓DN, UP, implies_true, forall_eq', ne_eq, if_true, if_false, aval, abin, aint, ashift, abool, astr, anil, aun, aconv, aindexAddr, aindex, optInt, aslice, abuiltin, asrc, afill, placeOf, asetAll, undef, aload, apart, AV.cells, AV.one, aeval, updO, upd, initE, gdst, thenQ, blockQ, srcOk, Array.isEmpty, List.isEmpty, bytesV, reduceCtorEq, ↓reduceIte, Nat.reduceLT, Nat.reduceLeDiff, Nat.reduceEqDiff, Nat.reduceAdd, Nat.reduceMul, Nat.reducePow, Nat.reduceSub, Int.reduceLT, Int.reduceLE, Int.reduceToNat, RNodeH1101, Tryd.ntmps101]
  refine hK _ _ ?_
  clear hK K
  refine awp_reg_seq ?_
  intro K hK
  simp only [↓DN, UP, implies_true, forall_eq', ne_eq, if_true, if_false, aval, abin, aint, ashift, abool, astr, anil, aun, aconv, aindexAddr, aindex, optInt, aslice, abuiltin, asrc, afill, placeOf, asetAll, undef, aload, apart, AV.cells, AV.one, aeval, updO, upd, initE, gdst, thenQ, blockQ, srcOk, Array.isEmpty, List.isEmpty, bytesV, reduceCtorEq, ↓reduceIte, Nat.reduceLT, Nat.reduceLeDiff, Nat.reduceEqDiff, Nat.reduceAdd, Nat.reduceMul, Nat.reducePow, Nat.reduceSub, Int.reduceLT, Int.reduceLE, Int.reduceToNat, RNodeH1101, Tryd.ntmps101]
  refine acallk (penU8_calls s s1 p ([], false) (mark : Int) (by omega) (by simp) q1) ?_
  rintro r s2 ⟨rfl, q2⟩
  rw [h0] at q2
  simp only [↓AXq_nil, ↓AXq_cons, pval, List.contains_cons, List.contains_nil, Nat.reduceBEq, Bool.or_false, Bool.or_true, Bool.or_self, Bool.false_eq_true, Bool.false_or, ↓DN, UP, implies_true, forall_eq', ne_eq, if_true, if_false, aval, abin, aint, ashift, abool, astr, anil, aun, aconv, aindexAddr, aindex, optInt, aslice, abuiltin, asrc, afill, placeOf, asetAll, undef, aload, apart, AV.cells, AV.one, aeval, updO, upd, initE, gdst, thenQ, blockQ, srcOk, Array.isEmpty, List.isEmpty, bytesV, reduceCtorEq, ↓reduceIte, Nat.reduceLT, Nat.reduceLeDiff, Nat.reduceEqDiff, Nat.reduceAdd, Nat.reduceMul, Nat.reducePow, Nat.reduceSub, Int.reduceLT, Int.reduceLE, Int.reduceToNat, RNodeH1101, Tryd.ntmps101]
  refine hK _ _ ?_
  clear hK K
  refine awp_reg_seq ?_
  intro K hK
  simp only [↓DN, UP, implies_true, forall_eq', ne_eq, if_true, if_false, aval, abin, aint, ashift, abool, astr, anil, aun, aconv, aindexAddr, aindex, optInt, aslice, abuiltin, asrc, afill, placeOf, asetAll, undef, aload, apart, AV.cells, AV.one, aeval, updO, upd, initE, gdst, thenQ, blockQ, srcOk, Array.isEmpty, List.isEmpty, bytesV, reduceCtorEq, ↓reduceIte, Nat.reduceLT, Nat.reduceLeDiff, Nat.reduceEqDiff, Nat.reduceAdd, Nat.reduceMul, Nat.reducePow, Nat.reduceSub, Int.reduceLT, Int.reduceLE, Int.reduceToNat, RNodeH1101, Tryd.ntmps101, hk]
  refine acallk (hF s s2 p q2) ?_
  rintro r s3 ⟨rfl, q3⟩
  simp only [↓AXq_nil, ↓AXq_cons, pval, List.contains_cons, List.contains_nil, Nat.reduceBEq, Bool.or_false, Bool.or_true, Bool.or_self, Bool.false_eq_true, Bool.false_or, ↓DN, UP, implies_true, forall_eq', ne_eq, if_true, if_false, aval, abin, aint, ashift, abool, astr, anil, aun, aconv, aindexAddr, aindex, optInt, aslice, abuiltin, asrc, afill, placeOf, asetAll, undef, aload, apart, AV.cells, AV.one, aeval, updO, upd, initE, gdst, thenQ, blockQ, srcOk, Array.isEmpty, List.isEmpty, bytesV, reduceCtorEq, ↓reduceIte, Nat.reduceLT, Nat.reduceLeDiff, Nat.reduceEqDiff, Nat.reduceAdd, Nat.reduceMul, Nat.reducePow, Nat.reduceSub, Int.reduceLT, Int.reduceLE, Int.reduceToNat, RNodeH1101, Tryd.ntmps101]
  refine hK _ _ ?_
  clear hK K
  refine awp_reg_seq ?_
  intro K hK
  simp only [↓DN, UP, implies_true, forall_eq', ne_eq, if_true, if_false, aval, abin, aint, ashift, abool, astr, anil, aun, aconv, aindexAddr, aindex, optInt, aslice, abuiltin, asrc, afill, placeOf, asetAll, undef, aload, apart, AV.cells, AV.one, aeval, updO, upd, initE, gdst, thenQ, blockQ, srcOk, Array.isEmpty, List.isEmpty, bytesV, reduceCtorEq, ↓reduceIte, Nat.reduceLT, Nat.reduceLeDiff, Nat.reduceEqDiff, Nat.reduceAdd, Nat.reduceMul, Nat.reducePow, Nat.reduceSub, Int.reduceLT, Int.reduceLE, Int.reduceToNat, RNodeH1101, Tryd.ntmps101]
  refine acallk (penBytes_calls s s3 p _ hl q3) ?_
  rintro r s4 ⟨rfl, rfl⟩
  simp only [↓AXq_nil, ↓AXq_cons, pval, List.contains_cons, List.contains_nil, Nat.reduceBEq, Bool.or_false, Bool.or_true, Bool.or_self, Bool.false_eq_true, Bool.false_or, ↓DN, UP, implies_true, forall_eq', ne_eq, if_true, if_false, aval, abin, aint, ashift, abool, astr, anil, aun, aconv, aindexAddr, aindex, optInt, aslice, abuiltin, asrc, afill, placeOf, asetAll, undef, aload, apart, AV.cells, AV.one, aeval, updO, upd, initE, gdst, thenQ, blockQ, srcOk, Array.isEmpty, List.isEmpty, bytesV, reduceCtorEq, ↓reduceIte, Nat.reduceLT, Nat.reduceLeDiff, Nat.reduceEqDiff, Nat.reduceAdd, Nat.reduceMul, Nat.reducePow, Nat.reduceSub, Int.reduceLT, Int.reduceLE, Int.reduceToNat, RNodeH1101, Tryd.ntmps101]
  refine hK _ _ ?_
  clear hK K
  refine awp_ret ?_
  simp only [retQ, AEnds, aresL, ares, List.toList_toArray, ↓upd_same]; try simp only [↓DN, UP, implies_true, forall_eq', ne_eq, if_true, if_false, aval, abin, aint, ashift, abool, astr, anil, aun, aconv, aindexAddr, aindex, optInt, aslice, abuiltin, asrc, afill, placeOf, asetAll, undef, aload, apart, AV.cells, AV.one, aeval, updO, upd, initE, gdst, thenQ, blockQ, srcOk, Array.isEmpty, List.isEmpty, bytesV, reduceCtorEq, ↓reduceIte, Nat.reduceLT, Nat.reduceLeDiff, Nat.reduceEqDiff, Nat.reduceAdd, Nat.reduceMul, Nat.reducePow, Nat.reduceSub, Int.reduceLT, Int.reduceLE, Int.reduceToNat, RNodeH1101, Tryd.ntmps101, atuple_nil, atuple_one, atuple_two, atuple_three, atuple_four, atuple_five]
  exact ⟨_, s, AV.weak.refl _, q3.le, rfl, rfl⟩

end Go.Proofs.YtpakgjmcaefnmaaDoor


