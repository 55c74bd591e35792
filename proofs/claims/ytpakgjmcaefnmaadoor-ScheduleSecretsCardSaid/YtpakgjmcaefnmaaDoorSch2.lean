/- Contracts of the program's functions, each walked once; the conditions stand in each theorem. -/
import Derived.Test.YtpakgjmcaefnmaaDoorSch1
set_option linter.unusedSimpArgs false
set_option linter.unusedVariables false
set_option autoImplicit false
namespace Go.Proofs.YtpakgjmcaefnmaaDoor
open Go Go.AM Go.Proofs

theorem RSch244 : type_of% (And.intro (And.intro (And.intro (And.intro (And.intro @Tryd.underlying3 T.c3) (And.intro T.g3 T.b3)) (And.intro (And.intro T.z3 @Tryd.underlying5) (And.intro T.c5 (And.intro T.g5 T.b5)))) (And.intro (And.intro (And.intro T.z5 @Tryd.underlying9) (And.intro T.c9 T.g9)) (And.intro (And.intro T.b9 T.z9) (And.intro @Tryd.underlying22 (And.intro T.c22 T.g22))))) (And.intro (And.intro (And.intro (And.intro T.b22 T.z22) (And.intro T.s22 @Tryd.underlying55)) (And.intro (And.intro T.c55 T.g55) (And.intro T.b55 (And.intro T.z55 T.h55)))) (And.intro (And.intro (And.intro T.f55_0 T.f55_1) (And.intro T.f55_2 T.f55_3)) (And.intro (And.intro T.f55_4 T.f55_5) (And.intro T.k36 (And.intro T.k28 T.k38)))))) :=
  (And.intro (And.intro (And.intro (And.intro (And.intro @Tryd.underlying3 T.c3) (And.intro T.g3 T.b3)) (And.intro (And.intro T.z3 @Tryd.underlying5) (And.intro T.c5 (And.intro T.g5 T.b5)))) (And.intro (And.intro (And.intro T.z5 @Tryd.underlying9) (And.intro T.c9 T.g9)) (And.intro (And.intro T.b9 T.z9) (And.intro @Tryd.underlying22 (And.intro T.c22 T.g22))))) (And.intro (And.intro (And.intro (And.intro T.b22 T.z22) (And.intro T.s22 @Tryd.underlying55)) (And.intro (And.intro T.c55 T.g55) (And.intro T.b55 (And.intro T.z55 T.h55)))) (And.intro (And.intro (And.intro T.f55_0 T.f55_1) (And.intro T.f55_2 T.f55_3)) (And.intro (And.intro T.f55_4 T.f55_5) (And.intro T.k36 (And.intro T.k28 T.k38))))))
theorem RSch242 : type_of% (And.intro (And.intro (And.intro (And.intro (And.intro @Tryd.underlying5 T.c5) (And.intro T.g5 (And.intro T.b5 T.z5))) (And.intro (And.intro @Tryd.underlying9 T.c9) (And.intro T.g9 (And.intro T.b9 T.z9)))) (And.intro (And.intro (And.intro @Tryd.underlying22 T.c22) (And.intro T.g22 (And.intro T.b22 T.z22))) (And.intro (And.intro T.s22 @Tryd.underlying52) (And.intro T.c52 (And.intro T.g52 T.b52))))) (And.intro (And.intro (And.intro (And.intro T.z52 T.h52) (And.intro @Tryd.underlying55 (And.intro T.c55 T.g55))) (And.intro (And.intro T.b55 T.z55) (And.intro T.h55 (And.intro T.f52_0 T.f52_1)))) (And.intro (And.intro (And.intro T.f52_2 T.f52_3) (And.intro T.f52_4 (And.intro T.f52_5 T.f55_0))) (And.intro (And.intro T.f55_1 T.f55_2) (And.intro T.f55_3 (And.intro T.f55_4 T.f55_5)))))) :=
  (And.intro (And.intro (And.intro (And.intro (And.intro @Tryd.underlying5 T.c5) (And.intro T.g5 (And.intro T.b5 T.z5))) (And.intro (And.intro @Tryd.underlying9 T.c9) (And.intro T.g9 (And.intro T.b9 T.z9)))) (And.intro (And.intro (And.intro @Tryd.underlying22 T.c22) (And.intro T.g22 (And.intro T.b22 T.z22))) (And.intro (And.intro T.s22 @Tryd.underlying52) (And.intro T.c52 (And.intro T.g52 T.b52))))) (And.intro (And.intro (And.intro (And.intro T.z52 T.h52) (And.intro @Tryd.underlying55 (And.intro T.c55 T.g55))) (And.intro (And.intro T.b55 T.z55) (And.intro T.h55 (And.intro T.f52_0 T.f52_1)))) (And.intro (And.intro (And.intro T.f52_2 T.f52_3) (And.intro T.f52_4 (And.intro T.f52_5 T.f55_0))) (And.intro (And.intro T.f55_1 T.f55_2) (And.intro T.f55_3 (And.intro T.f55_4 T.f55_5))))))
theorem RSch298 : type_of% (And.intro (And.intro (And.intro (And.intro @Tryd.underlying5 (And.intro T.c5 T.g5)) (And.intro (And.intro T.b5 T.z5) (And.intro @Tryd.underlying22 T.c22))) (And.intro (And.intro T.g22 (And.intro T.b22 T.z22)) (And.intro (And.intro T.s22 @Tryd.underlying52) (And.intro T.c52 T.g52)))) (And.intro (And.intro (And.intro T.b52 (And.intro T.z52 T.h52)) (And.intro (And.intro @Tryd.underlying98 T.c98) (And.intro T.g98 T.b98))) (And.intro (And.intro (And.intro T.z98 T.s98) (And.intro T.f52_0 T.f52_1)) (And.intro (And.intro T.f52_2 T.f52_3) (And.intro T.f52_4 T.f52_5))))) :=
  (And.intro (And.intro (And.intro (And.intro @Tryd.underlying5 (And.intro T.c5 T.g5)) (And.intro (And.intro T.b5 T.z5) (And.intro @Tryd.underlying22 T.c22))) (And.intro (And.intro T.g22 (And.intro T.b22 T.z22)) (And.intro (And.intro T.s22 @Tryd.underlying52) (And.intro T.c52 T.g52)))) (And.intro (And.intro (And.intro T.b52 (And.intro T.z52 T.h52)) (And.intro (And.intro @Tryd.underlying98 T.c98) (And.intro T.g98 T.b98))) (And.intro (And.intro (And.intro T.z98 T.s98) (And.intro T.f52_0 T.f52_1)) (And.intro (And.intro T.f52_2 T.f52_3) (And.intro T.f52_4 T.f52_5)))))

variable {Γ : Nat → List AV}

def sixS (ls : List (List UInt8)) : List AV := ls.map fun l => .v (.string ⟨l.toArray⟩)

set_option maxHeartbeats 4000000 in
set_option maxRecDepth 100000 in
theorem refOf_calls (j c : List UInt8) (hj : j.length ≤ 2 ^ 36) (hc : c.length ≤ 65535) (s : AS) :
    ACalls Tryd.prog Γ 44 [.v (.string ⟨j.toArray⟩), .v (.string ⟨c.toArray⟩)] s (fun r s' => r = .agg (sixS (Sch.of j c)) ∧ s' = s) := by
  refine acalls_body Tryd.func44 rfl Tryd.ntmps44 Tryd.results44 (by simp) ?_
  refine awp_reg_seq ?_
  intro K hK
  simp only [↓DN, UP, implies_true, forall_eq', ne_eq, if_true, if_false, aval, abin, aint, ashift, abool, astr, anil, aun, aconv, aindexAddr, aindex, optInt, aslice, abuiltin, asrc, afill, placeOf, asetAll, undef, aload, apart, AV.cells, AV.one, aeval, updO, upd, initE, gdst, thenQ, blockQ, srcOk, Array.isEmpty, List.isEmpty, bytesV, reduceCtorEq, ↓reduceIte, Nat.reduceLT, Nat.reduceLeDiff, Nat.reduceEqDiff, Nat.reduceAdd, Nat.reduceMul, Nat.reducePow, Nat.reduceSub, Int.reduceLT, Int.reduceLE, Int.reduceToNat, RSch244, Tryd.ntmps44]
  intro o ho
  refine hK _ _ ?_
  clear hK K
  refine awp_reg_mid1 rfl (by decide) ?_
  intro ops
  simp only [↓AXq_nil, ↓AXq_cons, pval, List.contains_cons, List.contains_nil, Nat.reduceBEq, Bool.or_false, Bool.or_true, Bool.or_self, Bool.false_eq_true, Bool.false_or, ↓DN, UP, implies_true, forall_eq', ne_eq, if_true, if_false, aval, abin, aint, ashift, abool, astr, anil, aun, aconv, aindexAddr, aindex, optInt, aslice, abuiltin, asrc, afill, placeOf, asetAll, undef, aload, apart, AV.cells, AV.one, aeval, updO, upd, initE, gdst, thenQ, blockQ, srcOk, Array.isEmpty, List.isEmpty, bytesV, reduceCtorEq, ↓reduceIte, Nat.reduceLT, Nat.reduceLeDiff, Nat.reduceEqDiff, Nat.reduceAdd, Nat.reduceMul, Nat.reducePow, Nat.reduceSub, Int.reduceLT, Int.reduceLE, Int.reduceToNat, RSch244, Tryd.ntmps44]
  refine ⟨fun r s' => r = .sl (Tryd.prog.cellsOf 5) 32 (zrow (32 * Tryd.prog.cellsOf 5) [.v (.int .u8 0)]) .no ∧ s' = s.set o (List.replicate 6 (.v (.string ByteArray.empty))), fun G a w hr => ?_, ?_⟩
  · exact make_ro_res (e := 5) rfl Tryd.underlying22 T.z5 (by rw [T.c5]; decide) (by rw [T.c5]; rfl) rfl rfl (by rw [T.b5]; decide) (by decide) hr.eval hr.st
  rw [T.c5, zero32]
  rintro r s1 ⟨rfl, rfl⟩
  have ho1 : (s.set o (List.replicate 6 (.v (.string ByteArray.empty)))).objs o = some (List.replicate 6 (.v (.string ByteArray.empty))) := AS.set_objs_same _ _ _
  have hle1 : s.le (s.set o (List.replicate 6 (.v (.string ByteArray.empty)))) := AS.le_set (AS.le.refl s) ho _
  generalize s.set o (List.replicate 6 (.v (.string ByteArray.empty))) = s1 at *
  have htag := refTag_calls (Γ := Γ) j (List.replicate 32 0) (by omega) (by decide) s1
  have hml := Sch.main_len j
  have hel := Sch.epoch_len j c hc
  have hfit : Kdf.fits Sch.epochW c 32 = true := Sch.fits_small _ _ (by decide) hc
  have hlab := refLabel_calls (Γ := Γ) (Sch.main j) Sch.epochW c 32 (by omega) hfit s1
  change ACalls _ _ _ _ _ (fun r s' => r = .v (.string ⟨(Sch.main j).toArray⟩) ∧ s' = s1) at htag
  change ACalls _ _ _ _ _ (fun r s' => r = .v (.string ⟨(Sch.epoch j c).toArray⟩) ∧ s' = s1) at hlab
  have hd := fun (l : List UInt8) (hl : l.length ≤ 2 ^ 36) (s : AS) => refDerive_calls (Γ := Γ) (Sch.main j) l (by omega) hl s
  have hde := fun (l : List UInt8) (hl : l.length ≤ 2 ^ 36) (s : AS) => refDerive_calls (Γ := Γ) (Sch.epoch j c) l (by omega) hl s
  have hof : Sch.of j c = [j, Kdf.derive (Sch.main j) Sch.welcomeW, Kdf.derive (Sch.epoch j c) Sch.exporterW, Kdf.derive (Sch.epoch j c) Sch.confirmW, Kdf.derive (Sch.epoch j c) Sch.memberW, Kdf.derive (Sch.epoch j c) Sch.initW] := rfl
  generalize Sch.main j = m at *
  generalize Sch.epoch j c = ep at *
  generalize List.replicate 32 (0 : UInt8) = z32 at *
  simp only [↓AXq_nil, ↓AXq_cons, pval, List.contains_cons, List.contains_nil, Nat.reduceBEq, Bool.or_false, Bool.or_true, Bool.or_self, Bool.false_eq_true, Bool.false_or, ↓DN, UP, implies_true, forall_eq', ne_eq, if_true, if_false, aval, abin, aint, ashift, abool, astr, anil, aun, aconv, aindexAddr, aindex, optInt, aslice, abuiltin, asrc, afill, placeOf, asetAll, undef, aload, apart, AV.cells, AV.one, aeval, updO, upd, initE, gdst, thenQ, blockQ, srcOk, Array.isEmpty, List.isEmpty, bytesV, reduceCtorEq, ↓reduceIte, Nat.reduceLT, Nat.reduceLeDiff, Nat.reduceEqDiff, Nat.reduceAdd, Nat.reduceMul, Nat.reducePow, Nat.reduceSub, Int.reduceLT, Int.reduceLE, Int.reduceToNat, RSch244, Tryd.ntmps44]
  refine acallk htag ?_
  rintro r s2 ⟨rfl, rfl⟩
  simp only [↓AXq_nil, ↓AXq_cons, pval, List.contains_cons, List.contains_nil, Nat.reduceBEq, Bool.or_false, Bool.or_true, Bool.or_self, Bool.false_eq_true, Bool.false_or, ↓DN, UP, implies_true, forall_eq', ne_eq, if_true, if_false, aval, abin, aint, ashift, abool, astr, anil, aun, aconv, aindexAddr, aindex, optInt, aslice, abuiltin, asrc, afill, placeOf, asetAll, undef, aload, apart, AV.cells, AV.one, aeval, updO, upd, initE, gdst, thenQ, blockQ, srcOk, Array.isEmpty, List.isEmpty, bytesV, reduceCtorEq, ↓reduceIte, Nat.reduceLT, Nat.reduceLeDiff, Nat.reduceEqDiff, Nat.reduceAdd, Nat.reduceMul, Nat.reducePow, Nat.reduceSub, Int.reduceLT, Int.reduceLE, Int.reduceToNat, RSch244, Tryd.ntmps44]
  refine awp_reg_seq ?_
  intro K hK
  simp only [↓DN, UP, implies_true, forall_eq', ne_eq, if_true, if_false, aval, abin, aint, ashift, abool, astr, anil, aun, aconv, aindexAddr, aindex, optInt, aslice, abuiltin, asrc, afill, placeOf, asetAll, undef, aload, apart, AV.cells, AV.one, aeval, updO, upd, initE, gdst, thenQ, blockQ, srcOk, Array.isEmpty, List.isEmpty, bytesV, reduceCtorEq, ↓reduceIte, Nat.reduceLT, Nat.reduceLeDiff, Nat.reduceEqDiff, Nat.reduceAdd, Nat.reduceMul, Nat.reducePow, Nat.reduceSub, Int.reduceLT, Int.reduceLE, Int.reduceToNat, RSch244, Tryd.ntmps44]
  refine acallk hlab ?_
  rintro r s3 ⟨rfl, rfl⟩
  simp only [↓AXq_nil, ↓AXq_cons, pval, List.contains_cons, List.contains_nil, Nat.reduceBEq, Bool.or_false, Bool.or_true, Bool.or_self, Bool.false_eq_true, Bool.false_or, ↓DN, UP, implies_true, forall_eq', ne_eq, if_true, if_false, aval, abin, aint, ashift, abool, astr, anil, aun, aconv, aindexAddr, aindex, optInt, aslice, abuiltin, asrc, afill, placeOf, asetAll, undef, aload, apart, AV.cells, AV.one, aeval, updO, upd, initE, gdst, thenQ, blockQ, srcOk, Array.isEmpty, List.isEmpty, bytesV, reduceCtorEq, ↓reduceIte, Nat.reduceLT, Nat.reduceLeDiff, Nat.reduceEqDiff, Nat.reduceAdd, Nat.reduceMul, Nat.reducePow, Nat.reduceSub, Int.reduceLT, Int.reduceLE, Int.reduceToNat, RSch244, Tryd.ntmps44]
  refine hK _ _ ?_
  clear hK K
  refine awp_reg_seq ?_
  intro K hK
  simp only [↓DN, UP, implies_true, forall_eq', ne_eq, if_true, if_false, aval, abin, aint, ashift, abool, astr, anil, aun, aconv, aindexAddr, aindex, optInt, aslice, abuiltin, asrc, afill, placeOf, asetAll, undef, aload, apart, AV.cells, AV.one, aeval, updO, upd, initE, gdst, thenQ, blockQ, srcOk, Array.isEmpty, List.isEmpty, bytesV, reduceCtorEq, ↓reduceIte, Nat.reduceLT, Nat.reduceLeDiff, Nat.reduceEqDiff, Nat.reduceAdd, Nat.reduceMul, Nat.reducePow, Nat.reduceSub, Int.reduceLT, Int.reduceLE, Int.reduceToNat, RSch244, Tryd.ntmps44]
  refine acallk (hd Sch.welcomeW (by decide) _) ?_
  rintro r s4 ⟨rfl, rfl⟩
  simp only [↓AXq_nil, ↓AXq_cons, pval, List.contains_cons, List.contains_nil, Nat.reduceBEq, Bool.or_false, Bool.or_true, Bool.or_self, Bool.false_eq_true, Bool.false_or, ↓DN, UP, implies_true, forall_eq', ne_eq, if_true, if_false, aval, abin, aint, ashift, abool, astr, anil, aun, aconv, aindexAddr, aindex, optInt, aslice, abuiltin, asrc, afill, placeOf, asetAll, undef, aload, apart, AV.cells, AV.one, aeval, updO, upd, initE, gdst, thenQ, blockQ, srcOk, Array.isEmpty, List.isEmpty, bytesV, reduceCtorEq, ↓reduceIte, Nat.reduceLT, Nat.reduceLeDiff, Nat.reduceEqDiff, Nat.reduceAdd, Nat.reduceMul, Nat.reducePow, Nat.reduceSub, Int.reduceLT, Int.reduceLE, Int.reduceToNat, RSch244, Tryd.ntmps44]
  refine acallk (hde Sch.exporterW (by decide) _) ?_
  rintro r s5 ⟨rfl, rfl⟩
  simp only [↓AXq_nil, ↓AXq_cons, pval, List.contains_cons, List.contains_nil, Nat.reduceBEq, Bool.or_false, Bool.or_true, Bool.or_self, Bool.false_eq_true, Bool.false_or, ↓DN, UP, implies_true, forall_eq', ne_eq, if_true, if_false, aval, abin, aint, ashift, abool, astr, anil, aun, aconv, aindexAddr, aindex, optInt, aslice, abuiltin, asrc, afill, placeOf, asetAll, undef, aload, apart, AV.cells, AV.one, aeval, updO, upd, initE, gdst, thenQ, blockQ, srcOk, Array.isEmpty, List.isEmpty, bytesV, reduceCtorEq, ↓reduceIte, Nat.reduceLT, Nat.reduceLeDiff, Nat.reduceEqDiff, Nat.reduceAdd, Nat.reduceMul, Nat.reducePow, Nat.reduceSub, Int.reduceLT, Int.reduceLE, Int.reduceToNat, RSch244, Tryd.ntmps44]
  refine acallk (hde Sch.confirmW (by decide) _) ?_
  rintro r s6 ⟨rfl, rfl⟩
  simp only [↓AXq_nil, ↓AXq_cons, pval, List.contains_cons, List.contains_nil, Nat.reduceBEq, Bool.or_false, Bool.or_true, Bool.or_self, Bool.false_eq_true, Bool.false_or, ↓DN, UP, implies_true, forall_eq', ne_eq, if_true, if_false, aval, abin, aint, ashift, abool, astr, anil, aun, aconv, aindexAddr, aindex, optInt, aslice, abuiltin, asrc, afill, placeOf, asetAll, undef, aload, apart, AV.cells, AV.one, aeval, updO, upd, initE, gdst, thenQ, blockQ, srcOk, Array.isEmpty, List.isEmpty, bytesV, reduceCtorEq, ↓reduceIte, Nat.reduceLT, Nat.reduceLeDiff, Nat.reduceEqDiff, Nat.reduceAdd, Nat.reduceMul, Nat.reducePow, Nat.reduceSub, Int.reduceLT, Int.reduceLE, Int.reduceToNat, RSch244, Tryd.ntmps44]
  refine acallk (hde Sch.memberW (by decide) _) ?_
  rintro r s7 ⟨rfl, rfl⟩
  simp only [↓AXq_nil, ↓AXq_cons, pval, List.contains_cons, List.contains_nil, Nat.reduceBEq, Bool.or_false, Bool.or_true, Bool.or_self, Bool.false_eq_true, Bool.false_or, ↓DN, UP, implies_true, forall_eq', ne_eq, if_true, if_false, aval, abin, aint, ashift, abool, astr, anil, aun, aconv, aindexAddr, aindex, optInt, aslice, abuiltin, asrc, afill, placeOf, asetAll, undef, aload, apart, AV.cells, AV.one, aeval, updO, upd, initE, gdst, thenQ, blockQ, srcOk, Array.isEmpty, List.isEmpty, bytesV, reduceCtorEq, ↓reduceIte, Nat.reduceLT, Nat.reduceLeDiff, Nat.reduceEqDiff, Nat.reduceAdd, Nat.reduceMul, Nat.reducePow, Nat.reduceSub, Int.reduceLT, Int.reduceLE, Int.reduceToNat, RSch244, Tryd.ntmps44]
  refine acallk (hde Sch.initW (by decide) _) ?_
  rintro r s8 ⟨rfl, rfl⟩
  have rep6 : ∀ x : AV, List.replicate 6 x = [x, x, x, x, x, x] := fun _ => rfl
  rw [rep6] at ho1
  simp only [↓AXq_nil, ↓AXq_cons, pval, List.contains_cons, List.contains_nil, Nat.reduceBEq, Bool.or_false, Bool.or_true, Bool.or_self, Bool.false_eq_true, Bool.false_or, ↓DN, UP, implies_true, forall_eq', ne_eq, if_true, if_false, aval, abin, aint, ashift, abool, astr, anil, aun, aconv, aindexAddr, aindex, optInt, aslice, abuiltin, asrc, afill, placeOf, asetAll, undef, aload, apart, AV.cells, AV.one, aeval, updO, upd, initE, gdst, thenQ, blockQ, srcOk, Array.isEmpty, List.isEmpty, bytesV, reduceCtorEq, ↓reduceIte, Nat.reduceLT, Nat.reduceLeDiff, Nat.reduceEqDiff, Nat.reduceAdd, Nat.reduceMul, Nat.reducePow, Nat.reduceSub, Int.reduceLT, Int.reduceLE, Int.reduceToNat, RSch244, Tryd.ntmps44, ho1]
  refine hK _ _ ?_
  clear hK K
  refine awp_ret ?_
  refine aends_cell (o := o) (off := 0) (v := .agg (sixS (Sch.of j c))) (by simp only [upd, Nat.reduceEqDiff, ↓reduceIte]) (AS.set_objs_same _ _ _) (by rw [T.c55]; decide) ?_ ?_
  · rw [hof]
    simp only [↓DN, UP, implies_true, forall_eq', ne_eq, if_true, if_false, aval, abin, aint, ashift, abool, astr, anil, aun, aconv, aindexAddr, aindex, optInt, aslice, abuiltin, asrc, afill, placeOf, asetAll, undef, aload, apart, AV.cells, AV.one, aeval, updO, upd, initE, gdst, thenQ, blockQ, srcOk, Array.isEmpty, List.isEmpty, bytesV, reduceCtorEq, ↓reduceIte, Nat.reduceLT, Nat.reduceLeDiff, Nat.reduceEqDiff, Nat.reduceAdd, Nat.reduceMul, Nat.reducePow, Nat.reduceSub, Int.reduceLT, Int.reduceLE, Int.reduceToNat, RSch244, Tryd.ntmps44, sixS, rep6]
  · exact ⟨_, s, AV.weak.refl _, AS.le_set hle1 ho _, rfl, rfl⟩

theorem six_cases {ls : List (List UInt8)} (h : ls.length = 6) : ∃ a b c d e f, ls = [a, b, c, d, e, f] := by
  match ls, h with
  | [a, b, c, d, e, f], _ => exact ⟨a, b, c, d, e, f, rfl⟩

set_option maxHeartbeats 4000000 in
set_option maxRecDepth 100000 in
theorem refSame22_calls (ls : List (List UInt8)) (hl : ls.length = 6) (s : AS) :
    ACalls Tryd.prog Γ 42 [.agg (sixV ls), .agg (sixS ls)] s (fun r s' => r = .v (.bool true) ∧ s' = s) := by
  refine acalls_body Tryd.func42 rfl Tryd.ntmps42 Tryd.results42 (by simp) ?_
  obtain ⟨a, b, c, d, e, f, rfl⟩ := six_cases hl
  have e1 : sixV [a, b, c, d, e, f] = [bytesV a .any, bytesV b .any, bytesV c .any, bytesV d .any, bytesV e .any, bytesV f .any] := rfl
  have e2 : sixS [a, b, c, d, e, f] = [.v (.string ⟨a.toArray⟩), .v (.string ⟨b.toArray⟩), .v (.string ⟨c.toArray⟩), .v (.string ⟨d.toArray⟩), .v (.string ⟨e.toArray⟩), .v (.string ⟨f.toArray⟩)] := rfl
  rw [e1, e2]
  refine awp_reg_seq ?_
  intro K hK
  simp only [↓DN, UP, implies_true, forall_eq', ne_eq, if_true, if_false, aval, abin, aint, ashift, abool, astr, anil, aun, aconv, aindexAddr, aindex, optInt, aslice, abuiltin, asrc, afill, placeOf, asetAll, undef, aload, apart, AV.cells, AV.one, aeval, updO, upd, initE, gdst, thenQ, blockQ, srcOk, Array.isEmpty, List.isEmpty, bytesV, reduceCtorEq, ↓reduceIte, Nat.reduceLT, Nat.reduceLeDiff, Nat.reduceEqDiff, Nat.reduceAdd, Nat.reduceMul, Nat.reducePow, Nat.reduceSub, Int.reduceLT, Int.reduceLE, Int.reduceToNat, RSch242, Tryd.ntmps42]
  intro o ho o1 ho1
  have hne : ¬ o1 = o := fun e => by rw [if_pos e] at ho1; cases ho1
  have hne' : ¬ o = o1 := fun e => hne e.symm
  rw [if_neg hne] at ho1
  refine hK _ _ ?_
  clear hK K
  refine awp_reg_seq ?_
  intro K hK
  simp only [↓DN, UP, implies_true, forall_eq', ne_eq, if_true, if_false, aval, abin, aint, ashift, abool, astr, anil, aun, aconv, aindexAddr, aindex, optInt, aslice, abuiltin, asrc, afill, placeOf, asetAll, undef, aload, apart, AV.cells, AV.one, aeval, updO, upd, initE, gdst, thenQ, blockQ, srcOk, Array.isEmpty, List.isEmpty, bytesV, reduceCtorEq, ↓reduceIte, Nat.reduceLT, Nat.reduceLeDiff, Nat.reduceEqDiff, Nat.reduceAdd, Nat.reduceMul, Nat.reducePow, Nat.reduceSub, Int.reduceLT, Int.reduceLE, Int.reduceToNat, RSch242, Tryd.ntmps42, hne, hne', bne_self_list]
  refine hK _ _ ?_
  clear hK K
  refine awp_ret ?_
  simp only [retQ, AEnds, aresL, ares, List.toList_toArray, ↓upd_same]; try simp only [↓DN, UP, implies_true, forall_eq', ne_eq, if_true, if_false, aval, abin, aint, ashift, abool, astr, anil, aun, aconv, aindexAddr, aindex, optInt, aslice, abuiltin, asrc, afill, placeOf, asetAll, undef, aload, apart, AV.cells, AV.one, aeval, updO, upd, initE, gdst, thenQ, blockQ, srcOk, Array.isEmpty, List.isEmpty, bytesV, reduceCtorEq, ↓reduceIte, Nat.reduceLT, Nat.reduceLeDiff, Nat.reduceEqDiff, Nat.reduceAdd, Nat.reduceMul, Nat.reducePow, Nat.reduceSub, Int.reduceLT, Int.reduceLE, Int.reduceToNat, RSch242, Tryd.ntmps42, atuple_nil, atuple_one, atuple_two, atuple_three, atuple_four, atuple_five]
  exact ⟨_, s, AV.weak.refl _, AS.le_set (AS.le_set (AS.le.refl s) ho _) ho1 _, rfl, rfl⟩

set_option maxHeartbeats 4000000 in
theorem list_calls (ls : List (List UInt8)) (hl : ls.length = 6) (s : AS) :
    ACalls Tryd.prog Γ 98 [.agg (sixV ls)] s (fun r s' => r = .sl 1 6 (sixV ls) .new ∧ s' = s) := by
  refine acalls_body Tryd.func98 rfl Tryd.ntmps98 Tryd.results98 (by simp) ?_
  obtain ⟨a, b, c, d, e, f, rfl⟩ := six_cases hl
  have e1 : sixV [a, b, c, d, e, f] = [bytesV a .any, bytesV b .any, bytesV c .any, bytesV d .any, bytesV e .any, bytesV f .any] := rfl
  have rep6 : ∀ x : AV, List.replicate 6 x = [x, x, x, x, x, x] := fun _ => rfl
  rw [e1]
  refine awp_reg_seq ?_
  intro K hK
  simp only [↓DN, UP, implies_true, forall_eq', ne_eq, if_true, if_false, aval, abin, aint, ashift, abool, astr, anil, aun, aconv, aindexAddr, aindex, optInt, aslice, abuiltin, asrc, afill, placeOf, asetAll, undef, aload, apart, AV.cells, AV.one, aeval, updO, upd, initE, gdst, thenQ, blockQ, srcOk, Array.isEmpty, List.isEmpty, bytesV, reduceCtorEq, ↓reduceIte, Nat.reduceLT, Nat.reduceLeDiff, Nat.reduceEqDiff, Nat.reduceAdd, Nat.reduceMul, Nat.reducePow, Nat.reduceSub, Int.reduceLT, Int.reduceLE, Int.reduceToNat, RSch298, Tryd.ntmps98]
  intro o ho
  refine hK _ _ ?_
  clear hK K
  refine awp_reg_seq ?_
  intro K hK
  simp only [↓DN, UP, implies_true, forall_eq', ne_eq, if_true, if_false, aval, abin, aint, ashift, abool, astr, anil, aun, aconv, aindexAddr, aindex, optInt, aslice, abuiltin, asrc, afill, placeOf, asetAll, undef, aload, apart, AV.cells, AV.one, aeval, updO, upd, initE, gdst, thenQ, blockQ, srcOk, Array.isEmpty, List.isEmpty, bytesV, reduceCtorEq, ↓reduceIte, Nat.reduceLT, Nat.reduceLeDiff, Nat.reduceEqDiff, Nat.reduceAdd, Nat.reduceMul, Nat.reducePow, Nat.reduceSub, Int.reduceLT, Int.reduceLE, Int.reduceToNat, RSch298, Tryd.ntmps98, rep6]
  refine hK _ _ ?_
  clear hK K
  refine awp_ret ?_
  simp only [retQ, AEnds, aresL, ares, List.toList_toArray, ↓upd_same]; try simp only [↓DN, UP, implies_true, forall_eq', ne_eq, if_true, if_false, aval, abin, aint, ashift, abool, astr, anil, aun, aconv, aindexAddr, aindex, optInt, aslice, abuiltin, asrc, afill, placeOf, asetAll, undef, aload, apart, AV.cells, AV.one, aeval, updO, upd, initE, gdst, thenQ, blockQ, srcOk, Array.isEmpty, List.isEmpty, bytesV, reduceCtorEq, ↓reduceIte, Nat.reduceLT, Nat.reduceLeDiff, Nat.reduceEqDiff, Nat.reduceAdd, Nat.reduceMul, Nat.reducePow, Nat.reduceSub, Int.reduceLT, Int.reduceLE, Int.reduceToNat, RSch298, Tryd.ntmps98, atuple_nil, atuple_one, atuple_two, atuple_three, atuple_four, atuple_five]
  exact ⟨_, s, AV.weak.refl _, AS.le_set (AS.le.refl s) ho _, rfl, rfl⟩

end Go.Proofs.YtpakgjmcaefnmaaDoor


