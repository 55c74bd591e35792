/- Contracts of the program's functions, each walked once; the conditions stand in each theorem. -/
import Derived.Test.YtpakgjmcaefnmaaWire4
set_option linter.unusedSimpArgs false
set_option linter.unusedVariables false
set_option autoImplicit false
namespace Go.Proofs.Ytpakgjmcaefnmaa
open Go Go.AM Go.Proofs

theorem RWire54 : type_of% (And.intro (And.intro (And.intro (And.intro (And.intro (And.intro @Try.underlying3 T.c3) (And.intro T.g3 T.b3)) (And.intro (And.intro T.z3 @Try.underlying4) (And.intro T.c4 (And.intro T.g4 T.b4)))) (And.intro (And.intro (And.intro T.z4 @Try.underlying5) (And.intro T.c5 T.g5)) (And.intro (And.intro T.b5 T.z5) (And.intro @Try.underlying9 (And.intro T.c9 T.g9))))) (And.intro (And.intro (And.intro (And.intro T.b9 T.z9) (And.intro @Try.underlying22 T.c22)) (And.intro (And.intro T.g22 T.b22) (And.intro T.z22 (And.intro T.s22 @Try.underlying29)))) (And.intro (And.intro (And.intro T.c29 T.g29) (And.intro T.b29 (And.intro T.z29 T.s29))) (And.intro (And.intro @Try.underlying31 T.c31) (And.intro T.g31 (And.intro T.b31 T.z31)))))) (And.intro (And.intro (And.intro (And.intro (And.intro T.p31 @Try.underlying34) (And.intro T.c34 T.g34)) (And.intro (And.intro T.b34 T.z34) (And.intro T.h34 (And.intro @Try.underlying37 T.c37)))) (And.intro (And.intro (And.intro T.g37 T.b37) (And.intro T.z37 @Try.underlying128)) (And.intro (And.intro T.c128 T.g128) (And.intro T.b128 (And.intro T.z128 T.h128))))) (And.intro (And.intro (And.intro (And.intro T.f34_0 T.f34_1) (And.intro T.f34_2 T.k24)) (And.intro (And.intro T.k37 T.k36) (And.intro T.k32 (And.intro T.k27 T.k28)))) (And.intro (And.intro (And.intro T.k34 T.k26) (And.intro T.k33 (And.intro T.k31 T.k38))) (And.intro (And.intro T.k30 T.k29) (And.intro T.k25 (And.intro T.k21 T.k35))))))) :=
  (And.intro (And.intro (And.intro (And.intro (And.intro (And.intro @Try.underlying3 T.c3) (And.intro T.g3 T.b3)) (And.intro (And.intro T.z3 @Try.underlying4) (And.intro T.c4 (And.intro T.g4 T.b4)))) (And.intro (And.intro (And.intro T.z4 @Try.underlying5) (And.intro T.c5 T.g5)) (And.intro (And.intro T.b5 T.z5) (And.intro @Try.underlying9 (And.intro T.c9 T.g9))))) (And.intro (And.intro (And.intro (And.intro T.b9 T.z9) (And.intro @Try.underlying22 T.c22)) (And.intro (And.intro T.g22 T.b22) (And.intro T.z22 (And.intro T.s22 @Try.underlying29)))) (And.intro (And.intro (And.intro T.c29 T.g29) (And.intro T.b29 (And.intro T.z29 T.s29))) (And.intro (And.intro @Try.underlying31 T.c31) (And.intro T.g31 (And.intro T.b31 T.z31)))))) (And.intro (And.intro (And.intro (And.intro (And.intro T.p31 @Try.underlying34) (And.intro T.c34 T.g34)) (And.intro (And.intro T.b34 T.z34) (And.intro T.h34 (And.intro @Try.underlying37 T.c37)))) (And.intro (And.intro (And.intro T.g37 T.b37) (And.intro T.z37 @Try.underlying128)) (And.intro (And.intro T.c128 T.g128) (And.intro T.b128 (And.intro T.z128 T.h128))))) (And.intro (And.intro (And.intro (And.intro T.f34_0 T.f34_1) (And.intro T.f34_2 T.k24)) (And.intro (And.intro T.k37 T.k36) (And.intro T.k32 (And.intro T.k27 T.k28)))) (And.intro (And.intro (And.intro T.k34 T.k26) (And.intro T.k33 (And.intro T.k31 T.k38))) (And.intro (And.intro T.k30 T.k29) (And.intro T.k25 (And.intro T.k21 T.k35)))))))

variable {Γ : Nat → List AV}

theorem pen_bad_small (k : Nat) (n : Int) (st : List UInt8 × Bool) (h : st.2 = true) : (penSmall k n st).2 = true := by
  unfold penSmall; split
  · unfold penNum; rw [if_pos h]; exact h
  · rfl
theorem pen_bad_num (k n : Nat) (st : List UInt8 × Bool) (h : st.2 = true) : (penNum k n st).2 = true := by unfold penNum; rw [if_pos h]; exact h
theorem pen_bad_raw (m : List UInt8) (st : List UInt8 × Bool) (h : st.2 = true) : (penRaw m st).2 = true := by unfold penRaw; rw [if_pos h]; exact h
theorem pen_bad_text (k : Nat) (m : List UInt8) (st : List UInt8 × Bool) (h : st.2 = true) : (penText k m st).2 = true := by unfold penText; exact pen_bad_raw _ _ (pen_bad_small _ _ _ h)
theorem penSmall_no {k : Nat} {n : Int} (st : List UInt8 × Bool) (h : ¬ (0 ≤ n ∧ n < 2 ^ (8 * k))) : penSmall k n st = (st.1, true) := by unfold penSmall; exact if_neg h
theorem penText_no {k : Nat} {m : List UInt8} (st : List UInt8 × Bool) (h : ¬ m.length < 2 ^ (8 * k)) : penText k m st = (st.1, true) := by
  unfold penText
  rw [penSmall_no]
  · rfl
  · intro h2
    apply h
    have := h2.2
    have e : (2 : Int) ^ (8 * k) = ((2 ^ (8 * k) : Nat) : Int) := by push_cast; rfl
    rw [e] at this
    omega
theorem uN_nat {n : Nat} (h : n < 2 ^ 62) : uN (n : Int) = n := by unfold uN; rw [u64_conv h]; rfl

set_option maxRecDepth 20000 in
set_option maxHeartbeats 8000000 in
theorem wirePens_calls (ps : List PartV) (hwf : ∀ p ∈ ps, -9223372036854775808 ≤ p.n ∧ p.n ≤ 9223372036854775807) (s : AS) :
    ACalls Try.prog Γ 4 [.sl 3 ps.length (partsC ps) .any] s (fun r s' => r = .v (.bool true)) := by
  refine acalls_body Try.func4 rfl Try.ntmps4 Try.results4 (by simp) ?_
  refine awp_reg_seq ?_
  intro K hK
  simp only [↓DN, UP, implies_true, forall_eq', ne_eq, if_true, if_false, aval, abin, aint, ashift, abool, astr, anil, aun, aconv, aindexAddr, aindex, optInt, aslice, abuiltin, asrc, afill, placeOf, asetAll, undef, aload, apart, AV.cells, AV.one, aeval, updO, upd, initE, gdst, thenQ, blockQ, srcOk, Array.isEmpty, List.isEmpty, bytesV, reduceCtorEq, ↓reduceIte, Nat.reduceLT, Nat.reduceLeDiff, Nat.reduceEqDiff, Nat.reduceAdd, Nat.reduceMul, Nat.reducePow, Nat.reduceSub, Int.reduceLT, Int.reduceLE, Int.reduceToNat, RWire54, Try.ntmps4]
  refine hK _ _ ?_
  clear hK K
  refine awp_seq_k ?_
  intro K hK
  refine awp_reg_seq ?_
  intro K hK
  simp only [↓DN, UP, implies_true, forall_eq', ne_eq, if_true, if_false, aval, abin, aint, ashift, abool, astr, anil, aun, aconv, aindexAddr, aindex, optInt, aslice, abuiltin, asrc, afill, placeOf, asetAll, undef, aload, apart, AV.cells, AV.one, aeval, updO, upd, initE, gdst, thenQ, blockQ, srcOk, Array.isEmpty, List.isEmpty, bytesV, reduceCtorEq, ↓reduceIte, Nat.reduceLT, Nat.reduceLeDiff, Nat.reduceEqDiff, Nat.reduceAdd, Nat.reduceMul, Nat.reducePow, Nat.reduceSub, Int.reduceLT, Int.reduceLE, Int.reduceToNat, RWire54, Try.ntmps4]
  refine acallk (awake01_calls s) ?_
  rintro r s' ⟨rfl, rfl⟩
  simp only [↓AXq_nil, ↓AXq_cons, pval, List.contains_cons, List.contains_nil, Nat.reduceBEq, Bool.or_false, Bool.or_true, Bool.or_self, Bool.false_eq_true, Bool.false_or, ↓DN, UP, implies_true, forall_eq', ne_eq, if_true, if_false, aval, abin, aint, ashift, abool, astr, anil, aun, aconv, aindexAddr, aindex, optInt, aslice, abuiltin, asrc, afill, placeOf, asetAll, undef, aload, apart, AV.cells, AV.one, aeval, updO, upd, initE, gdst, thenQ, blockQ, srcOk, Array.isEmpty, List.isEmpty, bytesV, reduceCtorEq, ↓reduceIte, Nat.reduceLT, Nat.reduceLeDiff, Nat.reduceEqDiff, Nat.reduceAdd, Nat.reduceMul, Nat.reducePow, Nat.reduceSub, Int.reduceLT, Int.reduceLE, Int.reduceToNat, RWire54, Try.ntmps4]
  refine acallk (small01_calls ps s') ?_
  rintro r s' ⟨t, rfl, rfl, ht⟩
  cases t
  · simp only [↓AXq_nil, ↓AXq_cons, pval, List.contains_cons, List.contains_nil, Nat.reduceBEq, Bool.or_false, Bool.or_true, Bool.or_self, Bool.false_eq_true, Bool.false_or, ↓DN, UP, implies_true, forall_eq', ne_eq, if_true, if_false, aval, abin, aint, ashift, abool, astr, anil, aun, aconv, aindexAddr, aindex, optInt, aslice, abuiltin, asrc, afill, placeOf, asetAll, undef, aload, apart, AV.cells, AV.one, aeval, updO, upd, initE, gdst, thenQ, blockQ, srcOk, Array.isEmpty, List.isEmpty, bytesV, reduceCtorEq, ↓reduceIte, Nat.reduceLT, Nat.reduceLeDiff, Nat.reduceEqDiff, Nat.reduceAdd, Nat.reduceMul, Nat.reducePow, Nat.reduceSub, Int.reduceLT, Int.reduceLE, Int.reduceToNat, RWire54, Try.ntmps4]
    refine hK _ _ ?_
    clear hK K
    refine awp_cond_k ?_
    intro X Y hX hY
    simp only [↓DN, UP, implies_true, forall_eq', ne_eq, if_true, if_false, aval, abin, aint, ashift, abool, astr, anil, aun, aconv, aindexAddr, aindex, optInt, aslice, abuiltin, asrc, afill, placeOf, asetAll, undef, aload, apart, AV.cells, AV.one, aeval, updO, upd, initE, gdst, thenQ, blockQ, srcOk, Array.isEmpty, List.isEmpty, bytesV, reduceCtorEq, ↓reduceIte, Nat.reduceLT, Nat.reduceLeDiff, Nat.reduceEqDiff, Nat.reduceAdd, Nat.reduceMul, Nat.reducePow, Nat.reduceSub, Int.reduceLT, Int.reduceLE, Int.reduceToNat, RWire54, Try.ntmps4, Bool.not_true, Bool.not_false, Bool.false_eq_true, Bool.true_eq_false, false_imp_iff, true_imp_iff, decide_eq_true_eq, decide_eq_false_iff_not]
    refine hX ?_
    clear hX hY X Y
    refine awp_reg_seq ?_
    intro K hK
    simp only [↓DN, UP, implies_true, forall_eq', ne_eq, if_true, if_false, aval, abin, aint, ashift, abool, astr, anil, aun, aconv, aindexAddr, aindex, optInt, aslice, abuiltin, asrc, afill, placeOf, asetAll, undef, aload, apart, AV.cells, AV.one, aeval, updO, upd, initE, gdst, thenQ, blockQ, srcOk, Array.isEmpty, List.isEmpty, bytesV, reduceCtorEq, ↓reduceIte, Nat.reduceLT, Nat.reduceLeDiff, Nat.reduceEqDiff, Nat.reduceAdd, Nat.reduceMul, Nat.reducePow, Nat.reduceSub, Int.reduceLT, Int.reduceLE, Int.reduceToNat, RWire54, Try.ntmps4]
    refine acallk (awake01_calls s') ?_
    rintro r s' ⟨rfl, rfl⟩
    simp only [↓AXq_nil, ↓AXq_cons, pval, List.contains_cons, List.contains_nil, Nat.reduceBEq, Bool.or_false, Bool.or_true, Bool.or_self, Bool.false_eq_true, Bool.false_or, ↓DN, UP, implies_true, forall_eq', ne_eq, if_true, if_false, aval, abin, aint, ashift, abool, astr, anil, aun, aconv, aindexAddr, aindex, optInt, aslice, abuiltin, asrc, afill, placeOf, asetAll, undef, aload, apart, AV.cells, AV.one, aeval, updO, upd, initE, gdst, thenQ, blockQ, srcOk, Array.isEmpty, List.isEmpty, bytesV, reduceCtorEq, ↓reduceIte, Nat.reduceLT, Nat.reduceLeDiff, Nat.reduceEqDiff, Nat.reduceAdd, Nat.reduceMul, Nat.reducePow, Nat.reduceSub, Int.reduceLT, Int.reduceLE, Int.reduceToNat, RWire54, Try.ntmps4]
    refine hK _ _ ?_
    clear hK K
    refine awp_ret ?_
    simp only [retQ, AEnds, aresL, ares, List.toList_toArray, ↓upd_same]; try simp only [↓DN, UP, implies_true, forall_eq', ne_eq, if_true, if_false, aval, abin, aint, ashift, abool, astr, anil, aun, aconv, aindexAddr, aindex, optInt, aslice, abuiltin, asrc, afill, placeOf, asetAll, undef, aload, apart, AV.cells, AV.one, aeval, updO, upd, initE, gdst, thenQ, blockQ, srcOk, Array.isEmpty, List.isEmpty, bytesV, reduceCtorEq, ↓reduceIte, Nat.reduceLT, Nat.reduceLeDiff, Nat.reduceEqDiff, Nat.reduceAdd, Nat.reduceMul, Nat.reducePow, Nat.reduceSub, Int.reduceLT, Int.reduceLE, Int.reduceToNat, RWire54, Try.ntmps4, atuple_nil, atuple_one, atuple_two, atuple_three, atuple_four, atuple_five]
    exact ⟨_, _, AV.weak.refl _, AS.le.refl _, rfl⟩
  · obtain ⟨hps, hall⟩ := ht rfl
    simp only [↓AXq_nil, ↓AXq_cons, pval, List.contains_cons, List.contains_nil, Nat.reduceBEq, Bool.or_false, Bool.or_true, Bool.or_self, Bool.false_eq_true, Bool.false_or, ↓DN, UP, implies_true, forall_eq', ne_eq, if_true, if_false, aval, abin, aint, ashift, abool, astr, anil, aun, aconv, aindexAddr, aindex, optInt, aslice, abuiltin, asrc, afill, placeOf, asetAll, undef, aload, apart, AV.cells, AV.one, aeval, updO, upd, initE, gdst, thenQ, blockQ, srcOk, Array.isEmpty, List.isEmpty, bytesV, reduceCtorEq, ↓reduceIte, Nat.reduceLT, Nat.reduceLeDiff, Nat.reduceEqDiff, Nat.reduceAdd, Nat.reduceMul, Nat.reducePow, Nat.reduceSub, Int.reduceLT, Int.reduceLE, Int.reduceToNat, RWire54, Try.ntmps4]
    refine hK _ _ ?_
    clear hK K
    refine awp_cond_k ?_
    intro X Y hX hY
    simp only [↓DN, UP, implies_true, forall_eq', ne_eq, if_true, if_false, aval, abin, aint, ashift, abool, astr, anil, aun, aconv, aindexAddr, aindex, optInt, aslice, abuiltin, asrc, afill, placeOf, asetAll, undef, aload, apart, AV.cells, AV.one, aeval, updO, upd, initE, gdst, thenQ, blockQ, srcOk, Array.isEmpty, List.isEmpty, bytesV, reduceCtorEq, ↓reduceIte, Nat.reduceLT, Nat.reduceLeDiff, Nat.reduceEqDiff, Nat.reduceAdd, Nat.reduceMul, Nat.reducePow, Nat.reduceSub, Int.reduceLT, Int.reduceLE, Int.reduceToNat, RWire54, Try.ntmps4, Bool.not_true, Bool.not_false, Bool.false_eq_true, Bool.true_eq_false, false_imp_iff, true_imp_iff, decide_eq_true_eq, decide_eq_false_iff_not]
    refine hY ?_
    clear hX hY X Y
    refine awp_skip ?_
    refine hK _ _ ?_
    clear hK K
    refine awp_reg_seq ?_
    intro K hK
    simp only [↓DN, UP, implies_true, forall_eq', ne_eq, if_true, if_false, aval, abin, aint, ashift, abool, astr, anil, aun, aconv, aindexAddr, aindex, optInt, aslice, abuiltin, asrc, afill, placeOf, asetAll, undef, aload, apart, AV.cells, AV.one, aeval, updO, upd, initE, gdst, thenQ, blockQ, srcOk, Array.isEmpty, List.isEmpty, bytesV, reduceCtorEq, ↓reduceIte, Nat.reduceLT, Nat.reduceLeDiff, Nat.reduceEqDiff, Nat.reduceAdd, Nat.reduceMul, Nat.reducePow, Nat.reduceSub, Int.reduceLT, Int.reduceLE, Int.reduceToNat, RWire54, Try.ntmps4]
    refine acallk (new_calls s') ?_
    rintro r s1 ⟨p, rfl, q1⟩
    simp only [↓AXq_nil, ↓AXq_cons, pval, List.contains_cons, List.contains_nil, Nat.reduceBEq, Bool.or_false, Bool.or_true, Bool.or_self, Bool.false_eq_true, Bool.false_or, ↓DN, UP, implies_true, forall_eq', ne_eq, if_true, if_false, aval, abin, aint, ashift, abool, astr, anil, aun, aconv, aindexAddr, aindex, optInt, aslice, abuiltin, asrc, afill, placeOf, asetAll, undef, aload, apart, AV.cells, AV.one, aeval, updO, upd, initE, gdst, thenQ, blockQ, srcOk, Array.isEmpty, List.isEmpty, bytesV, reduceCtorEq, ↓reduceIte, Nat.reduceLT, Nat.reduceLeDiff, Nat.reduceEqDiff, Nat.reduceAdd, Nat.reduceMul, Nat.reducePow, Nat.reduceSub, Int.reduceLT, Int.reduceLE, Int.reduceToNat, RWire54, Try.ntmps4]
    refine hK _ _ ?_
    clear hK K
    refine awp_reg_seq ?_
    intro K hK
    simp only [↓DN, UP, implies_true, forall_eq', ne_eq, if_true, if_false, aval, abin, aint, ashift, abool, astr, anil, aun, aconv, aindexAddr, aindex, optInt, aslice, abuiltin, asrc, afill, placeOf, asetAll, undef, aload, apart, AV.cells, AV.one, aeval, updO, upd, initE, gdst, thenQ, blockQ, srcOk, Array.isEmpty, List.isEmpty, bytesV, reduceCtorEq, ↓reduceIte, Nat.reduceLT, Nat.reduceLeDiff, Nat.reduceEqDiff, Nat.reduceAdd, Nat.reduceMul, Nat.reducePow, Nat.reduceSub, Int.reduceLT, Int.reduceLE, Int.reduceToNat, RWire54, Try.ntmps4]
    refine hK _ _ ?_
    clear hK K
    refine awp_seq_k ?_
    intro K hK
    refine awp_reg_seq ?_
    intro K hK
    simp only [↓DN, UP, implies_true, forall_eq', ne_eq, if_true, if_false, aval, abin, aint, ashift, abool, astr, anil, aun, aconv, aindexAddr, aindex, optInt, aslice, abuiltin, asrc, afill, placeOf, asetAll, undef, aload, apart, AV.cells, AV.one, aeval, updO, upd, initE, gdst, thenQ, blockQ, srcOk, Array.isEmpty, List.isEmpty, bytesV, reduceCtorEq, ↓reduceIte, Nat.reduceLT, Nat.reduceLeDiff, Nat.reduceEqDiff, Nat.reduceAdd, Nat.reduceMul, Nat.reducePow, Nat.reduceSub, Int.reduceLT, Int.reduceLE, Int.reduceToNat, RWire54, Try.ntmps4]
    refine hK _ _ ?_
    clear hK K
    refine awp_block ?_
    refine awp_loop (fun E s2 => ∃ (i : Nat) (W : List UInt8) (ok : Bool) (st : List UInt8 × Bool), i ≤ ps.length ∧ E 6 = .v (.int .i64 i) ∧ E 0 = .sl 3 ps.length (partsC ps) .any ∧ E 3 = .ptr p 0 ∧ E 4 = .v (.string ⟨W.toArray⟩) ∧ E 5 = .v (.bool ok) ∧ st.2 = !ok ∧ (ok = true → W = st.1) ∧ W.length ≤ i * 720 ∧ st.1.length ≤ i * 720 ∧ PenS s' s2 p st)
      (fun E _ => match E 6 with | .v (.int _ i) => ps.length - i.toNat | _ => 0) ?_ ?_
    · exact ⟨0, [], true, ([], false), Nat.zero_le _, by simp [upd], by simp [upd, initE], by simp [upd], by simp [upd], by simp [upd], rfl, fun _ => rfl, by simp, by simp, q1⟩
    · rintro E1 s2 ⟨i, W, ok, st, hi, h6, h00, h3, h4, h5, hst, hW, hWl, hsl, hp⟩ -
      refine awp_seq_k ?_
      intro K2 hK2
      by_cases hi' : i < ps.length
      · refine awp_reg_seq ?_
        intro K hK
        simp only [↓DN, UP, implies_true, forall_eq', ne_eq, if_true, if_false, aval, abin, aint, ashift, abool, astr, anil, aun, aconv, aindexAddr, aindex, optInt, aslice, abuiltin, asrc, afill, placeOf, asetAll, undef, aload, apart, AV.cells, AV.one, aeval, updO, upd, initE, gdst, thenQ, blockQ, srcOk, Array.isEmpty, List.isEmpty, bytesV, reduceCtorEq, ↓reduceIte, Nat.reduceLT, Nat.reduceLeDiff, Nat.reduceEqDiff, Nat.reduceAdd, Nat.reduceMul, Nat.reducePow, Nat.reduceSub, Int.reduceLT, Int.reduceLE, Int.reduceToNat, RWire54, Try.ntmps4, h6, h00, eye_lt_nat, decide_eq_true hi']
        refine hK _ _ ?_
        clear hK K
        refine awp_cond_k ?_
        intro X Y hX hY
        simp only [↓DN, UP, implies_true, forall_eq', ne_eq, if_true, if_false, aval, abin, aint, ashift, abool, astr, anil, aun, aconv, aindexAddr, aindex, optInt, aslice, abuiltin, asrc, afill, placeOf, asetAll, undef, aload, apart, AV.cells, AV.one, aeval, updO, upd, initE, gdst, thenQ, blockQ, srcOk, Array.isEmpty, List.isEmpty, bytesV, reduceCtorEq, ↓reduceIte, Nat.reduceLT, Nat.reduceLeDiff, Nat.reduceEqDiff, Nat.reduceAdd, Nat.reduceMul, Nat.reducePow, Nat.reduceSub, Int.reduceLT, Int.reduceLE, Int.reduceToNat, RWire54, Try.ntmps4, Bool.not_true, Bool.not_false, Bool.false_eq_true, Bool.true_eq_false, false_imp_iff, true_imp_iff, decide_eq_true_eq, decide_eq_false_iff_not]
        refine hX ?_
        clear hX hY X Y
        refine awp_skip ?_
        refine hK2 _ _ ?_
        clear hK2 K2
        refine awp_seq_k ?_
        intro K3 hK3
        refine awp_block ?_
        have hge : (0 : Int) ≤ (i : Int) := by omega
        have hat := parts_at hi'
        have hb : ps[i].b.length ≤ 700 := hall _ (List.getElem_mem hi')
        have hnb : -9223372036854775808 ≤ ps[i].n ∧ ps[i].n ≤ 9223372036854775807 := hwf _ (List.getElem_mem hi')
        generalize ps[i].b = b at *
        generalize ps[i].n = n at *
        generalize ps[i].kind = kk at *
        have hnext : ∀ (E2 : Env) (s3 : AS) (W2 : List UInt8) (ok2 : Bool) (st2 : List UInt8 × Bool), E2 6 = .v (.int .i64 i) → E2 0 = .sl 3 ps.length (partsC ps) .any → E2 3 = .ptr p 0 → E2 4 = .v (.string ⟨W2.toArray⟩) → E2 5 = .v (.bool ok2) →
            st2.2 = !ok2 → (ok2 = true → W2 = st2.1) → W2.length ≤ (i + 1) * 720 → st2.1.length ≤ (i + 1) * 720 → PenS s' s3 p st2 → K3 E2 s3 := by
          intro E2 s3 W2 ok2 st2 g6 g0 g3 g4 g5 g7 g8 g9 g10 g11
          refine hK3 _ _ ?_
          clear hK3 K3
          refine awp_reg_end ?_
          intro K hK
          simp only [↓DN, UP, implies_true, forall_eq', ne_eq, if_true, if_false, aval, abin, aint, ashift, abool, astr, anil, aun, aconv, aindexAddr, aindex, optInt, aslice, abuiltin, asrc, afill, placeOf, asetAll, undef, aload, apart, AV.cells, AV.one, aeval, updO, upd, initE, gdst, thenQ, blockQ, srcOk, Array.isEmpty, List.isEmpty, bytesV, reduceCtorEq, ↓reduceIte, Nat.reduceLT, Nat.reduceLeDiff, Nat.reduceEqDiff, Nat.reduceAdd, Nat.reduceMul, Nat.reducePow, Nat.reduceSub, Int.reduceLT, Int.reduceLE, Int.reduceToNat, RWire54, Try.ntmps4, g6, eye_succ i (by omega)]
          refine hK _ _ ?_
          clear hK K
          refine ⟨⟨i + 1, W2, ok2, st2, by omega, by simp only [upd, ↓reduceIte], by simp only [upd, g0, Nat.reduceEqDiff, ↓reduceIte], by simp only [upd, g3, Nat.reduceEqDiff, ↓reduceIte], by simp only [upd, g4, Nat.reduceEqDiff, ↓reduceIte], by simp only [upd, g5, Nat.reduceEqDiff, ↓reduceIte], g7, g8, g9, g10, g11⟩, ?_⟩
          simp only [h6, upd, ↓reduceIte]
          omega
        clear hK3
        refine awp_reg_seq ?_
        intro K hK
        simp only [↓DN, UP, implies_true, forall_eq', ne_eq, if_true, if_false, aval, abin, aint, ashift, abool, astr, anil, aun, aconv, aindexAddr, aindex, optInt, aslice, abuiltin, asrc, afill, placeOf, asetAll, undef, aload, apart, AV.cells, AV.one, aeval, updO, upd, initE, gdst, thenQ, blockQ, srcOk, Array.isEmpty, List.isEmpty, bytesV, reduceCtorEq, ↓reduceIte, Nat.reduceLT, Nat.reduceLeDiff, Nat.reduceEqDiff, Nat.reduceAdd, Nat.reduceMul, Nat.reducePow, Nat.reduceSub, Int.reduceLT, Int.reduceLE, Int.reduceToNat, RWire54, Try.ntmps4, h6, h00, hge, eye_lt_nat, hi', hat]
        refine acallk (rest_calls kk 7 (by omega) (by omega) s2) ?_
        rintro r s3 ⟨k, rfl, hk7, rfl⟩
        simp only [↓AXq_nil, ↓AXq_cons, pval, List.contains_cons, List.contains_nil, Nat.reduceBEq, Bool.or_false, Bool.or_true, Bool.or_self, Bool.false_eq_true, Bool.false_or, ↓DN, UP, implies_true, forall_eq', ne_eq, if_true, if_false, aval, abin, aint, ashift, abool, astr, anil, aun, aconv, aindexAddr, aindex, optInt, aslice, abuiltin, asrc, afill, placeOf, asetAll, undef, aload, apart, AV.cells, AV.one, aeval, updO, upd, initE, gdst, thenQ, blockQ, srcOk, Array.isEmpty, List.isEmpty, bytesV, reduceCtorEq, ↓reduceIte, Nat.reduceLT, Nat.reduceLeDiff, Nat.reduceEqDiff, Nat.reduceAdd, Nat.reduceMul, Nat.reducePow, Nat.reduceSub, Int.reduceLT, Int.reduceLE, Int.reduceToNat, RWire54, Try.ntmps4]
        refine hK _ _ ?_
        clear hK K
        refine awp_seq_k ?_
        intro K4 hK4
        rcases (show k = 0 ∨ k = 1 ∨ k = 2 ∨ k = 3 ∨ k = 4 ∨ k = 5 ∨ k = 6 by omega) with rfl | rfl | rfl | rfl | rfl | rfl | rfl
        · have hrest : ∀ (E2 : Env) (s4 : AS), E2 0 = .sl 3 ps.length (partsC ps) .any → E2 3 = .ptr p 0 → E2 4 = .v (.string ⟨W.toArray⟩) → E2 5 = .v (.bool ok) → E2 6 = .v (.int .i64 i) → E2 7 = .v (.int .i64 0) → PenS s' s4 p (penSmall 1 n st) → K4 E2 s4 := by
            intro E2 s4 g0 g3 g4 g5 g6 g7 g8
            refine hK4 _ _ ?_
            clear hK4 K4
            cases ok
            · have hbad : st.2 = true := by simpa using hst
              have hbad2 : (penSmall 1 n st).2 = true := pen_bad_small _ _ _ hbad
              have hlen2 := penSmall_len 1 n st
              refine awp_seq_k ?_
              intro K5 hK5
              refine awp_reg_seq ?_
              intro K hK
              simp only [↓DN, UP, implies_true, forall_eq', ne_eq, if_true, if_false, aval, abin, aint, ashift, abool, astr, anil, aun, aconv, aindexAddr, aindex, optInt, aslice, abuiltin, asrc, afill, placeOf, asetAll, undef, aload, apart, AV.cells, AV.one, aeval, updO, upd, initE, gdst, thenQ, blockQ, srcOk, Array.isEmpty, List.isEmpty, bytesV, reduceCtorEq, ↓reduceIte, Nat.reduceLT, Nat.reduceLeDiff, Nat.reduceEqDiff, Nat.reduceAdd, Nat.reduceMul, Nat.reducePow, Nat.reduceSub, Int.reduceLT, Int.reduceLE, Int.reduceToNat, RWire54, Try.ntmps4, g0, g3, g4, g5, g6, g7, hge, eye_lt_nat, hi', hat, Int.reduceBEq]
              refine hK _ _ ?_
              clear hK K
              refine awp_cond_k ?_
              intro X Y hX hY
              simp only [↓DN, UP, implies_true, forall_eq', ne_eq, if_true, if_false, aval, abin, aint, ashift, abool, astr, anil, aun, aconv, aindexAddr, aindex, optInt, aslice, abuiltin, asrc, afill, placeOf, asetAll, undef, aload, apart, AV.cells, AV.one, aeval, updO, upd, initE, gdst, thenQ, blockQ, srcOk, Array.isEmpty, List.isEmpty, bytesV, reduceCtorEq, ↓reduceIte, Nat.reduceLT, Nat.reduceLeDiff, Nat.reduceEqDiff, Nat.reduceAdd, Nat.reduceMul, Nat.reducePow, Nat.reduceSub, Int.reduceLT, Int.reduceLE, Int.reduceToNat, RWire54, Try.ntmps4, Bool.not_true, Bool.not_false, Bool.false_eq_true, Bool.true_eq_false, false_imp_iff, true_imp_iff, decide_eq_true_eq, decide_eq_false_iff_not]
              refine hX ?_
              clear hX hY X Y
              refine awp_drw_end T.mixed [8, 9] (by kernel_rfl) ?_
              intro K hK
              simp only [↓AXq_nil, ↓AXq_cons, pval, List.contains_cons, List.contains_nil, Nat.reduceBEq, Bool.or_false, Bool.or_true, Bool.or_self, Bool.false_eq_true, Bool.false_or, ↓DN, UP, implies_true, forall_eq', ne_eq, if_true, if_false, aval, abin, aint, ashift, abool, astr, anil, aun, aconv, aindexAddr, aindex, optInt, aslice, abuiltin, asrc, afill, placeOf, asetAll, undef, aload, apart, AV.cells, AV.one, aeval, updO, upd, initE, gdst, thenQ, blockQ, srcOk, Array.isEmpty, List.isEmpty, bytesV, reduceCtorEq, ↓reduceIte, Nat.reduceLT, Nat.reduceLeDiff, Nat.reduceEqDiff, Nat.reduceAdd, Nat.reduceMul, Nat.reducePow, Nat.reduceSub, Int.reduceLT, Int.reduceLE, Int.reduceToNat, RWire54, Try.ntmps4, g0, g3, g4, g5, g6, g7, hge, eye_lt_nat, hi', hat, Int.reduceBEq]
              refine hK _ _ ?_
              clear hK K
              simp only [blockQ, thenQ, if_true, if_false]
              refine hK5 _ _ ?_
              clear hK5 K5
              refine awp_seq_k ?_
              intro K5 hK5
              refine awp_reg_seq ?_
              intro K hK
              simp only [↓DN, UP, implies_true, forall_eq', ne_eq, if_true, if_false, aval, abin, aint, ashift, abool, astr, anil, aun, aconv, aindexAddr, aindex, optInt, aslice, abuiltin, asrc, afill, placeOf, asetAll, undef, aload, apart, AV.cells, AV.one, aeval, updO, upd, initE, gdst, thenQ, blockQ, srcOk, Array.isEmpty, List.isEmpty, bytesV, reduceCtorEq, ↓reduceIte, Nat.reduceLT, Nat.reduceLeDiff, Nat.reduceEqDiff, Nat.reduceAdd, Nat.reduceMul, Nat.reducePow, Nat.reduceSub, Int.reduceLT, Int.reduceLE, Int.reduceToNat, RWire54, Try.ntmps4, g0, g3, g4, g5, g6, g7, hge, eye_lt_nat, hi', hat, Int.reduceBEq]
              refine hK _ _ ?_
              clear hK K
              refine awp_cond_k ?_
              intro X Y hX hY
              simp only [↓DN, UP, implies_true, forall_eq', ne_eq, if_true, if_false, aval, abin, aint, ashift, abool, astr, anil, aun, aconv, aindexAddr, aindex, optInt, aslice, abuiltin, asrc, afill, placeOf, asetAll, undef, aload, apart, AV.cells, AV.one, aeval, updO, upd, initE, gdst, thenQ, blockQ, srcOk, Array.isEmpty, List.isEmpty, bytesV, reduceCtorEq, ↓reduceIte, Nat.reduceLT, Nat.reduceLeDiff, Nat.reduceEqDiff, Nat.reduceAdd, Nat.reduceMul, Nat.reducePow, Nat.reduceSub, Int.reduceLT, Int.reduceLE, Int.reduceToNat, RWire54, Try.ntmps4, Bool.not_true, Bool.not_false, Bool.false_eq_true, Bool.true_eq_false, false_imp_iff, true_imp_iff, decide_eq_true_eq, decide_eq_false_iff_not]
              refine hY ?_
              clear hX hY X Y
              refine awp_skip ?_
              refine hK5 _ _ ?_
              clear hK5 K5
              refine awp_seq_k ?_
              intro K5 hK5
              refine awp_reg_seq ?_
              intro K hK
              simp only [↓DN, UP, implies_true, forall_eq', ne_eq, if_true, if_false, aval, abin, aint, ashift, abool, astr, anil, aun, aconv, aindexAddr, aindex, optInt, aslice, abuiltin, asrc, afill, placeOf, asetAll, undef, aload, apart, AV.cells, AV.one, aeval, updO, upd, initE, gdst, thenQ, blockQ, srcOk, Array.isEmpty, List.isEmpty, bytesV, reduceCtorEq, ↓reduceIte, Nat.reduceLT, Nat.reduceLeDiff, Nat.reduceEqDiff, Nat.reduceAdd, Nat.reduceMul, Nat.reducePow, Nat.reduceSub, Int.reduceLT, Int.reduceLE, Int.reduceToNat, RWire54, Try.ntmps4, g0, g3, g4, g5, g6, g7, hge, eye_lt_nat, hi', hat, Int.reduceBEq]
              refine hK _ _ ?_
              clear hK K
              refine awp_cond_k ?_
              intro X Y hX hY
              simp only [↓DN, UP, implies_true, forall_eq', ne_eq, if_true, if_false, aval, abin, aint, ashift, abool, astr, anil, aun, aconv, aindexAddr, aindex, optInt, aslice, abuiltin, asrc, afill, placeOf, asetAll, undef, aload, apart, AV.cells, AV.one, aeval, updO, upd, initE, gdst, thenQ, blockQ, srcOk, Array.isEmpty, List.isEmpty, bytesV, reduceCtorEq, ↓reduceIte, Nat.reduceLT, Nat.reduceLeDiff, Nat.reduceEqDiff, Nat.reduceAdd, Nat.reduceMul, Nat.reducePow, Nat.reduceSub, Int.reduceLT, Int.reduceLE, Int.reduceToNat, RWire54, Try.ntmps4, Bool.not_true, Bool.not_false, Bool.false_eq_true, Bool.true_eq_false, false_imp_iff, true_imp_iff, decide_eq_true_eq, decide_eq_false_iff_not]
              refine hX ?_
              clear hX hY X Y
              refine awp_exit ?_
              simp only [blockQ, thenQ, if_true, if_false]
              exact hnext _ _ (W) false (penSmall 1 n st) (by simp only [upd, g6, Nat.reduceEqDiff, ↓reduceIte]) (by simp only [upd, g0, Nat.reduceEqDiff, ↓reduceIte]) (by simp only [upd, g3, Nat.reduceEqDiff, ↓reduceIte]) (by simp only [upd, g4, Nat.reduceEqDiff, ↓reduceIte]) (by simp only [upd, g5, Nat.reduceEqDiff, ↓reduceIte]) hbad2 (fun h => by cases h) (by omega) (by omega) g8
            · obtain ⟨st1, st2⟩ := st
              simp only [Bool.not_true] at hst
              have hW1 := hW rfl
              simp only at hW1
              subst hst
              subst hW1
              refine awp_seq_k ?_
              intro K5 hK5
              refine awp_reg_seq ?_
              intro K hK
              simp only [↓DN, UP, implies_true, forall_eq', ne_eq, if_true, if_false, aval, abin, aint, ashift, abool, astr, anil, aun, aconv, aindexAddr, aindex, optInt, aslice, abuiltin, asrc, afill, placeOf, asetAll, undef, aload, apart, AV.cells, AV.one, aeval, updO, upd, initE, gdst, thenQ, blockQ, srcOk, Array.isEmpty, List.isEmpty, bytesV, reduceCtorEq, ↓reduceIte, Nat.reduceLT, Nat.reduceLeDiff, Nat.reduceEqDiff, Nat.reduceAdd, Nat.reduceMul, Nat.reducePow, Nat.reduceSub, Int.reduceLT, Int.reduceLE, Int.reduceToNat, RWire54, Try.ntmps4, g0, g3, g4, g5, g6, g7, hge, eye_lt_nat, hi', hat, Int.reduceBEq]
              refine hK _ _ ?_
              clear hK K
              refine awp_cond_k ?_
              intro X Y hX hY
              simp only [↓DN, UP, implies_true, forall_eq', ne_eq, if_true, if_false, aval, abin, aint, ashift, abool, astr, anil, aun, aconv, aindexAddr, aindex, optInt, aslice, abuiltin, asrc, afill, placeOf, asetAll, undef, aload, apart, AV.cells, AV.one, aeval, updO, upd, initE, gdst, thenQ, blockQ, srcOk, Array.isEmpty, List.isEmpty, bytesV, reduceCtorEq, ↓reduceIte, Nat.reduceLT, Nat.reduceLeDiff, Nat.reduceEqDiff, Nat.reduceAdd, Nat.reduceMul, Nat.reducePow, Nat.reduceSub, Int.reduceLT, Int.reduceLE, Int.reduceToNat, RWire54, Try.ntmps4, Bool.not_true, Bool.not_false, Bool.false_eq_true, Bool.true_eq_false, false_imp_iff, true_imp_iff, decide_eq_true_eq, decide_eq_false_iff_not]
              refine hX ?_
              clear hX hY X Y
              refine awp_drw_end T.mixed [8, 9] (by kernel_rfl) ?_
              intro K hK
              simp only [↓AXq_nil, ↓AXq_cons, pval, List.contains_cons, List.contains_nil, Nat.reduceBEq, Bool.or_false, Bool.or_true, Bool.or_self, Bool.false_eq_true, Bool.false_or, ↓DN, UP, implies_true, forall_eq', ne_eq, if_true, if_false, aval, abin, aint, ashift, abool, astr, anil, aun, aconv, aindexAddr, aindex, optInt, aslice, abuiltin, asrc, afill, placeOf, asetAll, undef, aload, apart, AV.cells, AV.one, aeval, updO, upd, initE, gdst, thenQ, blockQ, srcOk, Array.isEmpty, List.isEmpty, bytesV, reduceCtorEq, ↓reduceIte, Nat.reduceLT, Nat.reduceLeDiff, Nat.reduceEqDiff, Nat.reduceAdd, Nat.reduceMul, Nat.reducePow, Nat.reduceSub, Int.reduceLT, Int.reduceLE, Int.reduceToNat, RWire54, Try.ntmps4, g0, g3, g4, g5, g6, g7, hge, eye_lt_nat, hi', hat, Int.reduceBEq]
              refine acallk (size01_calls 0 1 (by simp) _) ?_
              rintro r s5 ⟨rfl, rfl⟩
              simp only [↓AXq_nil, ↓AXq_cons, pval, List.contains_cons, List.contains_nil, Nat.reduceBEq, Bool.or_false, Bool.or_true, Bool.or_self, Bool.false_eq_true, Bool.false_or, ↓DN, UP, implies_true, forall_eq', ne_eq, if_true, if_false, aval, abin, aint, ashift, abool, astr, anil, aun, aconv, aindexAddr, aindex, optInt, aslice, abuiltin, asrc, afill, placeOf, asetAll, undef, aload, apart, AV.cells, AV.one, aeval, updO, upd, initE, gdst, thenQ, blockQ, srcOk, Array.isEmpty, List.isEmpty, bytesV, reduceCtorEq, ↓reduceIte, Nat.reduceLT, Nat.reduceLeDiff, Nat.reduceEqDiff, Nat.reduceAdd, Nat.reduceMul, Nat.reducePow, Nat.reduceSub, Int.reduceLT, Int.reduceLE, Int.reduceToNat, RWire54, Try.ntmps4, g0, g3, g4, g5, g6, g7, hge, eye_lt_nat, hi', hat, Int.reduceBEq]
              refine acallk (fits_calls n 255 1 (by simp) _) ?_
              rintro r s6 ⟨rfl, rfl⟩
              by_cases hf : 0 ≤ n ∧ n ≤ 255
              · rw [decide_eq_true hf.1, decide_eq_true hf.2]
                simp only [↓AXq_nil, ↓AXq_cons, pval, List.contains_cons, List.contains_nil, Nat.reduceBEq, Bool.or_false, Bool.or_true, Bool.or_self, Bool.false_eq_true, Bool.false_or, ↓DN, UP, implies_true, forall_eq', ne_eq, if_true, if_false, aval, abin, aint, ashift, abool, astr, anil, aun, aconv, aindexAddr, aindex, optInt, aslice, abuiltin, asrc, afill, placeOf, asetAll, undef, aload, apart, AV.cells, AV.one, aeval, updO, upd, initE, gdst, thenQ, blockQ, srcOk, Array.isEmpty, List.isEmpty, bytesV, reduceCtorEq, ↓reduceIte, Nat.reduceLT, Nat.reduceLeDiff, Nat.reduceEqDiff, Nat.reduceAdd, Nat.reduceMul, Nat.reducePow, Nat.reduceSub, Int.reduceLT, Int.reduceLE, Int.reduceToNat, RWire54, Try.ntmps4, g0, g3, g4, g5, g6, g7, hge, eye_lt_nat, hi', hat, Int.reduceBEq]
                refine hK _ _ ?_
                clear hK K
                simp only [blockQ, thenQ, if_true, if_false]
                refine hK5 _ _ ?_
                clear hK5 K5
                obtain ⟨n, rfl⟩ := Int.eq_ofNat_of_zero_le hf.1
                have hu := u64_conv (show n < 2 ^ 62 by omega)
                rw [penSmall_nat (by omega)] at g8
                refine awp_seq_k ?_
                intro K5 hK5
                refine awp_reg_seq ?_
                intro K hK
                simp only [↓DN, UP, implies_true, forall_eq', ne_eq, if_true, if_false, aval, abin, aint, ashift, abool, astr, anil, aun, aconv, aindexAddr, aindex, optInt, aslice, abuiltin, asrc, afill, placeOf, asetAll, undef, aload, apart, AV.cells, AV.one, aeval, updO, upd, initE, gdst, thenQ, blockQ, srcOk, Array.isEmpty, List.isEmpty, bytesV, reduceCtorEq, ↓reduceIte, Nat.reduceLT, Nat.reduceLeDiff, Nat.reduceEqDiff, Nat.reduceAdd, Nat.reduceMul, Nat.reducePow, Nat.reduceSub, Int.reduceLT, Int.reduceLE, Int.reduceToNat, RWire54, Try.ntmps4, g0, g3, g4, g5, g6, g7, hge, eye_lt_nat, hi', hat, Int.reduceBEq]
                refine hK _ _ ?_
                clear hK K
                refine awp_cond_k ?_
                intro X Y hX hY
                simp only [↓DN, UP, implies_true, forall_eq', ne_eq, if_true, if_false, aval, abin, aint, ashift, abool, astr, anil, aun, aconv, aindexAddr, aindex, optInt, aslice, abuiltin, asrc, afill, placeOf, asetAll, undef, aload, apart, AV.cells, AV.one, aeval, updO, upd, initE, gdst, thenQ, blockQ, srcOk, Array.isEmpty, List.isEmpty, bytesV, reduceCtorEq, ↓reduceIte, Nat.reduceLT, Nat.reduceLeDiff, Nat.reduceEqDiff, Nat.reduceAdd, Nat.reduceMul, Nat.reducePow, Nat.reduceSub, Int.reduceLT, Int.reduceLE, Int.reduceToNat, RWire54, Try.ntmps4, Bool.not_true, Bool.not_false, Bool.false_eq_true, Bool.true_eq_false, false_imp_iff, true_imp_iff, decide_eq_true_eq, decide_eq_false_iff_not]
                refine hY ?_
                clear hX hY X Y
                refine awp_skip ?_
                refine hK5 _ _ ?_
                clear hK5 K5
                refine awp_seq_k ?_
                intro K5 hK5
                refine awp_reg_seq ?_
                intro K hK
                simp only [↓DN, UP, implies_true, forall_eq', ne_eq, if_true, if_false, aval, abin, aint, ashift, abool, astr, anil, aun, aconv, aindexAddr, aindex, optInt, aslice, abuiltin, asrc, afill, placeOf, asetAll, undef, aload, apart, AV.cells, AV.one, aeval, updO, upd, initE, gdst, thenQ, blockQ, srcOk, Array.isEmpty, List.isEmpty, bytesV, reduceCtorEq, ↓reduceIte, Nat.reduceLT, Nat.reduceLeDiff, Nat.reduceEqDiff, Nat.reduceAdd, Nat.reduceMul, Nat.reducePow, Nat.reduceSub, Int.reduceLT, Int.reduceLE, Int.reduceToNat, RWire54, Try.ntmps4, g0, g3, g4, g5, g6, g7, hge, eye_lt_nat, hi', hat, Int.reduceBEq]
                refine hK _ _ ?_
                clear hK K
                refine awp_cond_k ?_
                intro X Y hX hY
                simp only [↓DN, UP, implies_true, forall_eq', ne_eq, if_true, if_false, aval, abin, aint, ashift, abool, astr, anil, aun, aconv, aindexAddr, aindex, optInt, aslice, abuiltin, asrc, afill, placeOf, asetAll, undef, aload, apart, AV.cells, AV.one, aeval, updO, upd, initE, gdst, thenQ, blockQ, srcOk, Array.isEmpty, List.isEmpty, bytesV, reduceCtorEq, ↓reduceIte, Nat.reduceLT, Nat.reduceLeDiff, Nat.reduceEqDiff, Nat.reduceAdd, Nat.reduceMul, Nat.reducePow, Nat.reduceSub, Int.reduceLT, Int.reduceLE, Int.reduceToNat, RWire54, Try.ntmps4, Bool.not_true, Bool.not_false, Bool.false_eq_true, Bool.true_eq_false, false_imp_iff, true_imp_iff, decide_eq_true_eq, decide_eq_false_iff_not]
                refine hY ?_
                clear hX hY X Y
                refine awp_skip ?_
                refine hK5 _ _ ?_
                clear hK5 K5
                refine awp_reg_seq ?_
                intro K hK
                simp only [↓DN, UP, implies_true, forall_eq', ne_eq, if_true, if_false, aval, abin, aint, ashift, abool, astr, anil, aun, aconv, aindexAddr, aindex, optInt, aslice, abuiltin, asrc, afill, placeOf, asetAll, undef, aload, apart, AV.cells, AV.one, aeval, updO, upd, initE, gdst, thenQ, blockQ, srcOk, Array.isEmpty, List.isEmpty, bytesV, reduceCtorEq, ↓reduceIte, Nat.reduceLT, Nat.reduceLeDiff, Nat.reduceEqDiff, Nat.reduceAdd, Nat.reduceMul, Nat.reducePow, Nat.reduceSub, Int.reduceLT, Int.reduceLE, Int.reduceToNat, RWire54, Try.ntmps4, g0, g3, g4, g5, g6, g7, hge, eye_lt_nat, hi', hat, Int.reduceBEq]
                refine hK _ _ ?_
                clear hK K
                refine awp_cond_k ?_
                intro X Y hX hY
                simp only [↓DN, UP, implies_true, forall_eq', ne_eq, if_true, if_false, aval, abin, aint, ashift, abool, astr, anil, aun, aconv, aindexAddr, aindex, optInt, aslice, abuiltin, asrc, afill, placeOf, asetAll, undef, aload, apart, AV.cells, AV.one, aeval, updO, upd, initE, gdst, thenQ, blockQ, srcOk, Array.isEmpty, List.isEmpty, bytesV, reduceCtorEq, ↓reduceIte, Nat.reduceLT, Nat.reduceLeDiff, Nat.reduceEqDiff, Nat.reduceAdd, Nat.reduceMul, Nat.reducePow, Nat.reduceSub, Int.reduceLT, Int.reduceLE, Int.reduceToNat, RWire54, Try.ntmps4, Bool.not_true, Bool.not_false, Bool.false_eq_true, Bool.true_eq_false, false_imp_iff, true_imp_iff, decide_eq_true_eq, decide_eq_false_iff_not]
                refine hX ?_
                clear hX hY X Y
                refine awp_drw_end T.mixed [8, 9] (by kernel_rfl) ?_
                intro K hK
                simp only [↓AXq_nil, ↓AXq_cons, pval, List.contains_cons, List.contains_nil, Nat.reduceBEq, Bool.or_false, Bool.or_true, Bool.or_self, Bool.false_eq_true, Bool.false_or, ↓DN, UP, implies_true, forall_eq', ne_eq, if_true, if_false, aval, abin, aint, ashift, abool, astr, anil, aun, aconv, aindexAddr, aindex, optInt, aslice, abuiltin, asrc, afill, placeOf, asetAll, undef, aload, apart, AV.cells, AV.one, aeval, updO, upd, initE, gdst, thenQ, blockQ, srcOk, Array.isEmpty, List.isEmpty, bytesV, reduceCtorEq, ↓reduceIte, Nat.reduceLT, Nat.reduceLeDiff, Nat.reduceEqDiff, Nat.reduceAdd, Nat.reduceMul, Nat.reducePow, Nat.reduceSub, Int.reduceLT, Int.reduceLE, Int.reduceToNat, RWire54, Try.ntmps4, g0, g3, g4, g5, g6, g7, hge, eye_lt_nat, hi', hat, Int.reduceBEq, hu]
                refine acallk (size01_calls 0 1 (by simp) _) ?_
                rintro r s7 ⟨rfl, rfl⟩
                simp only [↓AXq_nil, ↓AXq_cons, pval, List.contains_cons, List.contains_nil, Nat.reduceBEq, Bool.or_false, Bool.or_true, Bool.or_self, Bool.false_eq_true, Bool.false_or, ↓DN, UP, implies_true, forall_eq', ne_eq, if_true, if_false, aval, abin, aint, ashift, abool, astr, anil, aun, aconv, aindexAddr, aindex, optInt, aslice, abuiltin, asrc, afill, placeOf, asetAll, undef, aload, apart, AV.cells, AV.one, aeval, updO, upd, initE, gdst, thenQ, blockQ, srcOk, Array.isEmpty, List.isEmpty, bytesV, reduceCtorEq, ↓reduceIte, Nat.reduceLT, Nat.reduceLeDiff, Nat.reduceEqDiff, Nat.reduceAdd, Nat.reduceMul, Nat.reducePow, Nat.reduceSub, Int.reduceLT, Int.reduceLE, Int.reduceToNat, RWire54, Try.ntmps4, g0, g3, g4, g5, g6, g7, hge, eye_lt_nat, hi', hat, Int.reduceBEq]
                refine acallk (refNumber_calls n 1 (by omega) (by omega) _) ?_
                rintro r s8 ⟨rfl, rfl⟩
                simp only [↓AXq_nil, ↓AXq_cons, pval, List.contains_cons, List.contains_nil, Nat.reduceBEq, Bool.or_false, Bool.or_true, Bool.or_self, Bool.false_eq_true, Bool.false_or, ↓DN, UP, implies_true, forall_eq', ne_eq, if_true, if_false, aval, abin, aint, ashift, abool, astr, anil, aun, aconv, aindexAddr, aindex, optInt, aslice, abuiltin, asrc, afill, placeOf, asetAll, undef, aload, apart, AV.cells, AV.one, aeval, updO, upd, initE, gdst, thenQ, blockQ, srcOk, Array.isEmpty, List.isEmpty, bytesV, reduceCtorEq, ↓reduceIte, Nat.reduceLT, Nat.reduceLeDiff, Nat.reduceEqDiff, Nat.reduceAdd, Nat.reduceMul, Nat.reducePow, Nat.reduceSub, Int.reduceLT, Int.reduceLE, Int.reduceToNat, RWire54, Try.ntmps4, g0, g3, g4, g5, g6, g7, hge, eye_lt_nat, hi', hat, Int.reduceBEq, length_be, i64_room (show W.length + 1 < 2 ^ 62 by omega)]
                refine hK _ _ ?_
                clear hK K
                simp only [blockQ, thenQ, if_true, if_false]
                exact hnext _ _ (W ++ be 1 n) true (W ++ be 1 n, false) (by simp only [upd, g6, Nat.reduceEqDiff, ↓reduceIte]) (by simp only [upd, g0, Nat.reduceEqDiff, ↓reduceIte]) (by simp only [upd, g3, Nat.reduceEqDiff, ↓reduceIte]) (by simp only [upd, g4, Nat.reduceEqDiff, ↓reduceIte]) (by simp only [upd, g5, Nat.reduceEqDiff, ↓reduceIte]) rfl (fun _ => rfl) (by simp; omega) (by simp; omega) g8
              · rw [show (decide (0 ≤ n) && decide (n ≤ 255)) = false from by simp; omega]
                simp only [↓AXq_nil, ↓AXq_cons, pval, List.contains_cons, List.contains_nil, Nat.reduceBEq, Bool.or_false, Bool.or_true, Bool.or_self, Bool.false_eq_true, Bool.false_or, ↓DN, UP, implies_true, forall_eq', ne_eq, if_true, if_false, aval, abin, aint, ashift, abool, astr, anil, aun, aconv, aindexAddr, aindex, optInt, aslice, abuiltin, asrc, afill, placeOf, asetAll, undef, aload, apart, AV.cells, AV.one, aeval, updO, upd, initE, gdst, thenQ, blockQ, srcOk, Array.isEmpty, List.isEmpty, bytesV, reduceCtorEq, ↓reduceIte, Nat.reduceLT, Nat.reduceLeDiff, Nat.reduceEqDiff, Nat.reduceAdd, Nat.reduceMul, Nat.reducePow, Nat.reduceSub, Int.reduceLT, Int.reduceLE, Int.reduceToNat, RWire54, Try.ntmps4, g0, g3, g4, g5, g6, g7, hge, eye_lt_nat, hi', hat, Int.reduceBEq]
                refine hK _ _ ?_
                clear hK K
                simp only [blockQ, thenQ, if_true, if_false]
                refine hK5 _ _ ?_
                clear hK5 K5
                rw [penSmall_no _ (by omega)] at g8
                refine awp_seq_k ?_
                intro K5 hK5
                refine awp_reg_seq ?_
                intro K hK
                simp only [↓DN, UP, implies_true, forall_eq', ne_eq, if_true, if_false, aval, abin, aint, ashift, abool, astr, anil, aun, aconv, aindexAddr, aindex, optInt, aslice, abuiltin, asrc, afill, placeOf, asetAll, undef, aload, apart, AV.cells, AV.one, aeval, updO, upd, initE, gdst, thenQ, blockQ, srcOk, Array.isEmpty, List.isEmpty, bytesV, reduceCtorEq, ↓reduceIte, Nat.reduceLT, Nat.reduceLeDiff, Nat.reduceEqDiff, Nat.reduceAdd, Nat.reduceMul, Nat.reducePow, Nat.reduceSub, Int.reduceLT, Int.reduceLE, Int.reduceToNat, RWire54, Try.ntmps4, g0, g3, g4, g5, g6, g7, hge, eye_lt_nat, hi', hat, Int.reduceBEq]
                refine hK _ _ ?_
                clear hK K
                refine awp_cond_k ?_
                intro X Y hX hY
                simp only [↓DN, UP, implies_true, forall_eq', ne_eq, if_true, if_false, aval, abin, aint, ashift, abool, astr, anil, aun, aconv, aindexAddr, aindex, optInt, aslice, abuiltin, asrc, afill, placeOf, asetAll, undef, aload, apart, AV.cells, AV.one, aeval, updO, upd, initE, gdst, thenQ, blockQ, srcOk, Array.isEmpty, List.isEmpty, bytesV, reduceCtorEq, ↓reduceIte, Nat.reduceLT, Nat.reduceLeDiff, Nat.reduceEqDiff, Nat.reduceAdd, Nat.reduceMul, Nat.reducePow, Nat.reduceSub, Int.reduceLT, Int.reduceLE, Int.reduceToNat, RWire54, Try.ntmps4, Bool.not_true, Bool.not_false, Bool.false_eq_true, Bool.true_eq_false, false_imp_iff, true_imp_iff, decide_eq_true_eq, decide_eq_false_iff_not]
                refine hY ?_
                clear hX hY X Y
                refine awp_skip ?_
                refine hK5 _ _ ?_
                clear hK5 K5
                refine awp_seq_k ?_
                intro K5 hK5
                refine awp_reg_seq ?_
                intro K hK
                simp only [↓DN, UP, implies_true, forall_eq', ne_eq, if_true, if_false, aval, abin, aint, ashift, abool, astr, anil, aun, aconv, aindexAddr, aindex, optInt, aslice, abuiltin, asrc, afill, placeOf, asetAll, undef, aload, apart, AV.cells, AV.one, aeval, updO, upd, initE, gdst, thenQ, blockQ, srcOk, Array.isEmpty, List.isEmpty, bytesV, reduceCtorEq, ↓reduceIte, Nat.reduceLT, Nat.reduceLeDiff, Nat.reduceEqDiff, Nat.reduceAdd, Nat.reduceMul, Nat.reducePow, Nat.reduceSub, Int.reduceLT, Int.reduceLE, Int.reduceToNat, RWire54, Try.ntmps4, g0, g3, g4, g5, g6, g7, hge, eye_lt_nat, hi', hat, Int.reduceBEq]
                refine hK _ _ ?_
                clear hK K
                refine awp_cond_k ?_
                intro X Y hX hY
                simp only [↓DN, UP, implies_true, forall_eq', ne_eq, if_true, if_false, aval, abin, aint, ashift, abool, astr, anil, aun, aconv, aindexAddr, aindex, optInt, aslice, abuiltin, asrc, afill, placeOf, asetAll, undef, aload, apart, AV.cells, AV.one, aeval, updO, upd, initE, gdst, thenQ, blockQ, srcOk, Array.isEmpty, List.isEmpty, bytesV, reduceCtorEq, ↓reduceIte, Nat.reduceLT, Nat.reduceLeDiff, Nat.reduceEqDiff, Nat.reduceAdd, Nat.reduceMul, Nat.reducePow, Nat.reduceSub, Int.reduceLT, Int.reduceLE, Int.reduceToNat, RWire54, Try.ntmps4, Bool.not_true, Bool.not_false, Bool.false_eq_true, Bool.true_eq_false, false_imp_iff, true_imp_iff, decide_eq_true_eq, decide_eq_false_iff_not]
                refine hX ?_
                clear hX hY X Y
                refine awp_exit ?_
                simp only [blockQ, thenQ, if_true, if_false]
                exact hnext _ _ (W) false (W, true) (by simp only [upd, g6, Nat.reduceEqDiff, ↓reduceIte]) (by simp only [upd, g0, Nat.reduceEqDiff, ↓reduceIte]) (by simp only [upd, g3, Nat.reduceEqDiff, ↓reduceIte]) (by simp only [upd, g4, Nat.reduceEqDiff, ↓reduceIte]) (by simp only [upd, g5, Nat.reduceEqDiff, ↓reduceIte]) rfl (fun h => by cases h) (by omega) (by simp only; omega) g8
          clear hK4
          refine awp_reg_seq ?_
          intro K hK
          simp only [↓DN, UP, implies_true, forall_eq', ne_eq, if_true, if_false, aval, abin, aint, ashift, abool, astr, anil, aun, aconv, aindexAddr, aindex, optInt, aslice, abuiltin, asrc, afill, placeOf, asetAll, undef, aload, apart, AV.cells, AV.one, aeval, updO, upd, initE, gdst, thenQ, blockQ, srcOk, Array.isEmpty, List.isEmpty, bytesV, reduceCtorEq, ↓reduceIte, Nat.reduceLT, Nat.reduceLeDiff, Nat.reduceEqDiff, Nat.reduceAdd, Nat.reduceMul, Nat.reducePow, Nat.reduceSub, Int.reduceLT, Int.reduceLE, Int.reduceToNat, RWire54, Try.ntmps4, h6, h00, h3, hge, eye_lt_nat, hi', hat, show ((0 : Nat) : Int) = 0 from rfl, Int.reduceBEq]
          refine hK _ _ ?_
          clear hK K
          refine awp_block ?_
          refine awp_reg_seq ?_
          intro K hK
          simp only [↓DN, UP, implies_true, forall_eq', ne_eq, if_true, if_false, aval, abin, aint, ashift, abool, astr, anil, aun, aconv, aindexAddr, aindex, optInt, aslice, abuiltin, asrc, afill, placeOf, asetAll, undef, aload, apart, AV.cells, AV.one, aeval, updO, upd, initE, gdst, thenQ, blockQ, srcOk, Array.isEmpty, List.isEmpty, bytesV, reduceCtorEq, ↓reduceIte, Nat.reduceLT, Nat.reduceLeDiff, Nat.reduceEqDiff, Nat.reduceAdd, Nat.reduceMul, Nat.reducePow, Nat.reduceSub, Int.reduceLT, Int.reduceLE, Int.reduceToNat, RWire54, Try.ntmps4, h6, h00, h3, hge, eye_lt_nat, hi', hat, show ((0 : Nat) : Int) = 0 from rfl, Int.reduceBEq]
          refine hK _ _ ?_
          clear hK K
          refine awp_cond_k ?_
          intro X Y hX hY
          simp only [↓DN, UP, implies_true, forall_eq', ne_eq, if_true, if_false, aval, abin, aint, ashift, abool, astr, anil, aun, aconv, aindexAddr, aindex, optInt, aslice, abuiltin, asrc, afill, placeOf, asetAll, undef, aload, apart, AV.cells, AV.one, aeval, updO, upd, initE, gdst, thenQ, blockQ, srcOk, Array.isEmpty, List.isEmpty, bytesV, reduceCtorEq, ↓reduceIte, Nat.reduceLT, Nat.reduceLeDiff, Nat.reduceEqDiff, Nat.reduceAdd, Nat.reduceMul, Nat.reducePow, Nat.reduceSub, Int.reduceLT, Int.reduceLE, Int.reduceToNat, RWire54, Try.ntmps4, Bool.not_true, Bool.not_false, Bool.false_eq_true, Bool.true_eq_false, false_imp_iff, true_imp_iff, decide_eq_true_eq, decide_eq_false_iff_not]
          refine hX ?_
          clear hX hY X Y
          refine awp_reg_end ?_
          intro K hK
          simp only [↓DN, UP, implies_true, forall_eq', ne_eq, if_true, if_false, aval, abin, aint, ashift, abool, astr, anil, aun, aconv, aindexAddr, aindex, optInt, aslice, abuiltin, asrc, afill, placeOf, asetAll, undef, aload, apart, AV.cells, AV.one, aeval, updO, upd, initE, gdst, thenQ, blockQ, srcOk, Array.isEmpty, List.isEmpty, bytesV, reduceCtorEq, ↓reduceIte, Nat.reduceLT, Nat.reduceLeDiff, Nat.reduceEqDiff, Nat.reduceAdd, Nat.reduceMul, Nat.reducePow, Nat.reduceSub, Int.reduceLT, Int.reduceLE, Int.reduceToNat, RWire54, Try.ntmps4, h6, h00, h3, hge, eye_lt_nat, hi', hat, show ((0 : Nat) : Int) = 0 from rfl, Int.reduceBEq]
          refine acallk (penU8_calls s' s3 p st n hnb (by omega) hp) ?_
          rintro r s4 ⟨rfl, hp4⟩
          simp only [↓AXq_nil, ↓AXq_cons, pval, List.contains_cons, List.contains_nil, Nat.reduceBEq, Bool.or_false, Bool.or_true, Bool.or_self, Bool.false_eq_true, Bool.false_or, ↓DN, UP, implies_true, forall_eq', ne_eq, if_true, if_false, aval, abin, aint, ashift, abool, astr, anil, aun, aconv, aindexAddr, aindex, optInt, aslice, abuiltin, asrc, afill, placeOf, asetAll, undef, aload, apart, AV.cells, AV.one, aeval, updO, upd, initE, gdst, thenQ, blockQ, srcOk, Array.isEmpty, List.isEmpty, bytesV, reduceCtorEq, ↓reduceIte, Nat.reduceLT, Nat.reduceLeDiff, Nat.reduceEqDiff, Nat.reduceAdd, Nat.reduceMul, Nat.reducePow, Nat.reduceSub, Int.reduceLT, Int.reduceLE, Int.reduceToNat, RWire54, Try.ntmps4]
          refine hK _ _ ?_
          clear hK K
          simp only [blockQ, thenQ, if_true, if_false]
          exact hrest _ _ (by simp only [upd, h00, Nat.reduceEqDiff, ↓reduceIte]) (by simp only [upd, h3, Nat.reduceEqDiff, ↓reduceIte]) (by simp only [upd, h4, Nat.reduceEqDiff, ↓reduceIte]) (by simp only [upd, h5, Nat.reduceEqDiff, ↓reduceIte]) (by simp only [upd, h6, Nat.reduceEqDiff, ↓reduceIte]) (by simp only [upd, ↓reduceIte, show ((0 : Nat) : Int) = 0 from rfl, Nat.reduceEqDiff, ↓reduceIte]) hp4
        · have hrest : ∀ (E2 : Env) (s4 : AS), E2 0 = .sl 3 ps.length (partsC ps) .any → E2 3 = .ptr p 0 → E2 4 = .v (.string ⟨W.toArray⟩) → E2 5 = .v (.bool ok) → E2 6 = .v (.int .i64 i) → E2 7 = .v (.int .i64 1) → PenS s' s4 p (penSmall 2 n st) → K4 E2 s4 := by
            intro E2 s4 g0 g3 g4 g5 g6 g7 g8
            refine hK4 _ _ ?_
            clear hK4 K4
            cases ok
            · have hbad : st.2 = true := by simpa using hst
              have hbad2 : (penSmall 2 n st).2 = true := pen_bad_small _ _ _ hbad
              have hlen2 := penSmall_len 2 n st
              refine awp_seq_k ?_
              intro K5 hK5
              refine awp_reg_seq ?_
              intro K hK
              simp only [↓DN, UP, implies_true, forall_eq', ne_eq, if_true, if_false, aval, abin, aint, ashift, abool, astr, anil, aun, aconv, aindexAddr, aindex, optInt, aslice, abuiltin, asrc, afill, placeOf, asetAll, undef, aload, apart, AV.cells, AV.one, aeval, updO, upd, initE, gdst, thenQ, blockQ, srcOk, Array.isEmpty, List.isEmpty, bytesV, reduceCtorEq, ↓reduceIte, Nat.reduceLT, Nat.reduceLeDiff, Nat.reduceEqDiff, Nat.reduceAdd, Nat.reduceMul, Nat.reducePow, Nat.reduceSub, Int.reduceLT, Int.reduceLE, Int.reduceToNat, RWire54, Try.ntmps4, g0, g3, g4, g5, g6, g7, hge, eye_lt_nat, hi', hat, Int.reduceBEq]
              refine hK _ _ ?_
              clear hK K
              refine awp_cond_k ?_
              intro X Y hX hY
              simp only [↓DN, UP, implies_true, forall_eq', ne_eq, if_true, if_false, aval, abin, aint, ashift, abool, astr, anil, aun, aconv, aindexAddr, aindex, optInt, aslice, abuiltin, asrc, afill, placeOf, asetAll, undef, aload, apart, AV.cells, AV.one, aeval, updO, upd, initE, gdst, thenQ, blockQ, srcOk, Array.isEmpty, List.isEmpty, bytesV, reduceCtorEq, ↓reduceIte, Nat.reduceLT, Nat.reduceLeDiff, Nat.reduceEqDiff, Nat.reduceAdd, Nat.reduceMul, Nat.reducePow, Nat.reduceSub, Int.reduceLT, Int.reduceLE, Int.reduceToNat, RWire54, Try.ntmps4, Bool.not_true, Bool.not_false, Bool.false_eq_true, Bool.true_eq_false, false_imp_iff, true_imp_iff, decide_eq_true_eq, decide_eq_false_iff_not]
              refine hX ?_
              clear hX hY X Y
              refine awp_drw_end T.mixed [8, 9] (by kernel_rfl) ?_
              intro K hK
              simp only [↓AXq_nil, ↓AXq_cons, pval, List.contains_cons, List.contains_nil, Nat.reduceBEq, Bool.or_false, Bool.or_true, Bool.or_self, Bool.false_eq_true, Bool.false_or, ↓DN, UP, implies_true, forall_eq', ne_eq, if_true, if_false, aval, abin, aint, ashift, abool, astr, anil, aun, aconv, aindexAddr, aindex, optInt, aslice, abuiltin, asrc, afill, placeOf, asetAll, undef, aload, apart, AV.cells, AV.one, aeval, updO, upd, initE, gdst, thenQ, blockQ, srcOk, Array.isEmpty, List.isEmpty, bytesV, reduceCtorEq, ↓reduceIte, Nat.reduceLT, Nat.reduceLeDiff, Nat.reduceEqDiff, Nat.reduceAdd, Nat.reduceMul, Nat.reducePow, Nat.reduceSub, Int.reduceLT, Int.reduceLE, Int.reduceToNat, RWire54, Try.ntmps4, g0, g3, g4, g5, g6, g7, hge, eye_lt_nat, hi', hat, Int.reduceBEq]
              refine hK _ _ ?_
              clear hK K
              simp only [blockQ, thenQ, if_true, if_false]
              refine hK5 _ _ ?_
              clear hK5 K5
              refine awp_seq_k ?_
              intro K5 hK5
              refine awp_reg_seq ?_
              intro K hK
              simp only [↓DN, UP, implies_true, forall_eq', ne_eq, if_true, if_false, aval, abin, aint, ashift, abool, astr, anil, aun, aconv, aindexAddr, aindex, optInt, aslice, abuiltin, asrc, afill, placeOf, asetAll, undef, aload, apart, AV.cells, AV.one, aeval, updO, upd, initE, gdst, thenQ, blockQ, srcOk, Array.isEmpty, List.isEmpty, bytesV, reduceCtorEq, ↓reduceIte, Nat.reduceLT, Nat.reduceLeDiff, Nat.reduceEqDiff, Nat.reduceAdd, Nat.reduceMul, Nat.reducePow, Nat.reduceSub, Int.reduceLT, Int.reduceLE, Int.reduceToNat, RWire54, Try.ntmps4, g0, g3, g4, g5, g6, g7, hge, eye_lt_nat, hi', hat, Int.reduceBEq]
              refine hK _ _ ?_
              clear hK K
              refine awp_cond_k ?_
              intro X Y hX hY
              simp only [↓DN, UP, implies_true, forall_eq', ne_eq, if_true, if_false, aval, abin, aint, ashift, abool, astr, anil, aun, aconv, aindexAddr, aindex, optInt, aslice, abuiltin, asrc, afill, placeOf, asetAll, undef, aload, apart, AV.cells, AV.one, aeval, updO, upd, initE, gdst, thenQ, blockQ, srcOk, Array.isEmpty, List.isEmpty, bytesV, reduceCtorEq, ↓reduceIte, Nat.reduceLT, Nat.reduceLeDiff, Nat.reduceEqDiff, Nat.reduceAdd, Nat.reduceMul, Nat.reducePow, Nat.reduceSub, Int.reduceLT, Int.reduceLE, Int.reduceToNat, RWire54, Try.ntmps4, Bool.not_true, Bool.not_false, Bool.false_eq_true, Bool.true_eq_false, false_imp_iff, true_imp_iff, decide_eq_true_eq, decide_eq_false_iff_not]
              refine hY ?_
              clear hX hY X Y
              refine awp_skip ?_
              refine hK5 _ _ ?_
              clear hK5 K5
              refine awp_seq_k ?_
              intro K5 hK5
              refine awp_reg_seq ?_
              intro K hK
              simp only [↓DN, UP, implies_true, forall_eq', ne_eq, if_true, if_false, aval, abin, aint, ashift, abool, astr, anil, aun, aconv, aindexAddr, aindex, optInt, aslice, abuiltin, asrc, afill, placeOf, asetAll, undef, aload, apart, AV.cells, AV.one, aeval, updO, upd, initE, gdst, thenQ, blockQ, srcOk, Array.isEmpty, List.isEmpty, bytesV, reduceCtorEq, ↓reduceIte, Nat.reduceLT, Nat.reduceLeDiff, Nat.reduceEqDiff, Nat.reduceAdd, Nat.reduceMul, Nat.reducePow, Nat.reduceSub, Int.reduceLT, Int.reduceLE, Int.reduceToNat, RWire54, Try.ntmps4, g0, g3, g4, g5, g6, g7, hge, eye_lt_nat, hi', hat, Int.reduceBEq]
              refine hK _ _ ?_
              clear hK K
              refine awp_cond_k ?_
              intro X Y hX hY
              simp only [↓DN, UP, implies_true, forall_eq', ne_eq, if_true, if_false, aval, abin, aint, ashift, abool, astr, anil, aun, aconv, aindexAddr, aindex, optInt, aslice, abuiltin, asrc, afill, placeOf, asetAll, undef, aload, apart, AV.cells, AV.one, aeval, updO, upd, initE, gdst, thenQ, blockQ, srcOk, Array.isEmpty, List.isEmpty, bytesV, reduceCtorEq, ↓reduceIte, Nat.reduceLT, Nat.reduceLeDiff, Nat.reduceEqDiff, Nat.reduceAdd, Nat.reduceMul, Nat.reducePow, Nat.reduceSub, Int.reduceLT, Int.reduceLE, Int.reduceToNat, RWire54, Try.ntmps4, Bool.not_true, Bool.not_false, Bool.false_eq_true, Bool.true_eq_false, false_imp_iff, true_imp_iff, decide_eq_true_eq, decide_eq_false_iff_not]
              refine hX ?_
              clear hX hY X Y
              refine awp_exit ?_
              simp only [blockQ, thenQ, if_true, if_false]
              exact hnext _ _ (W) false (penSmall 2 n st) (by simp only [upd, g6, Nat.reduceEqDiff, ↓reduceIte]) (by simp only [upd, g0, Nat.reduceEqDiff, ↓reduceIte]) (by simp only [upd, g3, Nat.reduceEqDiff, ↓reduceIte]) (by simp only [upd, g4, Nat.reduceEqDiff, ↓reduceIte]) (by simp only [upd, g5, Nat.reduceEqDiff, ↓reduceIte]) hbad2 (fun h => by cases h) (by omega) (by omega) g8
            · obtain ⟨st1, st2⟩ := st
              simp only [Bool.not_true] at hst
              have hW1 := hW rfl
              simp only at hW1
              subst hst
              subst hW1
              refine awp_seq_k ?_
              intro K5 hK5
              refine awp_reg_seq ?_
              intro K hK
              simp only [↓DN, UP, implies_true, forall_eq', ne_eq, if_true, if_false, aval, abin, aint, ashift, abool, astr, anil, aun, aconv, aindexAddr, aindex, optInt, aslice, abuiltin, asrc, afill, placeOf, asetAll, undef, aload, apart, AV.cells, AV.one, aeval, updO, upd, initE, gdst, thenQ, blockQ, srcOk, Array.isEmpty, List.isEmpty, bytesV, reduceCtorEq, ↓reduceIte, Nat.reduceLT, Nat.reduceLeDiff, Nat.reduceEqDiff, Nat.reduceAdd, Nat.reduceMul, Nat.reducePow, Nat.reduceSub, Int.reduceLT, Int.reduceLE, Int.reduceToNat, RWire54, Try.ntmps4, g0, g3, g4, g5, g6, g7, hge, eye_lt_nat, hi', hat, Int.reduceBEq]
              refine hK _ _ ?_
              clear hK K
              refine awp_cond_k ?_
              intro X Y hX hY
              simp only [↓DN, UP, implies_true, forall_eq', ne_eq, if_true, if_false, aval, abin, aint, ashift, abool, astr, anil, aun, aconv, aindexAddr, aindex, optInt, aslice, abuiltin, asrc, afill, placeOf, asetAll, undef, aload, apart, AV.cells, AV.one, aeval, updO, upd, initE, gdst, thenQ, blockQ, srcOk, Array.isEmpty, List.isEmpty, bytesV, reduceCtorEq, ↓reduceIte, Nat.reduceLT, Nat.reduceLeDiff, Nat.reduceEqDiff, Nat.reduceAdd, Nat.reduceMul, Nat.reducePow, Nat.reduceSub, Int.reduceLT, Int.reduceLE, Int.reduceToNat, RWire54, Try.ntmps4, Bool.not_true, Bool.not_false, Bool.false_eq_true, Bool.true_eq_false, false_imp_iff, true_imp_iff, decide_eq_true_eq, decide_eq_false_iff_not]
              refine hX ?_
              clear hX hY X Y
              refine awp_drw_end T.mixed [8, 9] (by kernel_rfl) ?_
              intro K hK
              simp only [↓AXq_nil, ↓AXq_cons, pval, List.contains_cons, List.contains_nil, Nat.reduceBEq, Bool.or_false, Bool.or_true, Bool.or_self, Bool.false_eq_true, Bool.false_or, ↓DN, UP, implies_true, forall_eq', ne_eq, if_true, if_false, aval, abin, aint, ashift, abool, astr, anil, aun, aconv, aindexAddr, aindex, optInt, aslice, abuiltin, asrc, afill, placeOf, asetAll, undef, aload, apart, AV.cells, AV.one, aeval, updO, upd, initE, gdst, thenQ, blockQ, srcOk, Array.isEmpty, List.isEmpty, bytesV, reduceCtorEq, ↓reduceIte, Nat.reduceLT, Nat.reduceLeDiff, Nat.reduceEqDiff, Nat.reduceAdd, Nat.reduceMul, Nat.reducePow, Nat.reduceSub, Int.reduceLT, Int.reduceLE, Int.reduceToNat, RWire54, Try.ntmps4, g0, g3, g4, g5, g6, g7, hge, eye_lt_nat, hi', hat, Int.reduceBEq]
              refine acallk (size01_calls 1 2 (by simp) _) ?_
              rintro r s5 ⟨rfl, rfl⟩
              simp only [↓AXq_nil, ↓AXq_cons, pval, List.contains_cons, List.contains_nil, Nat.reduceBEq, Bool.or_false, Bool.or_true, Bool.or_self, Bool.false_eq_true, Bool.false_or, ↓DN, UP, implies_true, forall_eq', ne_eq, if_true, if_false, aval, abin, aint, ashift, abool, astr, anil, aun, aconv, aindexAddr, aindex, optInt, aslice, abuiltin, asrc, afill, placeOf, asetAll, undef, aload, apart, AV.cells, AV.one, aeval, updO, upd, initE, gdst, thenQ, blockQ, srcOk, Array.isEmpty, List.isEmpty, bytesV, reduceCtorEq, ↓reduceIte, Nat.reduceLT, Nat.reduceLeDiff, Nat.reduceEqDiff, Nat.reduceAdd, Nat.reduceMul, Nat.reducePow, Nat.reduceSub, Int.reduceLT, Int.reduceLE, Int.reduceToNat, RWire54, Try.ntmps4, g0, g3, g4, g5, g6, g7, hge, eye_lt_nat, hi', hat, Int.reduceBEq]
              refine acallk (fits_calls n 65535 2 (by simp) _) ?_
              rintro r s6 ⟨rfl, rfl⟩
              by_cases hf : 0 ≤ n ∧ n ≤ 65535
              · rw [decide_eq_true hf.1, decide_eq_true hf.2]
                simp only [↓AXq_nil, ↓AXq_cons, pval, List.contains_cons, List.contains_nil, Nat.reduceBEq, Bool.or_false, Bool.or_true, Bool.or_self, Bool.false_eq_true, Bool.false_or, ↓DN, UP, implies_true, forall_eq', ne_eq, if_true, if_false, aval, abin, aint, ashift, abool, astr, anil, aun, aconv, aindexAddr, aindex, optInt, aslice, abuiltin, asrc, afill, placeOf, asetAll, undef, aload, apart, AV.cells, AV.one, aeval, updO, upd, initE, gdst, thenQ, blockQ, srcOk, Array.isEmpty, List.isEmpty, bytesV, reduceCtorEq, ↓reduceIte, Nat.reduceLT, Nat.reduceLeDiff, Nat.reduceEqDiff, Nat.reduceAdd, Nat.reduceMul, Nat.reducePow, Nat.reduceSub, Int.reduceLT, Int.reduceLE, Int.reduceToNat, RWire54, Try.ntmps4, g0, g3, g4, g5, g6, g7, hge, eye_lt_nat, hi', hat, Int.reduceBEq]
                refine hK _ _ ?_
                clear hK K
                simp only [blockQ, thenQ, if_true, if_false]
                refine hK5 _ _ ?_
                clear hK5 K5
                obtain ⟨n, rfl⟩ := Int.eq_ofNat_of_zero_le hf.1
                have hu := u64_conv (show n < 2 ^ 62 by omega)
                rw [penSmall_nat (by omega)] at g8
                refine awp_seq_k ?_
                intro K5 hK5
                refine awp_reg_seq ?_
                intro K hK
                simp only [↓DN, UP, implies_true, forall_eq', ne_eq, if_true, if_false, aval, abin, aint, ashift, abool, astr, anil, aun, aconv, aindexAddr, aindex, optInt, aslice, abuiltin, asrc, afill, placeOf, asetAll, undef, aload, apart, AV.cells, AV.one, aeval, updO, upd, initE, gdst, thenQ, blockQ, srcOk, Array.isEmpty, List.isEmpty, bytesV, reduceCtorEq, ↓reduceIte, Nat.reduceLT, Nat.reduceLeDiff, Nat.reduceEqDiff, Nat.reduceAdd, Nat.reduceMul, Nat.reducePow, Nat.reduceSub, Int.reduceLT, Int.reduceLE, Int.reduceToNat, RWire54, Try.ntmps4, g0, g3, g4, g5, g6, g7, hge, eye_lt_nat, hi', hat, Int.reduceBEq]
                refine hK _ _ ?_
                clear hK K
                refine awp_cond_k ?_
                intro X Y hX hY
                simp only [↓DN, UP, implies_true, forall_eq', ne_eq, if_true, if_false, aval, abin, aint, ashift, abool, astr, anil, aun, aconv, aindexAddr, aindex, optInt, aslice, abuiltin, asrc, afill, placeOf, asetAll, undef, aload, apart, AV.cells, AV.one, aeval, updO, upd, initE, gdst, thenQ, blockQ, srcOk, Array.isEmpty, List.isEmpty, bytesV, reduceCtorEq, ↓reduceIte, Nat.reduceLT, Nat.reduceLeDiff, Nat.reduceEqDiff, Nat.reduceAdd, Nat.reduceMul, Nat.reducePow, Nat.reduceSub, Int.reduceLT, Int.reduceLE, Int.reduceToNat, RWire54, Try.ntmps4, Bool.not_true, Bool.not_false, Bool.false_eq_true, Bool.true_eq_false, false_imp_iff, true_imp_iff, decide_eq_true_eq, decide_eq_false_iff_not]
                refine hY ?_
                clear hX hY X Y
                refine awp_skip ?_
                refine hK5 _ _ ?_
                clear hK5 K5
                refine awp_seq_k ?_
                intro K5 hK5
                refine awp_reg_seq ?_
                intro K hK
                simp only [↓DN, UP, implies_true, forall_eq', ne_eq, if_true, if_false, aval, abin, aint, ashift, abool, astr, anil, aun, aconv, aindexAddr, aindex, optInt, aslice, abuiltin, asrc, afill, placeOf, asetAll, undef, aload, apart, AV.cells, AV.one, aeval, updO, upd, initE, gdst, thenQ, blockQ, srcOk, Array.isEmpty, List.isEmpty, bytesV, reduceCtorEq, ↓reduceIte, Nat.reduceLT, Nat.reduceLeDiff, Nat.reduceEqDiff, Nat.reduceAdd, Nat.reduceMul, Nat.reducePow, Nat.reduceSub, Int.reduceLT, Int.reduceLE, Int.reduceToNat, RWire54, Try.ntmps4, g0, g3, g4, g5, g6, g7, hge, eye_lt_nat, hi', hat, Int.reduceBEq]
                refine hK _ _ ?_
                clear hK K
                refine awp_cond_k ?_
                intro X Y hX hY
                simp only [↓DN, UP, implies_true, forall_eq', ne_eq, if_true, if_false, aval, abin, aint, ashift, abool, astr, anil, aun, aconv, aindexAddr, aindex, optInt, aslice, abuiltin, asrc, afill, placeOf, asetAll, undef, aload, apart, AV.cells, AV.one, aeval, updO, upd, initE, gdst, thenQ, blockQ, srcOk, Array.isEmpty, List.isEmpty, bytesV, reduceCtorEq, ↓reduceIte, Nat.reduceLT, Nat.reduceLeDiff, Nat.reduceEqDiff, Nat.reduceAdd, Nat.reduceMul, Nat.reducePow, Nat.reduceSub, Int.reduceLT, Int.reduceLE, Int.reduceToNat, RWire54, Try.ntmps4, Bool.not_true, Bool.not_false, Bool.false_eq_true, Bool.true_eq_false, false_imp_iff, true_imp_iff, decide_eq_true_eq, decide_eq_false_iff_not]
                refine hY ?_
                clear hX hY X Y
                refine awp_skip ?_
                refine hK5 _ _ ?_
                clear hK5 K5
                refine awp_reg_seq ?_
                intro K hK
                simp only [↓DN, UP, implies_true, forall_eq', ne_eq, if_true, if_false, aval, abin, aint, ashift, abool, astr, anil, aun, aconv, aindexAddr, aindex, optInt, aslice, abuiltin, asrc, afill, placeOf, asetAll, undef, aload, apart, AV.cells, AV.one, aeval, updO, upd, initE, gdst, thenQ, blockQ, srcOk, Array.isEmpty, List.isEmpty, bytesV, reduceCtorEq, ↓reduceIte, Nat.reduceLT, Nat.reduceLeDiff, Nat.reduceEqDiff, Nat.reduceAdd, Nat.reduceMul, Nat.reducePow, Nat.reduceSub, Int.reduceLT, Int.reduceLE, Int.reduceToNat, RWire54, Try.ntmps4, g0, g3, g4, g5, g6, g7, hge, eye_lt_nat, hi', hat, Int.reduceBEq]
                refine hK _ _ ?_
                clear hK K
                refine awp_cond_k ?_
                intro X Y hX hY
                simp only [↓DN, UP, implies_true, forall_eq', ne_eq, if_true, if_false, aval, abin, aint, ashift, abool, astr, anil, aun, aconv, aindexAddr, aindex, optInt, aslice, abuiltin, asrc, afill, placeOf, asetAll, undef, aload, apart, AV.cells, AV.one, aeval, updO, upd, initE, gdst, thenQ, blockQ, srcOk, Array.isEmpty, List.isEmpty, bytesV, reduceCtorEq, ↓reduceIte, Nat.reduceLT, Nat.reduceLeDiff, Nat.reduceEqDiff, Nat.reduceAdd, Nat.reduceMul, Nat.reducePow, Nat.reduceSub, Int.reduceLT, Int.reduceLE, Int.reduceToNat, RWire54, Try.ntmps4, Bool.not_true, Bool.not_false, Bool.false_eq_true, Bool.true_eq_false, false_imp_iff, true_imp_iff, decide_eq_true_eq, decide_eq_false_iff_not]
                refine hX ?_
                clear hX hY X Y
                refine awp_drw_end T.mixed [8, 9] (by kernel_rfl) ?_
                intro K hK
                simp only [↓AXq_nil, ↓AXq_cons, pval, List.contains_cons, List.contains_nil, Nat.reduceBEq, Bool.or_false, Bool.or_true, Bool.or_self, Bool.false_eq_true, Bool.false_or, ↓DN, UP, implies_true, forall_eq', ne_eq, if_true, if_false, aval, abin, aint, ashift, abool, astr, anil, aun, aconv, aindexAddr, aindex, optInt, aslice, abuiltin, asrc, afill, placeOf, asetAll, undef, aload, apart, AV.cells, AV.one, aeval, updO, upd, initE, gdst, thenQ, blockQ, srcOk, Array.isEmpty, List.isEmpty, bytesV, reduceCtorEq, ↓reduceIte, Nat.reduceLT, Nat.reduceLeDiff, Nat.reduceEqDiff, Nat.reduceAdd, Nat.reduceMul, Nat.reducePow, Nat.reduceSub, Int.reduceLT, Int.reduceLE, Int.reduceToNat, RWire54, Try.ntmps4, g0, g3, g4, g5, g6, g7, hge, eye_lt_nat, hi', hat, Int.reduceBEq, hu]
                refine acallk (size01_calls 1 2 (by simp) _) ?_
                rintro r s7 ⟨rfl, rfl⟩
                simp only [↓AXq_nil, ↓AXq_cons, pval, List.contains_cons, List.contains_nil, Nat.reduceBEq, Bool.or_false, Bool.or_true, Bool.or_self, Bool.false_eq_true, Bool.false_or, ↓DN, UP, implies_true, forall_eq', ne_eq, if_true, if_false, aval, abin, aint, ashift, abool, astr, anil, aun, aconv, aindexAddr, aindex, optInt, aslice, abuiltin, asrc, afill, placeOf, asetAll, undef, aload, apart, AV.cells, AV.one, aeval, updO, upd, initE, gdst, thenQ, blockQ, srcOk, Array.isEmpty, List.isEmpty, bytesV, reduceCtorEq, ↓reduceIte, Nat.reduceLT, Nat.reduceLeDiff, Nat.reduceEqDiff, Nat.reduceAdd, Nat.reduceMul, Nat.reducePow, Nat.reduceSub, Int.reduceLT, Int.reduceLE, Int.reduceToNat, RWire54, Try.ntmps4, g0, g3, g4, g5, g6, g7, hge, eye_lt_nat, hi', hat, Int.reduceBEq]
                refine acallk (refNumber_calls n 2 (by omega) (by omega) _) ?_
                rintro r s8 ⟨rfl, rfl⟩
                simp only [↓AXq_nil, ↓AXq_cons, pval, List.contains_cons, List.contains_nil, Nat.reduceBEq, Bool.or_false, Bool.or_true, Bool.or_self, Bool.false_eq_true, Bool.false_or, ↓DN, UP, implies_true, forall_eq', ne_eq, if_true, if_false, aval, abin, aint, ashift, abool, astr, anil, aun, aconv, aindexAddr, aindex, optInt, aslice, abuiltin, asrc, afill, placeOf, asetAll, undef, aload, apart, AV.cells, AV.one, aeval, updO, upd, initE, gdst, thenQ, blockQ, srcOk, Array.isEmpty, List.isEmpty, bytesV, reduceCtorEq, ↓reduceIte, Nat.reduceLT, Nat.reduceLeDiff, Nat.reduceEqDiff, Nat.reduceAdd, Nat.reduceMul, Nat.reducePow, Nat.reduceSub, Int.reduceLT, Int.reduceLE, Int.reduceToNat, RWire54, Try.ntmps4, g0, g3, g4, g5, g6, g7, hge, eye_lt_nat, hi', hat, Int.reduceBEq, length_be, i64_room (show W.length + 2 < 2 ^ 62 by omega)]
                refine hK _ _ ?_
                clear hK K
                simp only [blockQ, thenQ, if_true, if_false]
                exact hnext _ _ (W ++ be 2 n) true (W ++ be 2 n, false) (by simp only [upd, g6, Nat.reduceEqDiff, ↓reduceIte]) (by simp only [upd, g0, Nat.reduceEqDiff, ↓reduceIte]) (by simp only [upd, g3, Nat.reduceEqDiff, ↓reduceIte]) (by simp only [upd, g4, Nat.reduceEqDiff, ↓reduceIte]) (by simp only [upd, g5, Nat.reduceEqDiff, ↓reduceIte]) rfl (fun _ => rfl) (by simp; omega) (by simp; omega) g8
              · rw [show (decide (0 ≤ n) && decide (n ≤ 65535)) = false from by simp; omega]
                simp only [↓AXq_nil, ↓AXq_cons, pval, List.contains_cons, List.contains_nil, Nat.reduceBEq, Bool.or_false, Bool.or_true, Bool.or_self, Bool.false_eq_true, Bool.false_or, ↓DN, UP, implies_true, forall_eq', ne_eq, if_true, if_false, aval, abin, aint, ashift, abool, astr, anil, aun, aconv, aindexAddr, aindex, optInt, aslice, abuiltin, asrc, afill, placeOf, asetAll, undef, aload, apart, AV.cells, AV.one, aeval, updO, upd, initE, gdst, thenQ, blockQ, srcOk, Array.isEmpty, List.isEmpty, bytesV, reduceCtorEq, ↓reduceIte, Nat.reduceLT, Nat.reduceLeDiff, Nat.reduceEqDiff, Nat.reduceAdd, Nat.reduceMul, Nat.reducePow, Nat.reduceSub, Int.reduceLT, Int.reduceLE, Int.reduceToNat, RWire54, Try.ntmps4, g0, g3, g4, g5, g6, g7, hge, eye_lt_nat, hi', hat, Int.reduceBEq]
                refine hK _ _ ?_
                clear hK K
                simp only [blockQ, thenQ, if_true, if_false]
                refine hK5 _ _ ?_
                clear hK5 K5
                rw [penSmall_no _ (by omega)] at g8
                refine awp_seq_k ?_
                intro K5 hK5
                refine awp_reg_seq ?_
                intro K hK
                simp only [↓DN, UP, implies_true, forall_eq', ne_eq, if_true, if_false, aval, abin, aint, ashift, abool, astr, anil, aun, aconv, aindexAddr, aindex, optInt, aslice, abuiltin, asrc, afill, placeOf, asetAll, undef, aload, apart, AV.cells, AV.one, aeval, updO, upd, initE, gdst, thenQ, blockQ, srcOk, Array.isEmpty, List.isEmpty, bytesV, reduceCtorEq, ↓reduceIte, Nat.reduceLT, Nat.reduceLeDiff, Nat.reduceEqDiff, Nat.reduceAdd, Nat.reduceMul, Nat.reducePow, Nat.reduceSub, Int.reduceLT, Int.reduceLE, Int.reduceToNat, RWire54, Try.ntmps4, g0, g3, g4, g5, g6, g7, hge, eye_lt_nat, hi', hat, Int.reduceBEq]
                refine hK _ _ ?_
                clear hK K
                refine awp_cond_k ?_
                intro X Y hX hY
                simp only [↓DN, UP, implies_true, forall_eq', ne_eq, if_true, if_false, aval, abin, aint, ashift, abool, astr, anil, aun, aconv, aindexAddr, aindex, optInt, aslice, abuiltin, asrc, afill, placeOf, asetAll, undef, aload, apart, AV.cells, AV.one, aeval, updO, upd, initE, gdst, thenQ, blockQ, srcOk, Array.isEmpty, List.isEmpty, bytesV, reduceCtorEq, ↓reduceIte, Nat.reduceLT, Nat.reduceLeDiff, Nat.reduceEqDiff, Nat.reduceAdd, Nat.reduceMul, Nat.reducePow, Nat.reduceSub, Int.reduceLT, Int.reduceLE, Int.reduceToNat, RWire54, Try.ntmps4, Bool.not_true, Bool.not_false, Bool.false_eq_true, Bool.true_eq_false, false_imp_iff, true_imp_iff, decide_eq_true_eq, decide_eq_false_iff_not]
                refine hY ?_
                clear hX hY X Y
                refine awp_skip ?_
                refine hK5 _ _ ?_
                clear hK5 K5
                refine awp_seq_k ?_
                intro K5 hK5
                refine awp_reg_seq ?_
                intro K hK
                simp only [↓DN, UP, implies_true, forall_eq', ne_eq, if_true, if_false, aval, abin, aint, ashift, abool, astr, anil, aun, aconv, aindexAddr, aindex, optInt, aslice, abuiltin, asrc, afill, placeOf, asetAll, undef, aload, apart, AV.cells, AV.one, aeval, updO, upd, initE, gdst, thenQ, blockQ, srcOk, Array.isEmpty, List.isEmpty, bytesV, reduceCtorEq, ↓reduceIte, Nat.reduceLT, Nat.reduceLeDiff, Nat.reduceEqDiff, Nat.reduceAdd, Nat.reduceMul, Nat.reducePow, Nat.reduceSub, Int.reduceLT, Int.reduceLE, Int.reduceToNat, RWire54, Try.ntmps4, g0, g3, g4, g5, g6, g7, hge, eye_lt_nat, hi', hat, Int.reduceBEq]
                refine hK _ _ ?_
                clear hK K
                refine awp_cond_k ?_
                intro X Y hX hY
                simp only [↓DN, UP, implies_true, forall_eq', ne_eq, if_true, if_false, aval, abin, aint, ashift, abool, astr, anil, aun, aconv, aindexAddr, aindex, optInt, aslice, abuiltin, asrc, afill, placeOf, asetAll, undef, aload, apart, AV.cells, AV.one, aeval, updO, upd, initE, gdst, thenQ, blockQ, srcOk, Array.isEmpty, List.isEmpty, bytesV, reduceCtorEq, ↓reduceIte, Nat.reduceLT, Nat.reduceLeDiff, Nat.reduceEqDiff, Nat.reduceAdd, Nat.reduceMul, Nat.reducePow, Nat.reduceSub, Int.reduceLT, Int.reduceLE, Int.reduceToNat, RWire54, Try.ntmps4, Bool.not_true, Bool.not_false, Bool.false_eq_true, Bool.true_eq_false, false_imp_iff, true_imp_iff, decide_eq_true_eq, decide_eq_false_iff_not]
                refine hX ?_
                clear hX hY X Y
                refine awp_exit ?_
                simp only [blockQ, thenQ, if_true, if_false]
                exact hnext _ _ (W) false (W, true) (by simp only [upd, g6, Nat.reduceEqDiff, ↓reduceIte]) (by simp only [upd, g0, Nat.reduceEqDiff, ↓reduceIte]) (by simp only [upd, g3, Nat.reduceEqDiff, ↓reduceIte]) (by simp only [upd, g4, Nat.reduceEqDiff, ↓reduceIte]) (by simp only [upd, g5, Nat.reduceEqDiff, ↓reduceIte]) rfl (fun h => by cases h) (by omega) (by simp only; omega) g8
          clear hK4
          refine awp_reg_seq ?_
          intro K hK
          simp only [↓DN, UP, implies_true, forall_eq', ne_eq, if_true, if_false, aval, abin, aint, ashift, abool, astr, anil, aun, aconv, aindexAddr, aindex, optInt, aslice, abuiltin, asrc, afill, placeOf, asetAll, undef, aload, apart, AV.cells, AV.one, aeval, updO, upd, initE, gdst, thenQ, blockQ, srcOk, Array.isEmpty, List.isEmpty, bytesV, reduceCtorEq, ↓reduceIte, Nat.reduceLT, Nat.reduceLeDiff, Nat.reduceEqDiff, Nat.reduceAdd, Nat.reduceMul, Nat.reducePow, Nat.reduceSub, Int.reduceLT, Int.reduceLE, Int.reduceToNat, RWire54, Try.ntmps4, h6, h00, h3, hge, eye_lt_nat, hi', hat, show ((1 : Nat) : Int) = 1 from rfl, Int.reduceBEq]
          refine hK _ _ ?_
          clear hK K
          refine awp_block ?_
          refine awp_reg_seq ?_
          intro K hK
          simp only [↓DN, UP, implies_true, forall_eq', ne_eq, if_true, if_false, aval, abin, aint, ashift, abool, astr, anil, aun, aconv, aindexAddr, aindex, optInt, aslice, abuiltin, asrc, afill, placeOf, asetAll, undef, aload, apart, AV.cells, AV.one, aeval, updO, upd, initE, gdst, thenQ, blockQ, srcOk, Array.isEmpty, List.isEmpty, bytesV, reduceCtorEq, ↓reduceIte, Nat.reduceLT, Nat.reduceLeDiff, Nat.reduceEqDiff, Nat.reduceAdd, Nat.reduceMul, Nat.reducePow, Nat.reduceSub, Int.reduceLT, Int.reduceLE, Int.reduceToNat, RWire54, Try.ntmps4, h6, h00, h3, hge, eye_lt_nat, hi', hat, show ((1 : Nat) : Int) = 1 from rfl, Int.reduceBEq]
          refine hK _ _ ?_
          clear hK K
          refine awp_cond_k ?_
          intro X Y hX hY
          simp only [↓DN, UP, implies_true, forall_eq', ne_eq, if_true, if_false, aval, abin, aint, ashift, abool, astr, anil, aun, aconv, aindexAddr, aindex, optInt, aslice, abuiltin, asrc, afill, placeOf, asetAll, undef, aload, apart, AV.cells, AV.one, aeval, updO, upd, initE, gdst, thenQ, blockQ, srcOk, Array.isEmpty, List.isEmpty, bytesV, reduceCtorEq, ↓reduceIte, Nat.reduceLT, Nat.reduceLeDiff, Nat.reduceEqDiff, Nat.reduceAdd, Nat.reduceMul, Nat.reducePow, Nat.reduceSub, Int.reduceLT, Int.reduceLE, Int.reduceToNat, RWire54, Try.ntmps4, Bool.not_true, Bool.not_false, Bool.false_eq_true, Bool.true_eq_false, false_imp_iff, true_imp_iff, decide_eq_true_eq, decide_eq_false_iff_not]
          refine hY ?_
          clear hX hY X Y
          refine awp_reg_seq ?_
          intro K hK
          simp only [↓DN, UP, implies_true, forall_eq', ne_eq, if_true, if_false, aval, abin, aint, ashift, abool, astr, anil, aun, aconv, aindexAddr, aindex, optInt, aslice, abuiltin, asrc, afill, placeOf, asetAll, undef, aload, apart, AV.cells, AV.one, aeval, updO, upd, initE, gdst, thenQ, blockQ, srcOk, Array.isEmpty, List.isEmpty, bytesV, reduceCtorEq, ↓reduceIte, Nat.reduceLT, Nat.reduceLeDiff, Nat.reduceEqDiff, Nat.reduceAdd, Nat.reduceMul, Nat.reducePow, Nat.reduceSub, Int.reduceLT, Int.reduceLE, Int.reduceToNat, RWire54, Try.ntmps4, h6, h00, h3, hge, eye_lt_nat, hi', hat, show ((1 : Nat) : Int) = 1 from rfl, Int.reduceBEq]
          refine hK _ _ ?_
          clear hK K
          refine awp_cond_k ?_
          intro X Y hX hY
          simp only [↓DN, UP, implies_true, forall_eq', ne_eq, if_true, if_false, aval, abin, aint, ashift, abool, astr, anil, aun, aconv, aindexAddr, aindex, optInt, aslice, abuiltin, asrc, afill, placeOf, asetAll, undef, aload, apart, AV.cells, AV.one, aeval, updO, upd, initE, gdst, thenQ, blockQ, srcOk, Array.isEmpty, List.isEmpty, bytesV, reduceCtorEq, ↓reduceIte, Nat.reduceLT, Nat.reduceLeDiff, Nat.reduceEqDiff, Nat.reduceAdd, Nat.reduceMul, Nat.reducePow, Nat.reduceSub, Int.reduceLT, Int.reduceLE, Int.reduceToNat, RWire54, Try.ntmps4, Bool.not_true, Bool.not_false, Bool.false_eq_true, Bool.true_eq_false, false_imp_iff, true_imp_iff, decide_eq_true_eq, decide_eq_false_iff_not]
          refine hX ?_
          clear hX hY X Y
          refine awp_reg_end ?_
          intro K hK
          simp only [↓DN, UP, implies_true, forall_eq', ne_eq, if_true, if_false, aval, abin, aint, ashift, abool, astr, anil, aun, aconv, aindexAddr, aindex, optInt, aslice, abuiltin, asrc, afill, placeOf, asetAll, undef, aload, apart, AV.cells, AV.one, aeval, updO, upd, initE, gdst, thenQ, blockQ, srcOk, Array.isEmpty, List.isEmpty, bytesV, reduceCtorEq, ↓reduceIte, Nat.reduceLT, Nat.reduceLeDiff, Nat.reduceEqDiff, Nat.reduceAdd, Nat.reduceMul, Nat.reducePow, Nat.reduceSub, Int.reduceLT, Int.reduceLE, Int.reduceToNat, RWire54, Try.ntmps4, h6, h00, h3, hge, eye_lt_nat, hi', hat, show ((1 : Nat) : Int) = 1 from rfl, Int.reduceBEq]
          refine acallk (penU16_calls s' s3 p st n hnb (by omega) hp) ?_
          rintro r s4 ⟨rfl, hp4⟩
          simp only [↓AXq_nil, ↓AXq_cons, pval, List.contains_cons, List.contains_nil, Nat.reduceBEq, Bool.or_false, Bool.or_true, Bool.or_self, Bool.false_eq_true, Bool.false_or, ↓DN, UP, implies_true, forall_eq', ne_eq, if_true, if_false, aval, abin, aint, ashift, abool, astr, anil, aun, aconv, aindexAddr, aindex, optInt, aslice, abuiltin, asrc, afill, placeOf, asetAll, undef, aload, apart, AV.cells, AV.one, aeval, updO, upd, initE, gdst, thenQ, blockQ, srcOk, Array.isEmpty, List.isEmpty, bytesV, reduceCtorEq, ↓reduceIte, Nat.reduceLT, Nat.reduceLeDiff, Nat.reduceEqDiff, Nat.reduceAdd, Nat.reduceMul, Nat.reducePow, Nat.reduceSub, Int.reduceLT, Int.reduceLE, Int.reduceToNat, RWire54, Try.ntmps4]
          refine hK _ _ ?_
          clear hK K
          simp only [blockQ, thenQ, if_true, if_false]
          exact hrest _ _ (by simp only [upd, h00, Nat.reduceEqDiff, ↓reduceIte]) (by simp only [upd, h3, Nat.reduceEqDiff, ↓reduceIte]) (by simp only [upd, h4, Nat.reduceEqDiff, ↓reduceIte]) (by simp only [upd, h5, Nat.reduceEqDiff, ↓reduceIte]) (by simp only [upd, h6, Nat.reduceEqDiff, ↓reduceIte]) (by simp only [upd, ↓reduceIte, show ((1 : Nat) : Int) = 1 from rfl, Nat.reduceEqDiff, ↓reduceIte]) hp4
        · have hrest : ∀ (E2 : Env) (s4 : AS), E2 0 = .sl 3 ps.length (partsC ps) .any → E2 3 = .ptr p 0 → E2 4 = .v (.string ⟨W.toArray⟩) → E2 5 = .v (.bool ok) → E2 6 = .v (.int .i64 i) → E2 7 = .v (.int .i64 2) → PenS s' s4 p (penSmall 4 n st) → K4 E2 s4 := by
            intro E2 s4 g0 g3 g4 g5 g6 g7 g8
            refine hK4 _ _ ?_
            clear hK4 K4
            cases ok
            · have hbad : st.2 = true := by simpa using hst
              have hbad2 : (penSmall 4 n st).2 = true := pen_bad_small _ _ _ hbad
              have hlen2 := penSmall_len 4 n st
              refine awp_seq_k ?_
              intro K5 hK5
              refine awp_reg_seq ?_
              intro K hK
              simp only [↓DN, UP, implies_true, forall_eq', ne_eq, if_true, if_false, aval, abin, aint, ashift, abool, astr, anil, aun, aconv, aindexAddr, aindex, optInt, aslice, abuiltin, asrc, afill, placeOf, asetAll, undef, aload, apart, AV.cells, AV.one, aeval, updO, upd, initE, gdst, thenQ, blockQ, srcOk, Array.isEmpty, List.isEmpty, bytesV, reduceCtorEq, ↓reduceIte, Nat.reduceLT, Nat.reduceLeDiff, Nat.reduceEqDiff, Nat.reduceAdd, Nat.reduceMul, Nat.reducePow, Nat.reduceSub, Int.reduceLT, Int.reduceLE, Int.reduceToNat, RWire54, Try.ntmps4, g0, g3, g4, g5, g6, g7, hge, eye_lt_nat, hi', hat, Int.reduceBEq]
              refine hK _ _ ?_
              clear hK K
              refine awp_cond_k ?_
              intro X Y hX hY
              simp only [↓DN, UP, implies_true, forall_eq', ne_eq, if_true, if_false, aval, abin, aint, ashift, abool, astr, anil, aun, aconv, aindexAddr, aindex, optInt, aslice, abuiltin, asrc, afill, placeOf, asetAll, undef, aload, apart, AV.cells, AV.one, aeval, updO, upd, initE, gdst, thenQ, blockQ, srcOk, Array.isEmpty, List.isEmpty, bytesV, reduceCtorEq, ↓reduceIte, Nat.reduceLT, Nat.reduceLeDiff, Nat.reduceEqDiff, Nat.reduceAdd, Nat.reduceMul, Nat.reducePow, Nat.reduceSub, Int.reduceLT, Int.reduceLE, Int.reduceToNat, RWire54, Try.ntmps4, Bool.not_true, Bool.not_false, Bool.false_eq_true, Bool.true_eq_false, false_imp_iff, true_imp_iff, decide_eq_true_eq, decide_eq_false_iff_not]
              refine hX ?_
              clear hX hY X Y
              refine awp_drw_end T.mixed [8, 9] (by kernel_rfl) ?_
              intro K hK
              simp only [↓AXq_nil, ↓AXq_cons, pval, List.contains_cons, List.contains_nil, Nat.reduceBEq, Bool.or_false, Bool.or_true, Bool.or_self, Bool.false_eq_true, Bool.false_or, ↓DN, UP, implies_true, forall_eq', ne_eq, if_true, if_false, aval, abin, aint, ashift, abool, astr, anil, aun, aconv, aindexAddr, aindex, optInt, aslice, abuiltin, asrc, afill, placeOf, asetAll, undef, aload, apart, AV.cells, AV.one, aeval, updO, upd, initE, gdst, thenQ, blockQ, srcOk, Array.isEmpty, List.isEmpty, bytesV, reduceCtorEq, ↓reduceIte, Nat.reduceLT, Nat.reduceLeDiff, Nat.reduceEqDiff, Nat.reduceAdd, Nat.reduceMul, Nat.reducePow, Nat.reduceSub, Int.reduceLT, Int.reduceLE, Int.reduceToNat, RWire54, Try.ntmps4, g0, g3, g4, g5, g6, g7, hge, eye_lt_nat, hi', hat, Int.reduceBEq]
              refine hK _ _ ?_
              clear hK K
              simp only [blockQ, thenQ, if_true, if_false]
              refine hK5 _ _ ?_
              clear hK5 K5
              refine awp_seq_k ?_
              intro K5 hK5
              refine awp_reg_seq ?_
              intro K hK
              simp only [↓DN, UP, implies_true, forall_eq', ne_eq, if_true, if_false, aval, abin, aint, ashift, abool, astr, anil, aun, aconv, aindexAddr, aindex, optInt, aslice, abuiltin, asrc, afill, placeOf, asetAll, undef, aload, apart, AV.cells, AV.one, aeval, updO, upd, initE, gdst, thenQ, blockQ, srcOk, Array.isEmpty, List.isEmpty, bytesV, reduceCtorEq, ↓reduceIte, Nat.reduceLT, Nat.reduceLeDiff, Nat.reduceEqDiff, Nat.reduceAdd, Nat.reduceMul, Nat.reducePow, Nat.reduceSub, Int.reduceLT, Int.reduceLE, Int.reduceToNat, RWire54, Try.ntmps4, g0, g3, g4, g5, g6, g7, hge, eye_lt_nat, hi', hat, Int.reduceBEq]
              refine hK _ _ ?_
              clear hK K
              refine awp_cond_k ?_
              intro X Y hX hY
              simp only [↓DN, UP, implies_true, forall_eq', ne_eq, if_true, if_false, aval, abin, aint, ashift, abool, astr, anil, aun, aconv, aindexAddr, aindex, optInt, aslice, abuiltin, asrc, afill, placeOf, asetAll, undef, aload, apart, AV.cells, AV.one, aeval, updO, upd, initE, gdst, thenQ, blockQ, srcOk, Array.isEmpty, List.isEmpty, bytesV, reduceCtorEq, ↓reduceIte, Nat.reduceLT, Nat.reduceLeDiff, Nat.reduceEqDiff, Nat.reduceAdd, Nat.reduceMul, Nat.reducePow, Nat.reduceSub, Int.reduceLT, Int.reduceLE, Int.reduceToNat, RWire54, Try.ntmps4, Bool.not_true, Bool.not_false, Bool.false_eq_true, Bool.true_eq_false, false_imp_iff, true_imp_iff, decide_eq_true_eq, decide_eq_false_iff_not]
              refine hY ?_
              clear hX hY X Y
              refine awp_skip ?_
              refine hK5 _ _ ?_
              clear hK5 K5
              refine awp_seq_k ?_
              intro K5 hK5
              refine awp_reg_seq ?_
              intro K hK
              simp only [↓DN, UP, implies_true, forall_eq', ne_eq, if_true, if_false, aval, abin, aint, ashift, abool, astr, anil, aun, aconv, aindexAddr, aindex, optInt, aslice, abuiltin, asrc, afill, placeOf, asetAll, undef, aload, apart, AV.cells, AV.one, aeval, updO, upd, initE, gdst, thenQ, blockQ, srcOk, Array.isEmpty, List.isEmpty, bytesV, reduceCtorEq, ↓reduceIte, Nat.reduceLT, Nat.reduceLeDiff, Nat.reduceEqDiff, Nat.reduceAdd, Nat.reduceMul, Nat.reducePow, Nat.reduceSub, Int.reduceLT, Int.reduceLE, Int.reduceToNat, RWire54, Try.ntmps4, g0, g3, g4, g5, g6, g7, hge, eye_lt_nat, hi', hat, Int.reduceBEq]
              refine hK _ _ ?_
              clear hK K
              refine awp_cond_k ?_
              intro X Y hX hY
              simp only [↓DN, UP, implies_true, forall_eq', ne_eq, if_true, if_false, aval, abin, aint, ashift, abool, astr, anil, aun, aconv, aindexAddr, aindex, optInt, aslice, abuiltin, asrc, afill, placeOf, asetAll, undef, aload, apart, AV.cells, AV.one, aeval, updO, upd, initE, gdst, thenQ, blockQ, srcOk, Array.isEmpty, List.isEmpty, bytesV, reduceCtorEq, ↓reduceIte, Nat.reduceLT, Nat.reduceLeDiff, Nat.reduceEqDiff, Nat.reduceAdd, Nat.reduceMul, Nat.reducePow, Nat.reduceSub, Int.reduceLT, Int.reduceLE, Int.reduceToNat, RWire54, Try.ntmps4, Bool.not_true, Bool.not_false, Bool.false_eq_true, Bool.true_eq_false, false_imp_iff, true_imp_iff, decide_eq_true_eq, decide_eq_false_iff_not]
              refine hX ?_
              clear hX hY X Y
              refine awp_exit ?_
              simp only [blockQ, thenQ, if_true, if_false]
              exact hnext _ _ (W) false (penSmall 4 n st) (by simp only [upd, g6, Nat.reduceEqDiff, ↓reduceIte]) (by simp only [upd, g0, Nat.reduceEqDiff, ↓reduceIte]) (by simp only [upd, g3, Nat.reduceEqDiff, ↓reduceIte]) (by simp only [upd, g4, Nat.reduceEqDiff, ↓reduceIte]) (by simp only [upd, g5, Nat.reduceEqDiff, ↓reduceIte]) hbad2 (fun h => by cases h) (by omega) (by omega) g8
            · obtain ⟨st1, st2⟩ := st
              simp only [Bool.not_true] at hst
              have hW1 := hW rfl
              simp only at hW1
              subst hst
              subst hW1
              refine awp_seq_k ?_
              intro K5 hK5
              refine awp_reg_seq ?_
              intro K hK
              simp only [↓DN, UP, implies_true, forall_eq', ne_eq, if_true, if_false, aval, abin, aint, ashift, abool, astr, anil, aun, aconv, aindexAddr, aindex, optInt, aslice, abuiltin, asrc, afill, placeOf, asetAll, undef, aload, apart, AV.cells, AV.one, aeval, updO, upd, initE, gdst, thenQ, blockQ, srcOk, Array.isEmpty, List.isEmpty, bytesV, reduceCtorEq, ↓reduceIte, Nat.reduceLT, Nat.reduceLeDiff, Nat.reduceEqDiff, Nat.reduceAdd, Nat.reduceMul, Nat.reducePow, Nat.reduceSub, Int.reduceLT, Int.reduceLE, Int.reduceToNat, RWire54, Try.ntmps4, g0, g3, g4, g5, g6, g7, hge, eye_lt_nat, hi', hat, Int.reduceBEq]
              refine hK _ _ ?_
              clear hK K
              refine awp_cond_k ?_
              intro X Y hX hY
              simp only [↓DN, UP, implies_true, forall_eq', ne_eq, if_true, if_false, aval, abin, aint, ashift, abool, astr, anil, aun, aconv, aindexAddr, aindex, optInt, aslice, abuiltin, asrc, afill, placeOf, asetAll, undef, aload, apart, AV.cells, AV.one, aeval, updO, upd, initE, gdst, thenQ, blockQ, srcOk, Array.isEmpty, List.isEmpty, bytesV, reduceCtorEq, ↓reduceIte, Nat.reduceLT, Nat.reduceLeDiff, Nat.reduceEqDiff, Nat.reduceAdd, Nat.reduceMul, Nat.reducePow, Nat.reduceSub, Int.reduceLT, Int.reduceLE, Int.reduceToNat, RWire54, Try.ntmps4, Bool.not_true, Bool.not_false, Bool.false_eq_true, Bool.true_eq_false, false_imp_iff, true_imp_iff, decide_eq_true_eq, decide_eq_false_iff_not]
              refine hX ?_
              clear hX hY X Y
              refine awp_drw_end T.mixed [8, 9] (by kernel_rfl) ?_
              intro K hK
              simp only [↓AXq_nil, ↓AXq_cons, pval, List.contains_cons, List.contains_nil, Nat.reduceBEq, Bool.or_false, Bool.or_true, Bool.or_self, Bool.false_eq_true, Bool.false_or, ↓DN, UP, implies_true, forall_eq', ne_eq, if_true, if_false, aval, abin, aint, ashift, abool, astr, anil, aun, aconv, aindexAddr, aindex, optInt, aslice, abuiltin, asrc, afill, placeOf, asetAll, undef, aload, apart, AV.cells, AV.one, aeval, updO, upd, initE, gdst, thenQ, blockQ, srcOk, Array.isEmpty, List.isEmpty, bytesV, reduceCtorEq, ↓reduceIte, Nat.reduceLT, Nat.reduceLeDiff, Nat.reduceEqDiff, Nat.reduceAdd, Nat.reduceMul, Nat.reducePow, Nat.reduceSub, Int.reduceLT, Int.reduceLE, Int.reduceToNat, RWire54, Try.ntmps4, g0, g3, g4, g5, g6, g7, hge, eye_lt_nat, hi', hat, Int.reduceBEq]
              refine acallk (size01_calls 2 4 (by simp) _) ?_
              rintro r s5 ⟨rfl, rfl⟩
              simp only [↓AXq_nil, ↓AXq_cons, pval, List.contains_cons, List.contains_nil, Nat.reduceBEq, Bool.or_false, Bool.or_true, Bool.or_self, Bool.false_eq_true, Bool.false_or, ↓DN, UP, implies_true, forall_eq', ne_eq, if_true, if_false, aval, abin, aint, ashift, abool, astr, anil, aun, aconv, aindexAddr, aindex, optInt, aslice, abuiltin, asrc, afill, placeOf, asetAll, undef, aload, apart, AV.cells, AV.one, aeval, updO, upd, initE, gdst, thenQ, blockQ, srcOk, Array.isEmpty, List.isEmpty, bytesV, reduceCtorEq, ↓reduceIte, Nat.reduceLT, Nat.reduceLeDiff, Nat.reduceEqDiff, Nat.reduceAdd, Nat.reduceMul, Nat.reducePow, Nat.reduceSub, Int.reduceLT, Int.reduceLE, Int.reduceToNat, RWire54, Try.ntmps4, g0, g3, g4, g5, g6, g7, hge, eye_lt_nat, hi', hat, Int.reduceBEq]
              refine acallk (fits_calls n 4294967295 4 (by simp) _) ?_
              rintro r s6 ⟨rfl, rfl⟩
              by_cases hf : 0 ≤ n ∧ n ≤ 4294967295
              · rw [decide_eq_true hf.1, decide_eq_true hf.2]
                simp only [↓AXq_nil, ↓AXq_cons, pval, List.contains_cons, List.contains_nil, Nat.reduceBEq, Bool.or_false, Bool.or_true, Bool.or_self, Bool.false_eq_true, Bool.false_or, ↓DN, UP, implies_true, forall_eq', ne_eq, if_true, if_false, aval, abin, aint, ashift, abool, astr, anil, aun, aconv, aindexAddr, aindex, optInt, aslice, abuiltin, asrc, afill, placeOf, asetAll, undef, aload, apart, AV.cells, AV.one, aeval, updO, upd, initE, gdst, thenQ, blockQ, srcOk, Array.isEmpty, List.isEmpty, bytesV, reduceCtorEq, ↓reduceIte, Nat.reduceLT, Nat.reduceLeDiff, Nat.reduceEqDiff, Nat.reduceAdd, Nat.reduceMul, Nat.reducePow, Nat.reduceSub, Int.reduceLT, Int.reduceLE, Int.reduceToNat, RWire54, Try.ntmps4, g0, g3, g4, g5, g6, g7, hge, eye_lt_nat, hi', hat, Int.reduceBEq]
                refine hK _ _ ?_
                clear hK K
                simp only [blockQ, thenQ, if_true, if_false]
                refine hK5 _ _ ?_
                clear hK5 K5
                obtain ⟨n, rfl⟩ := Int.eq_ofNat_of_zero_le hf.1
                have hu := u64_conv (show n < 2 ^ 62 by omega)
                rw [penSmall_nat (by omega)] at g8
                refine awp_seq_k ?_
                intro K5 hK5
                refine awp_reg_seq ?_
                intro K hK
                simp only [↓DN, UP, implies_true, forall_eq', ne_eq, if_true, if_false, aval, abin, aint, ashift, abool, astr, anil, aun, aconv, aindexAddr, aindex, optInt, aslice, abuiltin, asrc, afill, placeOf, asetAll, undef, aload, apart, AV.cells, AV.one, aeval, updO, upd, initE, gdst, thenQ, blockQ, srcOk, Array.isEmpty, List.isEmpty, bytesV, reduceCtorEq, ↓reduceIte, Nat.reduceLT, Nat.reduceLeDiff, Nat.reduceEqDiff, Nat.reduceAdd, Nat.reduceMul, Nat.reducePow, Nat.reduceSub, Int.reduceLT, Int.reduceLE, Int.reduceToNat, RWire54, Try.ntmps4, g0, g3, g4, g5, g6, g7, hge, eye_lt_nat, hi', hat, Int.reduceBEq]
                refine hK _ _ ?_
                clear hK K
                refine awp_cond_k ?_
                intro X Y hX hY
                simp only [↓DN, UP, implies_true, forall_eq', ne_eq, if_true, if_false, aval, abin, aint, ashift, abool, astr, anil, aun, aconv, aindexAddr, aindex, optInt, aslice, abuiltin, asrc, afill, placeOf, asetAll, undef, aload, apart, AV.cells, AV.one, aeval, updO, upd, initE, gdst, thenQ, blockQ, srcOk, Array.isEmpty, List.isEmpty, bytesV, reduceCtorEq, ↓reduceIte, Nat.reduceLT, Nat.reduceLeDiff, Nat.reduceEqDiff, Nat.reduceAdd, Nat.reduceMul, Nat.reducePow, Nat.reduceSub, Int.reduceLT, Int.reduceLE, Int.reduceToNat, RWire54, Try.ntmps4, Bool.not_true, Bool.not_false, Bool.false_eq_true, Bool.true_eq_false, false_imp_iff, true_imp_iff, decide_eq_true_eq, decide_eq_false_iff_not]
                refine hY ?_
                clear hX hY X Y
                refine awp_skip ?_
                refine hK5 _ _ ?_
                clear hK5 K5
                refine awp_seq_k ?_
                intro K5 hK5
                refine awp_reg_seq ?_
                intro K hK
                simp only [↓DN, UP, implies_true, forall_eq', ne_eq, if_true, if_false, aval, abin, aint, ashift, abool, astr, anil, aun, aconv, aindexAddr, aindex, optInt, aslice, abuiltin, asrc, afill, placeOf, asetAll, undef, aload, apart, AV.cells, AV.one, aeval, updO, upd, initE, gdst, thenQ, blockQ, srcOk, Array.isEmpty, List.isEmpty, bytesV, reduceCtorEq, ↓reduceIte, Nat.reduceLT, Nat.reduceLeDiff, Nat.reduceEqDiff, Nat.reduceAdd, Nat.reduceMul, Nat.reducePow, Nat.reduceSub, Int.reduceLT, Int.reduceLE, Int.reduceToNat, RWire54, Try.ntmps4, g0, g3, g4, g5, g6, g7, hge, eye_lt_nat, hi', hat, Int.reduceBEq]
                refine hK _ _ ?_
                clear hK K
                refine awp_cond_k ?_
                intro X Y hX hY
                simp only [↓DN, UP, implies_true, forall_eq', ne_eq, if_true, if_false, aval, abin, aint, ashift, abool, astr, anil, aun, aconv, aindexAddr, aindex, optInt, aslice, abuiltin, asrc, afill, placeOf, asetAll, undef, aload, apart, AV.cells, AV.one, aeval, updO, upd, initE, gdst, thenQ, blockQ, srcOk, Array.isEmpty, List.isEmpty, bytesV, reduceCtorEq, ↓reduceIte, Nat.reduceLT, Nat.reduceLeDiff, Nat.reduceEqDiff, Nat.reduceAdd, Nat.reduceMul, Nat.reducePow, Nat.reduceSub, Int.reduceLT, Int.reduceLE, Int.reduceToNat, RWire54, Try.ntmps4, Bool.not_true, Bool.not_false, Bool.false_eq_true, Bool.true_eq_false, false_imp_iff, true_imp_iff, decide_eq_true_eq, decide_eq_false_iff_not]
                refine hY ?_
                clear hX hY X Y
                refine awp_skip ?_
                refine hK5 _ _ ?_
                clear hK5 K5
                refine awp_reg_seq ?_
                intro K hK
                simp only [↓DN, UP, implies_true, forall_eq', ne_eq, if_true, if_false, aval, abin, aint, ashift, abool, astr, anil, aun, aconv, aindexAddr, aindex, optInt, aslice, abuiltin, asrc, afill, placeOf, asetAll, undef, aload, apart, AV.cells, AV.one, aeval, updO, upd, initE, gdst, thenQ, blockQ, srcOk, Array.isEmpty, List.isEmpty, bytesV, reduceCtorEq, ↓reduceIte, Nat.reduceLT, Nat.reduceLeDiff, Nat.reduceEqDiff, Nat.reduceAdd, Nat.reduceMul, Nat.reducePow, Nat.reduceSub, Int.reduceLT, Int.reduceLE, Int.reduceToNat, RWire54, Try.ntmps4, g0, g3, g4, g5, g6, g7, hge, eye_lt_nat, hi', hat, Int.reduceBEq]
                refine hK _ _ ?_
                clear hK K
                refine awp_cond_k ?_
                intro X Y hX hY
                simp only [↓DN, UP, implies_true, forall_eq', ne_eq, if_true, if_false, aval, abin, aint, ashift, abool, astr, anil, aun, aconv, aindexAddr, aindex, optInt, aslice, abuiltin, asrc, afill, placeOf, asetAll, undef, aload, apart, AV.cells, AV.one, aeval, updO, upd, initE, gdst, thenQ, blockQ, srcOk, Array.isEmpty, List.isEmpty, bytesV, reduceCtorEq, ↓reduceIte, Nat.reduceLT, Nat.reduceLeDiff, Nat.reduceEqDiff, Nat.reduceAdd, Nat.reduceMul, Nat.reducePow, Nat.reduceSub, Int.reduceLT, Int.reduceLE, Int.reduceToNat, RWire54, Try.ntmps4, Bool.not_true, Bool.not_false, Bool.false_eq_true, Bool.true_eq_false, false_imp_iff, true_imp_iff, decide_eq_true_eq, decide_eq_false_iff_not]
                refine hX ?_
                clear hX hY X Y
                refine awp_drw_end T.mixed [8, 9] (by kernel_rfl) ?_
                intro K hK
                simp only [↓AXq_nil, ↓AXq_cons, pval, List.contains_cons, List.contains_nil, Nat.reduceBEq, Bool.or_false, Bool.or_true, Bool.or_self, Bool.false_eq_true, Bool.false_or, ↓DN, UP, implies_true, forall_eq', ne_eq, if_true, if_false, aval, abin, aint, ashift, abool, astr, anil, aun, aconv, aindexAddr, aindex, optInt, aslice, abuiltin, asrc, afill, placeOf, asetAll, undef, aload, apart, AV.cells, AV.one, aeval, updO, upd, initE, gdst, thenQ, blockQ, srcOk, Array.isEmpty, List.isEmpty, bytesV, reduceCtorEq, ↓reduceIte, Nat.reduceLT, Nat.reduceLeDiff, Nat.reduceEqDiff, Nat.reduceAdd, Nat.reduceMul, Nat.reducePow, Nat.reduceSub, Int.reduceLT, Int.reduceLE, Int.reduceToNat, RWire54, Try.ntmps4, g0, g3, g4, g5, g6, g7, hge, eye_lt_nat, hi', hat, Int.reduceBEq, hu]
                refine acallk (size01_calls 2 4 (by simp) _) ?_
                rintro r s7 ⟨rfl, rfl⟩
                simp only [↓AXq_nil, ↓AXq_cons, pval, List.contains_cons, List.contains_nil, Nat.reduceBEq, Bool.or_false, Bool.or_true, Bool.or_self, Bool.false_eq_true, Bool.false_or, ↓DN, UP, implies_true, forall_eq', ne_eq, if_true, if_false, aval, abin, aint, ashift, abool, astr, anil, aun, aconv, aindexAddr, aindex, optInt, aslice, abuiltin, asrc, afill, placeOf, asetAll, undef, aload, apart, AV.cells, AV.one, aeval, updO, upd, initE, gdst, thenQ, blockQ, srcOk, Array.isEmpty, List.isEmpty, bytesV, reduceCtorEq, ↓reduceIte, Nat.reduceLT, Nat.reduceLeDiff, Nat.reduceEqDiff, Nat.reduceAdd, Nat.reduceMul, Nat.reducePow, Nat.reduceSub, Int.reduceLT, Int.reduceLE, Int.reduceToNat, RWire54, Try.ntmps4, g0, g3, g4, g5, g6, g7, hge, eye_lt_nat, hi', hat, Int.reduceBEq]
                refine acallk (refNumber_calls n 4 (by omega) (by omega) _) ?_
                rintro r s8 ⟨rfl, rfl⟩
                simp only [↓AXq_nil, ↓AXq_cons, pval, List.contains_cons, List.contains_nil, Nat.reduceBEq, Bool.or_false, Bool.or_true, Bool.or_self, Bool.false_eq_true, Bool.false_or, ↓DN, UP, implies_true, forall_eq', ne_eq, if_true, if_false, aval, abin, aint, ashift, abool, astr, anil, aun, aconv, aindexAddr, aindex, optInt, aslice, abuiltin, asrc, afill, placeOf, asetAll, undef, aload, apart, AV.cells, AV.one, aeval, updO, upd, initE, gdst, thenQ, blockQ, srcOk, Array.isEmpty, List.isEmpty, bytesV, reduceCtorEq, ↓reduceIte, Nat.reduceLT, Nat.reduceLeDiff, Nat.reduceEqDiff, Nat.reduceAdd, Nat.reduceMul, Nat.reducePow, Nat.reduceSub, Int.reduceLT, Int.reduceLE, Int.reduceToNat, RWire54, Try.ntmps4, g0, g3, g4, g5, g6, g7, hge, eye_lt_nat, hi', hat, Int.reduceBEq, length_be, i64_room (show W.length + 4 < 2 ^ 62 by omega)]
                refine hK _ _ ?_
                clear hK K
                simp only [blockQ, thenQ, if_true, if_false]
                exact hnext _ _ (W ++ be 4 n) true (W ++ be 4 n, false) (by simp only [upd, g6, Nat.reduceEqDiff, ↓reduceIte]) (by simp only [upd, g0, Nat.reduceEqDiff, ↓reduceIte]) (by simp only [upd, g3, Nat.reduceEqDiff, ↓reduceIte]) (by simp only [upd, g4, Nat.reduceEqDiff, ↓reduceIte]) (by simp only [upd, g5, Nat.reduceEqDiff, ↓reduceIte]) rfl (fun _ => rfl) (by simp; omega) (by simp; omega) g8
              · rw [show (decide (0 ≤ n) && decide (n ≤ 4294967295)) = false from by simp; omega]
                simp only [↓AXq_nil, ↓AXq_cons, pval, List.contains_cons, List.contains_nil, Nat.reduceBEq, Bool.or_false, Bool.or_true, Bool.or_self, Bool.false_eq_true, Bool.false_or, ↓DN, UP, implies_true, forall_eq', ne_eq, if_true, if_false, aval, abin, aint, ashift, abool, astr, anil, aun, aconv, aindexAddr, aindex, optInt, aslice, abuiltin, asrc, afill, placeOf, asetAll, undef, aload, apart, AV.cells, AV.one, aeval, updO, upd, initE, gdst, thenQ, blockQ, srcOk, Array.isEmpty, List.isEmpty, bytesV, reduceCtorEq, ↓reduceIte, Nat.reduceLT, Nat.reduceLeDiff, Nat.reduceEqDiff, Nat.reduceAdd, Nat.reduceMul, Nat.reducePow, Nat.reduceSub, Int.reduceLT, Int.reduceLE, Int.reduceToNat, RWire54, Try.ntmps4, g0, g3, g4, g5, g6, g7, hge, eye_lt_nat, hi', hat, Int.reduceBEq]
                refine hK _ _ ?_
                clear hK K
                simp only [blockQ, thenQ, if_true, if_false]
                refine hK5 _ _ ?_
                clear hK5 K5
                rw [penSmall_no _ (by omega)] at g8
                refine awp_seq_k ?_
                intro K5 hK5
                refine awp_reg_seq ?_
                intro K hK
                simp only [↓DN, UP, implies_true, forall_eq', ne_eq, if_true, if_false, aval, abin, aint, ashift, abool, astr, anil, aun, aconv, aindexAddr, aindex, optInt, aslice, abuiltin, asrc, afill, placeOf, asetAll, undef, aload, apart, AV.cells, AV.one, aeval, updO, upd, initE, gdst, thenQ, blockQ, srcOk, Array.isEmpty, List.isEmpty, bytesV, reduceCtorEq, ↓reduceIte, Nat.reduceLT, Nat.reduceLeDiff, Nat.reduceEqDiff, Nat.reduceAdd, Nat.reduceMul, Nat.reducePow, Nat.reduceSub, Int.reduceLT, Int.reduceLE, Int.reduceToNat, RWire54, Try.ntmps4, g0, g3, g4, g5, g6, g7, hge, eye_lt_nat, hi', hat, Int.reduceBEq]
                refine hK _ _ ?_
                clear hK K
                refine awp_cond_k ?_
                intro X Y hX hY
                simp only [↓DN, UP, implies_true, forall_eq', ne_eq, if_true, if_false, aval, abin, aint, ashift, abool, astr, anil, aun, aconv, aindexAddr, aindex, optInt, aslice, abuiltin, asrc, afill, placeOf, asetAll, undef, aload, apart, AV.cells, AV.one, aeval, updO, upd, initE, gdst, thenQ, blockQ, srcOk, Array.isEmpty, List.isEmpty, bytesV, reduceCtorEq, ↓reduceIte, Nat.reduceLT, Nat.reduceLeDiff, Nat.reduceEqDiff, Nat.reduceAdd, Nat.reduceMul, Nat.reducePow, Nat.reduceSub, Int.reduceLT, Int.reduceLE, Int.reduceToNat, RWire54, Try.ntmps4, Bool.not_true, Bool.not_false, Bool.false_eq_true, Bool.true_eq_false, false_imp_iff, true_imp_iff, decide_eq_true_eq, decide_eq_false_iff_not]
                refine hY ?_
                clear hX hY X Y
                refine awp_skip ?_
                refine hK5 _ _ ?_
                clear hK5 K5
                refine awp_seq_k ?_
                intro K5 hK5
                refine awp_reg_seq ?_
                intro K hK
                simp only [↓DN, UP, implies_true, forall_eq', ne_eq, if_true, if_false, aval, abin, aint, ashift, abool, astr, anil, aun, aconv, aindexAddr, aindex, optInt, aslice, abuiltin, asrc, afill, placeOf, asetAll, undef, aload, apart, AV.cells, AV.one, aeval, updO, upd, initE, gdst, thenQ, blockQ, srcOk, Array.isEmpty, List.isEmpty, bytesV, reduceCtorEq, ↓reduceIte, Nat.reduceLT, Nat.reduceLeDiff, Nat.reduceEqDiff, Nat.reduceAdd, Nat.reduceMul, Nat.reducePow, Nat.reduceSub, Int.reduceLT, Int.reduceLE, Int.reduceToNat, RWire54, Try.ntmps4, g0, g3, g4, g5, g6, g7, hge, eye_lt_nat, hi', hat, Int.reduceBEq]
                refine hK _ _ ?_
                clear hK K
                refine awp_cond_k ?_
                intro X Y hX hY
                simp only [↓DN, UP, implies_true, forall_eq', ne_eq, if_true, if_false, aval, abin, aint, ashift, abool, astr, anil, aun, aconv, aindexAddr, aindex, optInt, aslice, abuiltin, asrc, afill, placeOf, asetAll, undef, aload, apart, AV.cells, AV.one, aeval, updO, upd, initE, gdst, thenQ, blockQ, srcOk, Array.isEmpty, List.isEmpty, bytesV, reduceCtorEq, ↓reduceIte, Nat.reduceLT, Nat.reduceLeDiff, Nat.reduceEqDiff, Nat.reduceAdd, Nat.reduceMul, Nat.reducePow, Nat.reduceSub, Int.reduceLT, Int.reduceLE, Int.reduceToNat, RWire54, Try.ntmps4, Bool.not_true, Bool.not_false, Bool.false_eq_true, Bool.true_eq_false, false_imp_iff, true_imp_iff, decide_eq_true_eq, decide_eq_false_iff_not]
                refine hX ?_
                clear hX hY X Y
                refine awp_exit ?_
                simp only [blockQ, thenQ, if_true, if_false]
                exact hnext _ _ (W) false (W, true) (by simp only [upd, g6, Nat.reduceEqDiff, ↓reduceIte]) (by simp only [upd, g0, Nat.reduceEqDiff, ↓reduceIte]) (by simp only [upd, g3, Nat.reduceEqDiff, ↓reduceIte]) (by simp only [upd, g4, Nat.reduceEqDiff, ↓reduceIte]) (by simp only [upd, g5, Nat.reduceEqDiff, ↓reduceIte]) rfl (fun h => by cases h) (by omega) (by simp only; omega) g8
          clear hK4
          refine awp_reg_seq ?_
          intro K hK
          simp only [↓DN, UP, implies_true, forall_eq', ne_eq, if_true, if_false, aval, abin, aint, ashift, abool, astr, anil, aun, aconv, aindexAddr, aindex, optInt, aslice, abuiltin, asrc, afill, placeOf, asetAll, undef, aload, apart, AV.cells, AV.one, aeval, updO, upd, initE, gdst, thenQ, blockQ, srcOk, Array.isEmpty, List.isEmpty, bytesV, reduceCtorEq, ↓reduceIte, Nat.reduceLT, Nat.reduceLeDiff, Nat.reduceEqDiff, Nat.reduceAdd, Nat.reduceMul, Nat.reducePow, Nat.reduceSub, Int.reduceLT, Int.reduceLE, Int.reduceToNat, RWire54, Try.ntmps4, h6, h00, h3, hge, eye_lt_nat, hi', hat, show ((2 : Nat) : Int) = 2 from rfl, Int.reduceBEq]
          refine hK _ _ ?_
          clear hK K
          refine awp_block ?_
          refine awp_reg_seq ?_
          intro K hK
          simp only [↓DN, UP, implies_true, forall_eq', ne_eq, if_true, if_false, aval, abin, aint, ashift, abool, astr, anil, aun, aconv, aindexAddr, aindex, optInt, aslice, abuiltin, asrc, afill, placeOf, asetAll, undef, aload, apart, AV.cells, AV.one, aeval, updO, upd, initE, gdst, thenQ, blockQ, srcOk, Array.isEmpty, List.isEmpty, bytesV, reduceCtorEq, ↓reduceIte, Nat.reduceLT, Nat.reduceLeDiff, Nat.reduceEqDiff, Nat.reduceAdd, Nat.reduceMul, Nat.reducePow, Nat.reduceSub, Int.reduceLT, Int.reduceLE, Int.reduceToNat, RWire54, Try.ntmps4, h6, h00, h3, hge, eye_lt_nat, hi', hat, show ((2 : Nat) : Int) = 2 from rfl, Int.reduceBEq]
          refine hK _ _ ?_
          clear hK K
          refine awp_cond_k ?_
          intro X Y hX hY
          simp only [↓DN, UP, implies_true, forall_eq', ne_eq, if_true, if_false, aval, abin, aint, ashift, abool, astr, anil, aun, aconv, aindexAddr, aindex, optInt, aslice, abuiltin, asrc, afill, placeOf, asetAll, undef, aload, apart, AV.cells, AV.one, aeval, updO, upd, initE, gdst, thenQ, blockQ, srcOk, Array.isEmpty, List.isEmpty, bytesV, reduceCtorEq, ↓reduceIte, Nat.reduceLT, Nat.reduceLeDiff, Nat.reduceEqDiff, Nat.reduceAdd, Nat.reduceMul, Nat.reducePow, Nat.reduceSub, Int.reduceLT, Int.reduceLE, Int.reduceToNat, RWire54, Try.ntmps4, Bool.not_true, Bool.not_false, Bool.false_eq_true, Bool.true_eq_false, false_imp_iff, true_imp_iff, decide_eq_true_eq, decide_eq_false_iff_not]
          refine hY ?_
          clear hX hY X Y
          refine awp_reg_seq ?_
          intro K hK
          simp only [↓DN, UP, implies_true, forall_eq', ne_eq, if_true, if_false, aval, abin, aint, ashift, abool, astr, anil, aun, aconv, aindexAddr, aindex, optInt, aslice, abuiltin, asrc, afill, placeOf, asetAll, undef, aload, apart, AV.cells, AV.one, aeval, updO, upd, initE, gdst, thenQ, blockQ, srcOk, Array.isEmpty, List.isEmpty, bytesV, reduceCtorEq, ↓reduceIte, Nat.reduceLT, Nat.reduceLeDiff, Nat.reduceEqDiff, Nat.reduceAdd, Nat.reduceMul, Nat.reducePow, Nat.reduceSub, Int.reduceLT, Int.reduceLE, Int.reduceToNat, RWire54, Try.ntmps4, h6, h00, h3, hge, eye_lt_nat, hi', hat, show ((2 : Nat) : Int) = 2 from rfl, Int.reduceBEq]
          refine hK _ _ ?_
          clear hK K
          refine awp_cond_k ?_
          intro X Y hX hY
          simp only [↓DN, UP, implies_true, forall_eq', ne_eq, if_true, if_false, aval, abin, aint, ashift, abool, astr, anil, aun, aconv, aindexAddr, aindex, optInt, aslice, abuiltin, asrc, afill, placeOf, asetAll, undef, aload, apart, AV.cells, AV.one, aeval, updO, upd, initE, gdst, thenQ, blockQ, srcOk, Array.isEmpty, List.isEmpty, bytesV, reduceCtorEq, ↓reduceIte, Nat.reduceLT, Nat.reduceLeDiff, Nat.reduceEqDiff, Nat.reduceAdd, Nat.reduceMul, Nat.reducePow, Nat.reduceSub, Int.reduceLT, Int.reduceLE, Int.reduceToNat, RWire54, Try.ntmps4, Bool.not_true, Bool.not_false, Bool.false_eq_true, Bool.true_eq_false, false_imp_iff, true_imp_iff, decide_eq_true_eq, decide_eq_false_iff_not]
          refine hY ?_
          clear hX hY X Y
          refine awp_reg_seq ?_
          intro K hK
          simp only [↓DN, UP, implies_true, forall_eq', ne_eq, if_true, if_false, aval, abin, aint, ashift, abool, astr, anil, aun, aconv, aindexAddr, aindex, optInt, aslice, abuiltin, asrc, afill, placeOf, asetAll, undef, aload, apart, AV.cells, AV.one, aeval, updO, upd, initE, gdst, thenQ, blockQ, srcOk, Array.isEmpty, List.isEmpty, bytesV, reduceCtorEq, ↓reduceIte, Nat.reduceLT, Nat.reduceLeDiff, Nat.reduceEqDiff, Nat.reduceAdd, Nat.reduceMul, Nat.reducePow, Nat.reduceSub, Int.reduceLT, Int.reduceLE, Int.reduceToNat, RWire54, Try.ntmps4, h6, h00, h3, hge, eye_lt_nat, hi', hat, show ((2 : Nat) : Int) = 2 from rfl, Int.reduceBEq]
          refine hK _ _ ?_
          clear hK K
          refine awp_cond_k ?_
          intro X Y hX hY
          simp only [↓DN, UP, implies_true, forall_eq', ne_eq, if_true, if_false, aval, abin, aint, ashift, abool, astr, anil, aun, aconv, aindexAddr, aindex, optInt, aslice, abuiltin, asrc, afill, placeOf, asetAll, undef, aload, apart, AV.cells, AV.one, aeval, updO, upd, initE, gdst, thenQ, blockQ, srcOk, Array.isEmpty, List.isEmpty, bytesV, reduceCtorEq, ↓reduceIte, Nat.reduceLT, Nat.reduceLeDiff, Nat.reduceEqDiff, Nat.reduceAdd, Nat.reduceMul, Nat.reducePow, Nat.reduceSub, Int.reduceLT, Int.reduceLE, Int.reduceToNat, RWire54, Try.ntmps4, Bool.not_true, Bool.not_false, Bool.false_eq_true, Bool.true_eq_false, false_imp_iff, true_imp_iff, decide_eq_true_eq, decide_eq_false_iff_not]
          refine hX ?_
          clear hX hY X Y
          refine awp_reg_end ?_
          intro K hK
          simp only [↓DN, UP, implies_true, forall_eq', ne_eq, if_true, if_false, aval, abin, aint, ashift, abool, astr, anil, aun, aconv, aindexAddr, aindex, optInt, aslice, abuiltin, asrc, afill, placeOf, asetAll, undef, aload, apart, AV.cells, AV.one, aeval, updO, upd, initE, gdst, thenQ, blockQ, srcOk, Array.isEmpty, List.isEmpty, bytesV, reduceCtorEq, ↓reduceIte, Nat.reduceLT, Nat.reduceLeDiff, Nat.reduceEqDiff, Nat.reduceAdd, Nat.reduceMul, Nat.reducePow, Nat.reduceSub, Int.reduceLT, Int.reduceLE, Int.reduceToNat, RWire54, Try.ntmps4, h6, h00, h3, hge, eye_lt_nat, hi', hat, show ((2 : Nat) : Int) = 2 from rfl, Int.reduceBEq]
          refine acallk (penU32_calls s' s3 p st n hnb (by omega) hp) ?_
          rintro r s4 ⟨rfl, hp4⟩
          simp only [↓AXq_nil, ↓AXq_cons, pval, List.contains_cons, List.contains_nil, Nat.reduceBEq, Bool.or_false, Bool.or_true, Bool.or_self, Bool.false_eq_true, Bool.false_or, ↓DN, UP, implies_true, forall_eq', ne_eq, if_true, if_false, aval, abin, aint, ashift, abool, astr, anil, aun, aconv, aindexAddr, aindex, optInt, aslice, abuiltin, asrc, afill, placeOf, asetAll, undef, aload, apart, AV.cells, AV.one, aeval, updO, upd, initE, gdst, thenQ, blockQ, srcOk, Array.isEmpty, List.isEmpty, bytesV, reduceCtorEq, ↓reduceIte, Nat.reduceLT, Nat.reduceLeDiff, Nat.reduceEqDiff, Nat.reduceAdd, Nat.reduceMul, Nat.reducePow, Nat.reduceSub, Int.reduceLT, Int.reduceLE, Int.reduceToNat, RWire54, Try.ntmps4]
          refine hK _ _ ?_
          clear hK K
          simp only [blockQ, thenQ, if_true, if_false]
          exact hrest _ _ (by simp only [upd, h00, Nat.reduceEqDiff, ↓reduceIte]) (by simp only [upd, h3, Nat.reduceEqDiff, ↓reduceIte]) (by simp only [upd, h4, Nat.reduceEqDiff, ↓reduceIte]) (by simp only [upd, h5, Nat.reduceEqDiff, ↓reduceIte]) (by simp only [upd, h6, Nat.reduceEqDiff, ↓reduceIte]) (by simp only [upd, ↓reduceIte, show ((2 : Nat) : Int) = 2 from rfl, Nat.reduceEqDiff, ↓reduceIte]) hp4
        · have hrest : ∀ (E2 : Env) (s4 : AS), E2 0 = .sl 3 ps.length (partsC ps) .any → E2 3 = .ptr p 0 → E2 4 = .v (.string ⟨W.toArray⟩) → E2 5 = .v (.bool ok) → E2 6 = .v (.int .i64 i) → E2 7 = .v (.int .i64 3) → PenS s' s4 p (penNum 8 (uN n) st) → K4 E2 s4 := by
            intro E2 s4 g0 g3 g4 g5 g6 g7 g8
            refine hK4 _ _ ?_
            clear hK4 K4
            cases ok
            · have hbad : st.2 = true := by simpa using hst
              have hbad2 : (penNum 8 (uN n) st).2 = true := pen_bad_num _ _ _ hbad
              have hlen2 := penNum_len 8 (uN n) st
              refine awp_seq_k ?_
              intro K5 hK5
              refine awp_reg_seq ?_
              intro K hK
              simp only [↓DN, UP, implies_true, forall_eq', ne_eq, if_true, if_false, aval, abin, aint, ashift, abool, astr, anil, aun, aconv, aindexAddr, aindex, optInt, aslice, abuiltin, asrc, afill, placeOf, asetAll, undef, aload, apart, AV.cells, AV.one, aeval, updO, upd, initE, gdst, thenQ, blockQ, srcOk, Array.isEmpty, List.isEmpty, bytesV, reduceCtorEq, ↓reduceIte, Nat.reduceLT, Nat.reduceLeDiff, Nat.reduceEqDiff, Nat.reduceAdd, Nat.reduceMul, Nat.reducePow, Nat.reduceSub, Int.reduceLT, Int.reduceLE, Int.reduceToNat, RWire54, Try.ntmps4, g0, g3, g4, g5, g6, g7, hge, eye_lt_nat, hi', hat, Int.reduceBEq]
              refine hK _ _ ?_
              clear hK K
              refine awp_cond_k ?_
              intro X Y hX hY
              simp only [↓DN, UP, implies_true, forall_eq', ne_eq, if_true, if_false, aval, abin, aint, ashift, abool, astr, anil, aun, aconv, aindexAddr, aindex, optInt, aslice, abuiltin, asrc, afill, placeOf, asetAll, undef, aload, apart, AV.cells, AV.one, aeval, updO, upd, initE, gdst, thenQ, blockQ, srcOk, Array.isEmpty, List.isEmpty, bytesV, reduceCtorEq, ↓reduceIte, Nat.reduceLT, Nat.reduceLeDiff, Nat.reduceEqDiff, Nat.reduceAdd, Nat.reduceMul, Nat.reducePow, Nat.reduceSub, Int.reduceLT, Int.reduceLE, Int.reduceToNat, RWire54, Try.ntmps4, Bool.not_true, Bool.not_false, Bool.false_eq_true, Bool.true_eq_false, false_imp_iff, true_imp_iff, decide_eq_true_eq, decide_eq_false_iff_not]
              refine hY ?_
              clear hX hY X Y
              refine awp_skip ?_
              refine hK5 _ _ ?_
              clear hK5 K5
              refine awp_seq_k ?_
              intro K5 hK5
              refine awp_reg_seq ?_
              intro K hK
              simp only [↓DN, UP, implies_true, forall_eq', ne_eq, if_true, if_false, aval, abin, aint, ashift, abool, astr, anil, aun, aconv, aindexAddr, aindex, optInt, aslice, abuiltin, asrc, afill, placeOf, asetAll, undef, aload, apart, AV.cells, AV.one, aeval, updO, upd, initE, gdst, thenQ, blockQ, srcOk, Array.isEmpty, List.isEmpty, bytesV, reduceCtorEq, ↓reduceIte, Nat.reduceLT, Nat.reduceLeDiff, Nat.reduceEqDiff, Nat.reduceAdd, Nat.reduceMul, Nat.reducePow, Nat.reduceSub, Int.reduceLT, Int.reduceLE, Int.reduceToNat, RWire54, Try.ntmps4, g0, g3, g4, g5, g6, g7, hge, eye_lt_nat, hi', hat, Int.reduceBEq]
              refine hK _ _ ?_
              clear hK K
              refine awp_cond_k ?_
              intro X Y hX hY
              simp only [↓DN, UP, implies_true, forall_eq', ne_eq, if_true, if_false, aval, abin, aint, ashift, abool, astr, anil, aun, aconv, aindexAddr, aindex, optInt, aslice, abuiltin, asrc, afill, placeOf, asetAll, undef, aload, apart, AV.cells, AV.one, aeval, updO, upd, initE, gdst, thenQ, blockQ, srcOk, Array.isEmpty, List.isEmpty, bytesV, reduceCtorEq, ↓reduceIte, Nat.reduceLT, Nat.reduceLeDiff, Nat.reduceEqDiff, Nat.reduceAdd, Nat.reduceMul, Nat.reducePow, Nat.reduceSub, Int.reduceLT, Int.reduceLE, Int.reduceToNat, RWire54, Try.ntmps4, Bool.not_true, Bool.not_false, Bool.false_eq_true, Bool.true_eq_false, false_imp_iff, true_imp_iff, decide_eq_true_eq, decide_eq_false_iff_not]
              refine hY ?_
              clear hX hY X Y
              refine awp_skip ?_
              refine hK5 _ _ ?_
              clear hK5 K5
              refine awp_seq_k ?_
              intro K5 hK5
              refine awp_reg_seq ?_
              intro K hK
              simp only [↓DN, UP, implies_true, forall_eq', ne_eq, if_true, if_false, aval, abin, aint, ashift, abool, astr, anil, aun, aconv, aindexAddr, aindex, optInt, aslice, abuiltin, asrc, afill, placeOf, asetAll, undef, aload, apart, AV.cells, AV.one, aeval, updO, upd, initE, gdst, thenQ, blockQ, srcOk, Array.isEmpty, List.isEmpty, bytesV, reduceCtorEq, ↓reduceIte, Nat.reduceLT, Nat.reduceLeDiff, Nat.reduceEqDiff, Nat.reduceAdd, Nat.reduceMul, Nat.reducePow, Nat.reduceSub, Int.reduceLT, Int.reduceLE, Int.reduceToNat, RWire54, Try.ntmps4, g0, g3, g4, g5, g6, g7, hge, eye_lt_nat, hi', hat, Int.reduceBEq]
              refine hK _ _ ?_
              clear hK K
              refine awp_cond_k ?_
              intro X Y hX hY
              simp only [↓DN, UP, implies_true, forall_eq', ne_eq, if_true, if_false, aval, abin, aint, ashift, abool, astr, anil, aun, aconv, aindexAddr, aindex, optInt, aslice, abuiltin, asrc, afill, placeOf, asetAll, undef, aload, apart, AV.cells, AV.one, aeval, updO, upd, initE, gdst, thenQ, blockQ, srcOk, Array.isEmpty, List.isEmpty, bytesV, reduceCtorEq, ↓reduceIte, Nat.reduceLT, Nat.reduceLeDiff, Nat.reduceEqDiff, Nat.reduceAdd, Nat.reduceMul, Nat.reducePow, Nat.reduceSub, Int.reduceLT, Int.reduceLE, Int.reduceToNat, RWire54, Try.ntmps4, Bool.not_true, Bool.not_false, Bool.false_eq_true, Bool.true_eq_false, false_imp_iff, true_imp_iff, decide_eq_true_eq, decide_eq_false_iff_not]
              refine hX ?_
              clear hX hY X Y
              refine awp_exit ?_
              simp only [blockQ, thenQ, if_true, if_false]
              exact hnext _ _ (W) false (penNum 8 (uN n) st) (by simp only [upd, g6, Nat.reduceEqDiff, ↓reduceIte]) (by simp only [upd, g0, Nat.reduceEqDiff, ↓reduceIte]) (by simp only [upd, g3, Nat.reduceEqDiff, ↓reduceIte]) (by simp only [upd, g4, Nat.reduceEqDiff, ↓reduceIte]) (by simp only [upd, g5, Nat.reduceEqDiff, ↓reduceIte]) hbad2 (fun h => by cases h) (by omega) (by omega) g8
            · obtain ⟨st1, st2⟩ := st
              simp only [Bool.not_true] at hst
              have hW1 := hW rfl
              simp only at hW1
              subst hst
              subst hW1
              refine awp_seq_k ?_
              intro K5 hK5
              refine awp_reg_seq ?_
              intro K hK
              simp only [↓DN, UP, implies_true, forall_eq', ne_eq, if_true, if_false, aval, abin, aint, ashift, abool, astr, anil, aun, aconv, aindexAddr, aindex, optInt, aslice, abuiltin, asrc, afill, placeOf, asetAll, undef, aload, apart, AV.cells, AV.one, aeval, updO, upd, initE, gdst, thenQ, blockQ, srcOk, Array.isEmpty, List.isEmpty, bytesV, reduceCtorEq, ↓reduceIte, Nat.reduceLT, Nat.reduceLeDiff, Nat.reduceEqDiff, Nat.reduceAdd, Nat.reduceMul, Nat.reducePow, Nat.reduceSub, Int.reduceLT, Int.reduceLE, Int.reduceToNat, RWire54, Try.ntmps4, g0, g3, g4, g5, g6, g7, hge, eye_lt_nat, hi', hat, Int.reduceBEq]
              refine hK _ _ ?_
              clear hK K
              refine awp_cond_k ?_
              intro X Y hX hY
              simp only [↓DN, UP, implies_true, forall_eq', ne_eq, if_true, if_false, aval, abin, aint, ashift, abool, astr, anil, aun, aconv, aindexAddr, aindex, optInt, aslice, abuiltin, asrc, afill, placeOf, asetAll, undef, aload, apart, AV.cells, AV.one, aeval, updO, upd, initE, gdst, thenQ, blockQ, srcOk, Array.isEmpty, List.isEmpty, bytesV, reduceCtorEq, ↓reduceIte, Nat.reduceLT, Nat.reduceLeDiff, Nat.reduceEqDiff, Nat.reduceAdd, Nat.reduceMul, Nat.reducePow, Nat.reduceSub, Int.reduceLT, Int.reduceLE, Int.reduceToNat, RWire54, Try.ntmps4, Bool.not_true, Bool.not_false, Bool.false_eq_true, Bool.true_eq_false, false_imp_iff, true_imp_iff, decide_eq_true_eq, decide_eq_false_iff_not]
              refine hY ?_
              clear hX hY X Y
              refine awp_skip ?_
              refine hK5 _ _ ?_
              clear hK5 K5
              rw [penNum_nat] at g8
              have hu := uN_eq n
              refine awp_seq_k ?_
              intro K5 hK5
              refine awp_reg_seq ?_
              intro K hK
              simp only [↓DN, UP, implies_true, forall_eq', ne_eq, if_true, if_false, aval, abin, aint, ashift, abool, astr, anil, aun, aconv, aindexAddr, aindex, optInt, aslice, abuiltin, asrc, afill, placeOf, asetAll, undef, aload, apart, AV.cells, AV.one, aeval, updO, upd, initE, gdst, thenQ, blockQ, srcOk, Array.isEmpty, List.isEmpty, bytesV, reduceCtorEq, ↓reduceIte, Nat.reduceLT, Nat.reduceLeDiff, Nat.reduceEqDiff, Nat.reduceAdd, Nat.reduceMul, Nat.reducePow, Nat.reduceSub, Int.reduceLT, Int.reduceLE, Int.reduceToNat, RWire54, Try.ntmps4, g0, g3, g4, g5, g6, g7, hge, eye_lt_nat, hi', hat, Int.reduceBEq]
              refine hK _ _ ?_
              clear hK K
              refine awp_cond_k ?_
              intro X Y hX hY
              simp only [↓DN, UP, implies_true, forall_eq', ne_eq, if_true, if_false, aval, abin, aint, ashift, abool, astr, anil, aun, aconv, aindexAddr, aindex, optInt, aslice, abuiltin, asrc, afill, placeOf, asetAll, undef, aload, apart, AV.cells, AV.one, aeval, updO, upd, initE, gdst, thenQ, blockQ, srcOk, Array.isEmpty, List.isEmpty, bytesV, reduceCtorEq, ↓reduceIte, Nat.reduceLT, Nat.reduceLeDiff, Nat.reduceEqDiff, Nat.reduceAdd, Nat.reduceMul, Nat.reducePow, Nat.reduceSub, Int.reduceLT, Int.reduceLE, Int.reduceToNat, RWire54, Try.ntmps4, Bool.not_true, Bool.not_false, Bool.false_eq_true, Bool.true_eq_false, false_imp_iff, true_imp_iff, decide_eq_true_eq, decide_eq_false_iff_not]
              refine hY ?_
              clear hX hY X Y
              refine awp_skip ?_
              refine hK5 _ _ ?_
              clear hK5 K5
              refine awp_seq_k ?_
              intro K5 hK5
              refine awp_reg_seq ?_
              intro K hK
              simp only [↓DN, UP, implies_true, forall_eq', ne_eq, if_true, if_false, aval, abin, aint, ashift, abool, astr, anil, aun, aconv, aindexAddr, aindex, optInt, aslice, abuiltin, asrc, afill, placeOf, asetAll, undef, aload, apart, AV.cells, AV.one, aeval, updO, upd, initE, gdst, thenQ, blockQ, srcOk, Array.isEmpty, List.isEmpty, bytesV, reduceCtorEq, ↓reduceIte, Nat.reduceLT, Nat.reduceLeDiff, Nat.reduceEqDiff, Nat.reduceAdd, Nat.reduceMul, Nat.reducePow, Nat.reduceSub, Int.reduceLT, Int.reduceLE, Int.reduceToNat, RWire54, Try.ntmps4, g0, g3, g4, g5, g6, g7, hge, eye_lt_nat, hi', hat, Int.reduceBEq]
              refine hK _ _ ?_
              clear hK K
              refine awp_cond_k ?_
              intro X Y hX hY
              simp only [↓DN, UP, implies_true, forall_eq', ne_eq, if_true, if_false, aval, abin, aint, ashift, abool, astr, anil, aun, aconv, aindexAddr, aindex, optInt, aslice, abuiltin, asrc, afill, placeOf, asetAll, undef, aload, apart, AV.cells, AV.one, aeval, updO, upd, initE, gdst, thenQ, blockQ, srcOk, Array.isEmpty, List.isEmpty, bytesV, reduceCtorEq, ↓reduceIte, Nat.reduceLT, Nat.reduceLeDiff, Nat.reduceEqDiff, Nat.reduceAdd, Nat.reduceMul, Nat.reducePow, Nat.reduceSub, Int.reduceLT, Int.reduceLE, Int.reduceToNat, RWire54, Try.ntmps4, Bool.not_true, Bool.not_false, Bool.false_eq_true, Bool.true_eq_false, false_imp_iff, true_imp_iff, decide_eq_true_eq, decide_eq_false_iff_not]
              refine hY ?_
              clear hX hY X Y
              refine awp_skip ?_
              refine hK5 _ _ ?_
              clear hK5 K5
              refine awp_reg_seq ?_
              intro K hK
              simp only [↓DN, UP, implies_true, forall_eq', ne_eq, if_true, if_false, aval, abin, aint, ashift, abool, astr, anil, aun, aconv, aindexAddr, aindex, optInt, aslice, abuiltin, asrc, afill, placeOf, asetAll, undef, aload, apart, AV.cells, AV.one, aeval, updO, upd, initE, gdst, thenQ, blockQ, srcOk, Array.isEmpty, List.isEmpty, bytesV, reduceCtorEq, ↓reduceIte, Nat.reduceLT, Nat.reduceLeDiff, Nat.reduceEqDiff, Nat.reduceAdd, Nat.reduceMul, Nat.reducePow, Nat.reduceSub, Int.reduceLT, Int.reduceLE, Int.reduceToNat, RWire54, Try.ntmps4, g0, g3, g4, g5, g6, g7, hge, eye_lt_nat, hi', hat, Int.reduceBEq]
              refine hK _ _ ?_
              clear hK K
              refine awp_cond_k ?_
              intro X Y hX hY
              simp only [↓DN, UP, implies_true, forall_eq', ne_eq, if_true, if_false, aval, abin, aint, ashift, abool, astr, anil, aun, aconv, aindexAddr, aindex, optInt, aslice, abuiltin, asrc, afill, placeOf, asetAll, undef, aload, apart, AV.cells, AV.one, aeval, updO, upd, initE, gdst, thenQ, blockQ, srcOk, Array.isEmpty, List.isEmpty, bytesV, reduceCtorEq, ↓reduceIte, Nat.reduceLT, Nat.reduceLeDiff, Nat.reduceEqDiff, Nat.reduceAdd, Nat.reduceMul, Nat.reducePow, Nat.reduceSub, Int.reduceLT, Int.reduceLE, Int.reduceToNat, RWire54, Try.ntmps4, Bool.not_true, Bool.not_false, Bool.false_eq_true, Bool.true_eq_false, false_imp_iff, true_imp_iff, decide_eq_true_eq, decide_eq_false_iff_not]
              refine hX ?_
              clear hX hY X Y
              refine awp_drw_end T.mixed [8, 9] (by kernel_rfl) ?_
              intro K hK
              simp only [↓AXq_nil, ↓AXq_cons, pval, List.contains_cons, List.contains_nil, Nat.reduceBEq, Bool.or_false, Bool.or_true, Bool.or_self, Bool.false_eq_true, Bool.false_or, ↓DN, UP, implies_true, forall_eq', ne_eq, if_true, if_false, aval, abin, aint, ashift, abool, astr, anil, aun, aconv, aindexAddr, aindex, optInt, aslice, abuiltin, asrc, afill, placeOf, asetAll, undef, aload, apart, AV.cells, AV.one, aeval, updO, upd, initE, gdst, thenQ, blockQ, srcOk, Array.isEmpty, List.isEmpty, bytesV, reduceCtorEq, ↓reduceIte, Nat.reduceLT, Nat.reduceLeDiff, Nat.reduceEqDiff, Nat.reduceAdd, Nat.reduceMul, Nat.reducePow, Nat.reduceSub, Int.reduceLT, Int.reduceLE, Int.reduceToNat, RWire54, Try.ntmps4, g0, g3, g4, g5, g6, g7, hge, eye_lt_nat, hi', hat, Int.reduceBEq, hu]
              refine acallk (size01_calls 3 8 (by simp) _) ?_
              rintro r s7 ⟨rfl, rfl⟩
              simp only [↓AXq_nil, ↓AXq_cons, pval, List.contains_cons, List.contains_nil, Nat.reduceBEq, Bool.or_false, Bool.or_true, Bool.or_self, Bool.false_eq_true, Bool.false_or, ↓DN, UP, implies_true, forall_eq', ne_eq, if_true, if_false, aval, abin, aint, ashift, abool, astr, anil, aun, aconv, aindexAddr, aindex, optInt, aslice, abuiltin, asrc, afill, placeOf, asetAll, undef, aload, apart, AV.cells, AV.one, aeval, updO, upd, initE, gdst, thenQ, blockQ, srcOk, Array.isEmpty, List.isEmpty, bytesV, reduceCtorEq, ↓reduceIte, Nat.reduceLT, Nat.reduceLeDiff, Nat.reduceEqDiff, Nat.reduceAdd, Nat.reduceMul, Nat.reducePow, Nat.reduceSub, Int.reduceLT, Int.reduceLE, Int.reduceToNat, RWire54, Try.ntmps4, g0, g3, g4, g5, g6, g7, hge, eye_lt_nat, hi', hat, Int.reduceBEq]
              refine acallk (refNumber_calls (uN n) 8 (uN_lt n) (by omega) _) ?_
              rintro r s8 ⟨rfl, rfl⟩
              simp only [↓AXq_nil, ↓AXq_cons, pval, List.contains_cons, List.contains_nil, Nat.reduceBEq, Bool.or_false, Bool.or_true, Bool.or_self, Bool.false_eq_true, Bool.false_or, ↓DN, UP, implies_true, forall_eq', ne_eq, if_true, if_false, aval, abin, aint, ashift, abool, astr, anil, aun, aconv, aindexAddr, aindex, optInt, aslice, abuiltin, asrc, afill, placeOf, asetAll, undef, aload, apart, AV.cells, AV.one, aeval, updO, upd, initE, gdst, thenQ, blockQ, srcOk, Array.isEmpty, List.isEmpty, bytesV, reduceCtorEq, ↓reduceIte, Nat.reduceLT, Nat.reduceLeDiff, Nat.reduceEqDiff, Nat.reduceAdd, Nat.reduceMul, Nat.reducePow, Nat.reduceSub, Int.reduceLT, Int.reduceLE, Int.reduceToNat, RWire54, Try.ntmps4, g0, g3, g4, g5, g6, g7, hge, eye_lt_nat, hi', hat, Int.reduceBEq, length_be, i64_room (show W.length + 8 < 2 ^ 62 by omega)]
              refine hK _ _ ?_
              clear hK K
              simp only [blockQ, thenQ, if_true, if_false]
              exact hnext _ _ (W ++ be 8 (uN n)) true (W ++ be 8 (uN n), false) (by simp only [upd, g6, Nat.reduceEqDiff, ↓reduceIte]) (by simp only [upd, g0, Nat.reduceEqDiff, ↓reduceIte]) (by simp only [upd, g3, Nat.reduceEqDiff, ↓reduceIte]) (by simp only [upd, g4, Nat.reduceEqDiff, ↓reduceIte]) (by simp only [upd, g5, Nat.reduceEqDiff, ↓reduceIte]) rfl (fun _ => rfl) (by simp; omega) (by simp; omega) g8
          clear hK4
          refine awp_reg_seq ?_
          intro K hK
          simp only [↓DN, UP, implies_true, forall_eq', ne_eq, if_true, if_false, aval, abin, aint, ashift, abool, astr, anil, aun, aconv, aindexAddr, aindex, optInt, aslice, abuiltin, asrc, afill, placeOf, asetAll, undef, aload, apart, AV.cells, AV.one, aeval, updO, upd, initE, gdst, thenQ, blockQ, srcOk, Array.isEmpty, List.isEmpty, bytesV, reduceCtorEq, ↓reduceIte, Nat.reduceLT, Nat.reduceLeDiff, Nat.reduceEqDiff, Nat.reduceAdd, Nat.reduceMul, Nat.reducePow, Nat.reduceSub, Int.reduceLT, Int.reduceLE, Int.reduceToNat, RWire54, Try.ntmps4, h6, h00, h3, hge, eye_lt_nat, hi', hat, show ((3 : Nat) : Int) = 3 from rfl, Int.reduceBEq]
          refine hK _ _ ?_
          clear hK K
          refine awp_block ?_
          refine awp_reg_seq ?_
          intro K hK
          simp only [↓DN, UP, implies_true, forall_eq', ne_eq, if_true, if_false, aval, abin, aint, ashift, abool, astr, anil, aun, aconv, aindexAddr, aindex, optInt, aslice, abuiltin, asrc, afill, placeOf, asetAll, undef, aload, apart, AV.cells, AV.one, aeval, updO, upd, initE, gdst, thenQ, blockQ, srcOk, Array.isEmpty, List.isEmpty, bytesV, reduceCtorEq, ↓reduceIte, Nat.reduceLT, Nat.reduceLeDiff, Nat.reduceEqDiff, Nat.reduceAdd, Nat.reduceMul, Nat.reducePow, Nat.reduceSub, Int.reduceLT, Int.reduceLE, Int.reduceToNat, RWire54, Try.ntmps4, h6, h00, h3, hge, eye_lt_nat, hi', hat, show ((3 : Nat) : Int) = 3 from rfl, Int.reduceBEq]
          refine hK _ _ ?_
          clear hK K
          refine awp_cond_k ?_
          intro X Y hX hY
          simp only [↓DN, UP, implies_true, forall_eq', ne_eq, if_true, if_false, aval, abin, aint, ashift, abool, astr, anil, aun, aconv, aindexAddr, aindex, optInt, aslice, abuiltin, asrc, afill, placeOf, asetAll, undef, aload, apart, AV.cells, AV.one, aeval, updO, upd, initE, gdst, thenQ, blockQ, srcOk, Array.isEmpty, List.isEmpty, bytesV, reduceCtorEq, ↓reduceIte, Nat.reduceLT, Nat.reduceLeDiff, Nat.reduceEqDiff, Nat.reduceAdd, Nat.reduceMul, Nat.reducePow, Nat.reduceSub, Int.reduceLT, Int.reduceLE, Int.reduceToNat, RWire54, Try.ntmps4, Bool.not_true, Bool.not_false, Bool.false_eq_true, Bool.true_eq_false, false_imp_iff, true_imp_iff, decide_eq_true_eq, decide_eq_false_iff_not]
          refine hY ?_
          clear hX hY X Y
          refine awp_reg_seq ?_
          intro K hK
          simp only [↓DN, UP, implies_true, forall_eq', ne_eq, if_true, if_false, aval, abin, aint, ashift, abool, astr, anil, aun, aconv, aindexAddr, aindex, optInt, aslice, abuiltin, asrc, afill, placeOf, asetAll, undef, aload, apart, AV.cells, AV.one, aeval, updO, upd, initE, gdst, thenQ, blockQ, srcOk, Array.isEmpty, List.isEmpty, bytesV, reduceCtorEq, ↓reduceIte, Nat.reduceLT, Nat.reduceLeDiff, Nat.reduceEqDiff, Nat.reduceAdd, Nat.reduceMul, Nat.reducePow, Nat.reduceSub, Int.reduceLT, Int.reduceLE, Int.reduceToNat, RWire54, Try.ntmps4, h6, h00, h3, hge, eye_lt_nat, hi', hat, show ((3 : Nat) : Int) = 3 from rfl, Int.reduceBEq]
          refine hK _ _ ?_
          clear hK K
          refine awp_cond_k ?_
          intro X Y hX hY
          simp only [↓DN, UP, implies_true, forall_eq', ne_eq, if_true, if_false, aval, abin, aint, ashift, abool, astr, anil, aun, aconv, aindexAddr, aindex, optInt, aslice, abuiltin, asrc, afill, placeOf, asetAll, undef, aload, apart, AV.cells, AV.one, aeval, updO, upd, initE, gdst, thenQ, blockQ, srcOk, Array.isEmpty, List.isEmpty, bytesV, reduceCtorEq, ↓reduceIte, Nat.reduceLT, Nat.reduceLeDiff, Nat.reduceEqDiff, Nat.reduceAdd, Nat.reduceMul, Nat.reducePow, Nat.reduceSub, Int.reduceLT, Int.reduceLE, Int.reduceToNat, RWire54, Try.ntmps4, Bool.not_true, Bool.not_false, Bool.false_eq_true, Bool.true_eq_false, false_imp_iff, true_imp_iff, decide_eq_true_eq, decide_eq_false_iff_not]
          refine hY ?_
          clear hX hY X Y
          refine awp_reg_seq ?_
          intro K hK
          simp only [↓DN, UP, implies_true, forall_eq', ne_eq, if_true, if_false, aval, abin, aint, ashift, abool, astr, anil, aun, aconv, aindexAddr, aindex, optInt, aslice, abuiltin, asrc, afill, placeOf, asetAll, undef, aload, apart, AV.cells, AV.one, aeval, updO, upd, initE, gdst, thenQ, blockQ, srcOk, Array.isEmpty, List.isEmpty, bytesV, reduceCtorEq, ↓reduceIte, Nat.reduceLT, Nat.reduceLeDiff, Nat.reduceEqDiff, Nat.reduceAdd, Nat.reduceMul, Nat.reducePow, Nat.reduceSub, Int.reduceLT, Int.reduceLE, Int.reduceToNat, RWire54, Try.ntmps4, h6, h00, h3, hge, eye_lt_nat, hi', hat, show ((3 : Nat) : Int) = 3 from rfl, Int.reduceBEq]
          refine hK _ _ ?_
          clear hK K
          refine awp_cond_k ?_
          intro X Y hX hY
          simp only [↓DN, UP, implies_true, forall_eq', ne_eq, if_true, if_false, aval, abin, aint, ashift, abool, astr, anil, aun, aconv, aindexAddr, aindex, optInt, aslice, abuiltin, asrc, afill, placeOf, asetAll, undef, aload, apart, AV.cells, AV.one, aeval, updO, upd, initE, gdst, thenQ, blockQ, srcOk, Array.isEmpty, List.isEmpty, bytesV, reduceCtorEq, ↓reduceIte, Nat.reduceLT, Nat.reduceLeDiff, Nat.reduceEqDiff, Nat.reduceAdd, Nat.reduceMul, Nat.reducePow, Nat.reduceSub, Int.reduceLT, Int.reduceLE, Int.reduceToNat, RWire54, Try.ntmps4, Bool.not_true, Bool.not_false, Bool.false_eq_true, Bool.true_eq_false, false_imp_iff, true_imp_iff, decide_eq_true_eq, decide_eq_false_iff_not]
          refine hY ?_
          clear hX hY X Y
          refine awp_reg_seq ?_
          intro K hK
          simp only [↓DN, UP, implies_true, forall_eq', ne_eq, if_true, if_false, aval, abin, aint, ashift, abool, astr, anil, aun, aconv, aindexAddr, aindex, optInt, aslice, abuiltin, asrc, afill, placeOf, asetAll, undef, aload, apart, AV.cells, AV.one, aeval, updO, upd, initE, gdst, thenQ, blockQ, srcOk, Array.isEmpty, List.isEmpty, bytesV, reduceCtorEq, ↓reduceIte, Nat.reduceLT, Nat.reduceLeDiff, Nat.reduceEqDiff, Nat.reduceAdd, Nat.reduceMul, Nat.reducePow, Nat.reduceSub, Int.reduceLT, Int.reduceLE, Int.reduceToNat, RWire54, Try.ntmps4, h6, h00, h3, hge, eye_lt_nat, hi', hat, show ((3 : Nat) : Int) = 3 from rfl, Int.reduceBEq]
          refine hK _ _ ?_
          clear hK K
          refine awp_cond_k ?_
          intro X Y hX hY
          simp only [↓DN, UP, implies_true, forall_eq', ne_eq, if_true, if_false, aval, abin, aint, ashift, abool, astr, anil, aun, aconv, aindexAddr, aindex, optInt, aslice, abuiltin, asrc, afill, placeOf, asetAll, undef, aload, apart, AV.cells, AV.one, aeval, updO, upd, initE, gdst, thenQ, blockQ, srcOk, Array.isEmpty, List.isEmpty, bytesV, reduceCtorEq, ↓reduceIte, Nat.reduceLT, Nat.reduceLeDiff, Nat.reduceEqDiff, Nat.reduceAdd, Nat.reduceMul, Nat.reducePow, Nat.reduceSub, Int.reduceLT, Int.reduceLE, Int.reduceToNat, RWire54, Try.ntmps4, Bool.not_true, Bool.not_false, Bool.false_eq_true, Bool.true_eq_false, false_imp_iff, true_imp_iff, decide_eq_true_eq, decide_eq_false_iff_not]
          refine hX ?_
          clear hX hY X Y
          refine awp_reg_end ?_
          intro K hK
          simp only [↓DN, UP, implies_true, forall_eq', ne_eq, if_true, if_false, aval, abin, aint, ashift, abool, astr, anil, aun, aconv, aindexAddr, aindex, optInt, aslice, abuiltin, asrc, afill, placeOf, asetAll, undef, aload, apart, AV.cells, AV.one, aeval, updO, upd, initE, gdst, thenQ, blockQ, srcOk, Array.isEmpty, List.isEmpty, bytesV, reduceCtorEq, ↓reduceIte, Nat.reduceLT, Nat.reduceLeDiff, Nat.reduceEqDiff, Nat.reduceAdd, Nat.reduceMul, Nat.reducePow, Nat.reduceSub, Int.reduceLT, Int.reduceLE, Int.reduceToNat, RWire54, Try.ntmps4, h6, h00, h3, hge, eye_lt_nat, hi', hat, show ((3 : Nat) : Int) = 3 from rfl, Int.reduceBEq, uN_eq n]
          refine acallk (penU64_calls s' s3 p st (uN n) (uN_lt n) (by omega) hp) ?_
          rintro r s4 ⟨rfl, hp4⟩
          simp only [↓AXq_nil, ↓AXq_cons, pval, List.contains_cons, List.contains_nil, Nat.reduceBEq, Bool.or_false, Bool.or_true, Bool.or_self, Bool.false_eq_true, Bool.false_or, ↓DN, UP, implies_true, forall_eq', ne_eq, if_true, if_false, aval, abin, aint, ashift, abool, astr, anil, aun, aconv, aindexAddr, aindex, optInt, aslice, abuiltin, asrc, afill, placeOf, asetAll, undef, aload, apart, AV.cells, AV.one, aeval, updO, upd, initE, gdst, thenQ, blockQ, srcOk, Array.isEmpty, List.isEmpty, bytesV, reduceCtorEq, ↓reduceIte, Nat.reduceLT, Nat.reduceLeDiff, Nat.reduceEqDiff, Nat.reduceAdd, Nat.reduceMul, Nat.reducePow, Nat.reduceSub, Int.reduceLT, Int.reduceLE, Int.reduceToNat, RWire54, Try.ntmps4]
          refine hK _ _ ?_
          clear hK K
          simp only [blockQ, thenQ, if_true, if_false]
          exact hrest _ _ (by simp only [upd, h00, Nat.reduceEqDiff, ↓reduceIte]) (by simp only [upd, h3, Nat.reduceEqDiff, ↓reduceIte]) (by simp only [upd, h4, Nat.reduceEqDiff, ↓reduceIte]) (by simp only [upd, h5, Nat.reduceEqDiff, ↓reduceIte]) (by simp only [upd, h6, Nat.reduceEqDiff, ↓reduceIte]) (by simp only [upd, ↓reduceIte, show ((3 : Nat) : Int) = 3 from rfl, Nat.reduceEqDiff, ↓reduceIte]) hp4
        · have hrest : ∀ (E2 : Env) (s4 : AS), E2 0 = .sl 3 ps.length (partsC ps) .any → E2 3 = .ptr p 0 → E2 4 = .v (.string ⟨W.toArray⟩) → E2 5 = .v (.bool ok) → E2 6 = .v (.int .i64 i) → E2 7 = .v (.int .i64 4) → PenS s' s4 p (penRaw b st) → K4 E2 s4 := by
            intro E2 s4 g0 g3 g4 g5 g6 g7 g8
            refine hK4 _ _ ?_
            clear hK4 K4
            cases ok
            · have hbad : st.2 = true := by simpa using hst
              have hbad2 : (penRaw b st).2 = true := pen_bad_raw _ _ hbad
              have hlen2 := penRaw_len b st
              refine awp_seq_k ?_
              intro K5 hK5
              refine awp_reg_seq ?_
              intro K hK
              simp only [↓DN, UP, implies_true, forall_eq', ne_eq, if_true, if_false, aval, abin, aint, ashift, abool, astr, anil, aun, aconv, aindexAddr, aindex, optInt, aslice, abuiltin, asrc, afill, placeOf, asetAll, undef, aload, apart, AV.cells, AV.one, aeval, updO, upd, initE, gdst, thenQ, blockQ, srcOk, Array.isEmpty, List.isEmpty, bytesV, reduceCtorEq, ↓reduceIte, Nat.reduceLT, Nat.reduceLeDiff, Nat.reduceEqDiff, Nat.reduceAdd, Nat.reduceMul, Nat.reducePow, Nat.reduceSub, Int.reduceLT, Int.reduceLE, Int.reduceToNat, RWire54, Try.ntmps4, g0, g3, g4, g5, g6, g7, hge, eye_lt_nat, hi', hat, Int.reduceBEq]
              refine hK _ _ ?_
              clear hK K
              refine awp_cond_k ?_
              intro X Y hX hY
              simp only [↓DN, UP, implies_true, forall_eq', ne_eq, if_true, if_false, aval, abin, aint, ashift, abool, astr, anil, aun, aconv, aindexAddr, aindex, optInt, aslice, abuiltin, asrc, afill, placeOf, asetAll, undef, aload, apart, AV.cells, AV.one, aeval, updO, upd, initE, gdst, thenQ, blockQ, srcOk, Array.isEmpty, List.isEmpty, bytesV, reduceCtorEq, ↓reduceIte, Nat.reduceLT, Nat.reduceLeDiff, Nat.reduceEqDiff, Nat.reduceAdd, Nat.reduceMul, Nat.reducePow, Nat.reduceSub, Int.reduceLT, Int.reduceLE, Int.reduceToNat, RWire54, Try.ntmps4, Bool.not_true, Bool.not_false, Bool.false_eq_true, Bool.true_eq_false, false_imp_iff, true_imp_iff, decide_eq_true_eq, decide_eq_false_iff_not]
              refine hY ?_
              clear hX hY X Y
              refine awp_skip ?_
              refine hK5 _ _ ?_
              clear hK5 K5
              refine awp_seq_k ?_
              intro K5 hK5
              refine awp_reg_seq ?_
              intro K hK
              simp only [↓DN, UP, implies_true, forall_eq', ne_eq, if_true, if_false, aval, abin, aint, ashift, abool, astr, anil, aun, aconv, aindexAddr, aindex, optInt, aslice, abuiltin, asrc, afill, placeOf, asetAll, undef, aload, apart, AV.cells, AV.one, aeval, updO, upd, initE, gdst, thenQ, blockQ, srcOk, Array.isEmpty, List.isEmpty, bytesV, reduceCtorEq, ↓reduceIte, Nat.reduceLT, Nat.reduceLeDiff, Nat.reduceEqDiff, Nat.reduceAdd, Nat.reduceMul, Nat.reducePow, Nat.reduceSub, Int.reduceLT, Int.reduceLE, Int.reduceToNat, RWire54, Try.ntmps4, g0, g3, g4, g5, g6, g7, hge, eye_lt_nat, hi', hat, Int.reduceBEq]
              refine hK _ _ ?_
              clear hK K
              refine awp_cond_k ?_
              intro X Y hX hY
              simp only [↓DN, UP, implies_true, forall_eq', ne_eq, if_true, if_false, aval, abin, aint, ashift, abool, astr, anil, aun, aconv, aindexAddr, aindex, optInt, aslice, abuiltin, asrc, afill, placeOf, asetAll, undef, aload, apart, AV.cells, AV.one, aeval, updO, upd, initE, gdst, thenQ, blockQ, srcOk, Array.isEmpty, List.isEmpty, bytesV, reduceCtorEq, ↓reduceIte, Nat.reduceLT, Nat.reduceLeDiff, Nat.reduceEqDiff, Nat.reduceAdd, Nat.reduceMul, Nat.reducePow, Nat.reduceSub, Int.reduceLT, Int.reduceLE, Int.reduceToNat, RWire54, Try.ntmps4, Bool.not_true, Bool.not_false, Bool.false_eq_true, Bool.true_eq_false, false_imp_iff, true_imp_iff, decide_eq_true_eq, decide_eq_false_iff_not]
              refine hY ?_
              clear hX hY X Y
              refine awp_skip ?_
              refine hK5 _ _ ?_
              clear hK5 K5
              refine awp_seq_k ?_
              intro K5 hK5
              refine awp_reg_seq ?_
              intro K hK
              simp only [↓DN, UP, implies_true, forall_eq', ne_eq, if_true, if_false, aval, abin, aint, ashift, abool, astr, anil, aun, aconv, aindexAddr, aindex, optInt, aslice, abuiltin, asrc, afill, placeOf, asetAll, undef, aload, apart, AV.cells, AV.one, aeval, updO, upd, initE, gdst, thenQ, blockQ, srcOk, Array.isEmpty, List.isEmpty, bytesV, reduceCtorEq, ↓reduceIte, Nat.reduceLT, Nat.reduceLeDiff, Nat.reduceEqDiff, Nat.reduceAdd, Nat.reduceMul, Nat.reducePow, Nat.reduceSub, Int.reduceLT, Int.reduceLE, Int.reduceToNat, RWire54, Try.ntmps4, g0, g3, g4, g5, g6, g7, hge, eye_lt_nat, hi', hat, Int.reduceBEq]
              refine hK _ _ ?_
              clear hK K
              refine awp_cond_k ?_
              intro X Y hX hY
              simp only [↓DN, UP, implies_true, forall_eq', ne_eq, if_true, if_false, aval, abin, aint, ashift, abool, astr, anil, aun, aconv, aindexAddr, aindex, optInt, aslice, abuiltin, asrc, afill, placeOf, asetAll, undef, aload, apart, AV.cells, AV.one, aeval, updO, upd, initE, gdst, thenQ, blockQ, srcOk, Array.isEmpty, List.isEmpty, bytesV, reduceCtorEq, ↓reduceIte, Nat.reduceLT, Nat.reduceLeDiff, Nat.reduceEqDiff, Nat.reduceAdd, Nat.reduceMul, Nat.reducePow, Nat.reduceSub, Int.reduceLT, Int.reduceLE, Int.reduceToNat, RWire54, Try.ntmps4, Bool.not_true, Bool.not_false, Bool.false_eq_true, Bool.true_eq_false, false_imp_iff, true_imp_iff, decide_eq_true_eq, decide_eq_false_iff_not]
              refine hX ?_
              clear hX hY X Y
              refine awp_exit ?_
              simp only [blockQ, thenQ, if_true, if_false]
              exact hnext _ _ (W) false (penRaw b st) (by simp only [upd, g6, Nat.reduceEqDiff, ↓reduceIte]) (by simp only [upd, g0, Nat.reduceEqDiff, ↓reduceIte]) (by simp only [upd, g3, Nat.reduceEqDiff, ↓reduceIte]) (by simp only [upd, g4, Nat.reduceEqDiff, ↓reduceIte]) (by simp only [upd, g5, Nat.reduceEqDiff, ↓reduceIte]) hbad2 (fun h => by cases h) (by omega) (by omega) g8
            · obtain ⟨st1, st2⟩ := st
              simp only [Bool.not_true] at hst
              have hW1 := hW rfl
              simp only at hW1
              subst hst
              subst hW1
              refine awp_seq_k ?_
              intro K5 hK5
              refine awp_reg_seq ?_
              intro K hK
              simp only [↓DN, UP, implies_true, forall_eq', ne_eq, if_true, if_false, aval, abin, aint, ashift, abool, astr, anil, aun, aconv, aindexAddr, aindex, optInt, aslice, abuiltin, asrc, afill, placeOf, asetAll, undef, aload, apart, AV.cells, AV.one, aeval, updO, upd, initE, gdst, thenQ, blockQ, srcOk, Array.isEmpty, List.isEmpty, bytesV, reduceCtorEq, ↓reduceIte, Nat.reduceLT, Nat.reduceLeDiff, Nat.reduceEqDiff, Nat.reduceAdd, Nat.reduceMul, Nat.reducePow, Nat.reduceSub, Int.reduceLT, Int.reduceLE, Int.reduceToNat, RWire54, Try.ntmps4, g0, g3, g4, g5, g6, g7, hge, eye_lt_nat, hi', hat, Int.reduceBEq]
              refine hK _ _ ?_
              clear hK K
              refine awp_cond_k ?_
              intro X Y hX hY
              simp only [↓DN, UP, implies_true, forall_eq', ne_eq, if_true, if_false, aval, abin, aint, ashift, abool, astr, anil, aun, aconv, aindexAddr, aindex, optInt, aslice, abuiltin, asrc, afill, placeOf, asetAll, undef, aload, apart, AV.cells, AV.one, aeval, updO, upd, initE, gdst, thenQ, blockQ, srcOk, Array.isEmpty, List.isEmpty, bytesV, reduceCtorEq, ↓reduceIte, Nat.reduceLT, Nat.reduceLeDiff, Nat.reduceEqDiff, Nat.reduceAdd, Nat.reduceMul, Nat.reducePow, Nat.reduceSub, Int.reduceLT, Int.reduceLE, Int.reduceToNat, RWire54, Try.ntmps4, Bool.not_true, Bool.not_false, Bool.false_eq_true, Bool.true_eq_false, false_imp_iff, true_imp_iff, decide_eq_true_eq, decide_eq_false_iff_not]
              refine hY ?_
              clear hX hY X Y
              refine awp_skip ?_
              refine hK5 _ _ ?_
              clear hK5 K5
              rw [penRaw_nat] at g8
              refine awp_seq_k ?_
              intro K5 hK5
              refine awp_reg_seq ?_
              intro K hK
              simp only [↓DN, UP, implies_true, forall_eq', ne_eq, if_true, if_false, aval, abin, aint, ashift, abool, astr, anil, aun, aconv, aindexAddr, aindex, optInt, aslice, abuiltin, asrc, afill, placeOf, asetAll, undef, aload, apart, AV.cells, AV.one, aeval, updO, upd, initE, gdst, thenQ, blockQ, srcOk, Array.isEmpty, List.isEmpty, bytesV, reduceCtorEq, ↓reduceIte, Nat.reduceLT, Nat.reduceLeDiff, Nat.reduceEqDiff, Nat.reduceAdd, Nat.reduceMul, Nat.reducePow, Nat.reduceSub, Int.reduceLT, Int.reduceLE, Int.reduceToNat, RWire54, Try.ntmps4, g0, g3, g4, g5, g6, g7, hge, eye_lt_nat, hi', hat, Int.reduceBEq]
              refine hK _ _ ?_
              clear hK K
              refine awp_cond_k ?_
              intro X Y hX hY
              simp only [↓DN, UP, implies_true, forall_eq', ne_eq, if_true, if_false, aval, abin, aint, ashift, abool, astr, anil, aun, aconv, aindexAddr, aindex, optInt, aslice, abuiltin, asrc, afill, placeOf, asetAll, undef, aload, apart, AV.cells, AV.one, aeval, updO, upd, initE, gdst, thenQ, blockQ, srcOk, Array.isEmpty, List.isEmpty, bytesV, reduceCtorEq, ↓reduceIte, Nat.reduceLT, Nat.reduceLeDiff, Nat.reduceEqDiff, Nat.reduceAdd, Nat.reduceMul, Nat.reducePow, Nat.reduceSub, Int.reduceLT, Int.reduceLE, Int.reduceToNat, RWire54, Try.ntmps4, Bool.not_true, Bool.not_false, Bool.false_eq_true, Bool.true_eq_false, false_imp_iff, true_imp_iff, decide_eq_true_eq, decide_eq_false_iff_not]
              refine hY ?_
              clear hX hY X Y
              refine awp_skip ?_
              refine hK5 _ _ ?_
              clear hK5 K5
              refine awp_seq_k ?_
              intro K5 hK5
              refine awp_reg_seq ?_
              intro K hK
              simp only [↓DN, UP, implies_true, forall_eq', ne_eq, if_true, if_false, aval, abin, aint, ashift, abool, astr, anil, aun, aconv, aindexAddr, aindex, optInt, aslice, abuiltin, asrc, afill, placeOf, asetAll, undef, aload, apart, AV.cells, AV.one, aeval, updO, upd, initE, gdst, thenQ, blockQ, srcOk, Array.isEmpty, List.isEmpty, bytesV, reduceCtorEq, ↓reduceIte, Nat.reduceLT, Nat.reduceLeDiff, Nat.reduceEqDiff, Nat.reduceAdd, Nat.reduceMul, Nat.reducePow, Nat.reduceSub, Int.reduceLT, Int.reduceLE, Int.reduceToNat, RWire54, Try.ntmps4, g0, g3, g4, g5, g6, g7, hge, eye_lt_nat, hi', hat, Int.reduceBEq]
              refine hK _ _ ?_
              clear hK K
              refine awp_cond_k ?_
              intro X Y hX hY
              simp only [↓DN, UP, implies_true, forall_eq', ne_eq, if_true, if_false, aval, abin, aint, ashift, abool, astr, anil, aun, aconv, aindexAddr, aindex, optInt, aslice, abuiltin, asrc, afill, placeOf, asetAll, undef, aload, apart, AV.cells, AV.one, aeval, updO, upd, initE, gdst, thenQ, blockQ, srcOk, Array.isEmpty, List.isEmpty, bytesV, reduceCtorEq, ↓reduceIte, Nat.reduceLT, Nat.reduceLeDiff, Nat.reduceEqDiff, Nat.reduceAdd, Nat.reduceMul, Nat.reducePow, Nat.reduceSub, Int.reduceLT, Int.reduceLE, Int.reduceToNat, RWire54, Try.ntmps4, Bool.not_true, Bool.not_false, Bool.false_eq_true, Bool.true_eq_false, false_imp_iff, true_imp_iff, decide_eq_true_eq, decide_eq_false_iff_not]
              refine hY ?_
              clear hX hY X Y
              refine awp_skip ?_
              refine hK5 _ _ ?_
              clear hK5 K5
              refine awp_reg_seq ?_
              intro K hK
              simp only [↓DN, UP, implies_true, forall_eq', ne_eq, if_true, if_false, aval, abin, aint, ashift, abool, astr, anil, aun, aconv, aindexAddr, aindex, optInt, aslice, abuiltin, asrc, afill, placeOf, asetAll, undef, aload, apart, AV.cells, AV.one, aeval, updO, upd, initE, gdst, thenQ, blockQ, srcOk, Array.isEmpty, List.isEmpty, bytesV, reduceCtorEq, ↓reduceIte, Nat.reduceLT, Nat.reduceLeDiff, Nat.reduceEqDiff, Nat.reduceAdd, Nat.reduceMul, Nat.reducePow, Nat.reduceSub, Int.reduceLT, Int.reduceLE, Int.reduceToNat, RWire54, Try.ntmps4, g0, g3, g4, g5, g6, g7, hge, eye_lt_nat, hi', hat, Int.reduceBEq]
              refine hK _ _ ?_
              clear hK K
              refine awp_cond_k ?_
              intro X Y hX hY
              simp only [↓DN, UP, implies_true, forall_eq', ne_eq, if_true, if_false, aval, abin, aint, ashift, abool, astr, anil, aun, aconv, aindexAddr, aindex, optInt, aslice, abuiltin, asrc, afill, placeOf, asetAll, undef, aload, apart, AV.cells, AV.one, aeval, updO, upd, initE, gdst, thenQ, blockQ, srcOk, Array.isEmpty, List.isEmpty, bytesV, reduceCtorEq, ↓reduceIte, Nat.reduceLT, Nat.reduceLeDiff, Nat.reduceEqDiff, Nat.reduceAdd, Nat.reduceMul, Nat.reducePow, Nat.reduceSub, Int.reduceLT, Int.reduceLE, Int.reduceToNat, RWire54, Try.ntmps4, Bool.not_true, Bool.not_false, Bool.false_eq_true, Bool.true_eq_false, false_imp_iff, true_imp_iff, decide_eq_true_eq, decide_eq_false_iff_not]
              refine hY ?_
              clear hX hY X Y
              refine awp_reg_seq ?_
              intro K hK
              simp only [↓DN, UP, implies_true, forall_eq', ne_eq, if_true, if_false, aval, abin, aint, ashift, abool, astr, anil, aun, aconv, aindexAddr, aindex, optInt, aslice, abuiltin, asrc, afill, placeOf, asetAll, undef, aload, apart, AV.cells, AV.one, aeval, updO, upd, initE, gdst, thenQ, blockQ, srcOk, Array.isEmpty, List.isEmpty, bytesV, reduceCtorEq, ↓reduceIte, Nat.reduceLT, Nat.reduceLeDiff, Nat.reduceEqDiff, Nat.reduceAdd, Nat.reduceMul, Nat.reducePow, Nat.reduceSub, Int.reduceLT, Int.reduceLE, Int.reduceToNat, RWire54, Try.ntmps4, g0, g3, g4, g5, g6, g7, hge, eye_lt_nat, hi', hat, Int.reduceBEq]
              refine hK _ _ ?_
              clear hK K
              refine awp_cond_k ?_
              intro X Y hX hY
              simp only [↓DN, UP, implies_true, forall_eq', ne_eq, if_true, if_false, aval, abin, aint, ashift, abool, astr, anil, aun, aconv, aindexAddr, aindex, optInt, aslice, abuiltin, asrc, afill, placeOf, asetAll, undef, aload, apart, AV.cells, AV.one, aeval, updO, upd, initE, gdst, thenQ, blockQ, srcOk, Array.isEmpty, List.isEmpty, bytesV, reduceCtorEq, ↓reduceIte, Nat.reduceLT, Nat.reduceLeDiff, Nat.reduceEqDiff, Nat.reduceAdd, Nat.reduceMul, Nat.reducePow, Nat.reduceSub, Int.reduceLT, Int.reduceLE, Int.reduceToNat, RWire54, Try.ntmps4, Bool.not_true, Bool.not_false, Bool.false_eq_true, Bool.true_eq_false, false_imp_iff, true_imp_iff, decide_eq_true_eq, decide_eq_false_iff_not]
              refine hX ?_
              clear hX hY X Y
              refine awp_reg_end ?_
              intro K hK
              simp only [↓DN, UP, implies_true, forall_eq', ne_eq, if_true, if_false, aval, abin, aint, ashift, abool, astr, anil, aun, aconv, aindexAddr, aindex, optInt, aslice, abuiltin, asrc, afill, placeOf, asetAll, undef, aload, apart, AV.cells, AV.one, aeval, updO, upd, initE, gdst, thenQ, blockQ, srcOk, Array.isEmpty, List.isEmpty, bytesV, reduceCtorEq, ↓reduceIte, Nat.reduceLT, Nat.reduceLeDiff, Nat.reduceEqDiff, Nat.reduceAdd, Nat.reduceMul, Nat.reducePow, Nat.reduceSub, Int.reduceLT, Int.reduceLE, Int.reduceToNat, RWire54, Try.ntmps4, g0, g3, g4, g5, g6, g7, hge, eye_lt_nat, hi', hat, Int.reduceBEq, i64_room (show W.length + b.length < 2 ^ 62 by omega)]
              refine hK _ _ ?_
              clear hK K
              simp only [blockQ, thenQ, if_true, if_false]
              exact hnext _ _ (W ++ b) true (W ++ b, false) (by simp only [upd, g6, Nat.reduceEqDiff, ↓reduceIte]) (by simp only [upd, g0, Nat.reduceEqDiff, ↓reduceIte]) (by simp only [upd, g3, Nat.reduceEqDiff, ↓reduceIte]) (by simp only [upd, g4, Nat.reduceEqDiff, ↓reduceIte]) (by simp only [upd, g5, Nat.reduceEqDiff, ↓reduceIte]) rfl (fun _ => rfl) (by simp; omega) (by simp; omega) g8
          clear hK4
          refine awp_reg_seq ?_
          intro K hK
          simp only [↓DN, UP, implies_true, forall_eq', ne_eq, if_true, if_false, aval, abin, aint, ashift, abool, astr, anil, aun, aconv, aindexAddr, aindex, optInt, aslice, abuiltin, asrc, afill, placeOf, asetAll, undef, aload, apart, AV.cells, AV.one, aeval, updO, upd, initE, gdst, thenQ, blockQ, srcOk, Array.isEmpty, List.isEmpty, bytesV, reduceCtorEq, ↓reduceIte, Nat.reduceLT, Nat.reduceLeDiff, Nat.reduceEqDiff, Nat.reduceAdd, Nat.reduceMul, Nat.reducePow, Nat.reduceSub, Int.reduceLT, Int.reduceLE, Int.reduceToNat, RWire54, Try.ntmps4, h6, h00, h3, hge, eye_lt_nat, hi', hat, show ((4 : Nat) : Int) = 4 from rfl, Int.reduceBEq]
          refine hK _ _ ?_
          clear hK K
          refine awp_block ?_
          refine awp_reg_seq ?_
          intro K hK
          simp only [↓DN, UP, implies_true, forall_eq', ne_eq, if_true, if_false, aval, abin, aint, ashift, abool, astr, anil, aun, aconv, aindexAddr, aindex, optInt, aslice, abuiltin, asrc, afill, placeOf, asetAll, undef, aload, apart, AV.cells, AV.one, aeval, updO, upd, initE, gdst, thenQ, blockQ, srcOk, Array.isEmpty, List.isEmpty, bytesV, reduceCtorEq, ↓reduceIte, Nat.reduceLT, Nat.reduceLeDiff, Nat.reduceEqDiff, Nat.reduceAdd, Nat.reduceMul, Nat.reducePow, Nat.reduceSub, Int.reduceLT, Int.reduceLE, Int.reduceToNat, RWire54, Try.ntmps4, h6, h00, h3, hge, eye_lt_nat, hi', hat, show ((4 : Nat) : Int) = 4 from rfl, Int.reduceBEq]
          refine hK _ _ ?_
          clear hK K
          refine awp_cond_k ?_
          intro X Y hX hY
          simp only [↓DN, UP, implies_true, forall_eq', ne_eq, if_true, if_false, aval, abin, aint, ashift, abool, astr, anil, aun, aconv, aindexAddr, aindex, optInt, aslice, abuiltin, asrc, afill, placeOf, asetAll, undef, aload, apart, AV.cells, AV.one, aeval, updO, upd, initE, gdst, thenQ, blockQ, srcOk, Array.isEmpty, List.isEmpty, bytesV, reduceCtorEq, ↓reduceIte, Nat.reduceLT, Nat.reduceLeDiff, Nat.reduceEqDiff, Nat.reduceAdd, Nat.reduceMul, Nat.reducePow, Nat.reduceSub, Int.reduceLT, Int.reduceLE, Int.reduceToNat, RWire54, Try.ntmps4, Bool.not_true, Bool.not_false, Bool.false_eq_true, Bool.true_eq_false, false_imp_iff, true_imp_iff, decide_eq_true_eq, decide_eq_false_iff_not]
          refine hY ?_
          clear hX hY X Y
          refine awp_reg_seq ?_
          intro K hK
          simp only [↓DN, UP, implies_true, forall_eq', ne_eq, if_true, if_false, aval, abin, aint, ashift, abool, astr, anil, aun, aconv, aindexAddr, aindex, optInt, aslice, abuiltin, asrc, afill, placeOf, asetAll, undef, aload, apart, AV.cells, AV.one, aeval, updO, upd, initE, gdst, thenQ, blockQ, srcOk, Array.isEmpty, List.isEmpty, bytesV, reduceCtorEq, ↓reduceIte, Nat.reduceLT, Nat.reduceLeDiff, Nat.reduceEqDiff, Nat.reduceAdd, Nat.reduceMul, Nat.reducePow, Nat.reduceSub, Int.reduceLT, Int.reduceLE, Int.reduceToNat, RWire54, Try.ntmps4, h6, h00, h3, hge, eye_lt_nat, hi', hat, show ((4 : Nat) : Int) = 4 from rfl, Int.reduceBEq]
          refine hK _ _ ?_
          clear hK K
          refine awp_cond_k ?_
          intro X Y hX hY
          simp only [↓DN, UP, implies_true, forall_eq', ne_eq, if_true, if_false, aval, abin, aint, ashift, abool, astr, anil, aun, aconv, aindexAddr, aindex, optInt, aslice, abuiltin, asrc, afill, placeOf, asetAll, undef, aload, apart, AV.cells, AV.one, aeval, updO, upd, initE, gdst, thenQ, blockQ, srcOk, Array.isEmpty, List.isEmpty, bytesV, reduceCtorEq, ↓reduceIte, Nat.reduceLT, Nat.reduceLeDiff, Nat.reduceEqDiff, Nat.reduceAdd, Nat.reduceMul, Nat.reducePow, Nat.reduceSub, Int.reduceLT, Int.reduceLE, Int.reduceToNat, RWire54, Try.ntmps4, Bool.not_true, Bool.not_false, Bool.false_eq_true, Bool.true_eq_false, false_imp_iff, true_imp_iff, decide_eq_true_eq, decide_eq_false_iff_not]
          refine hY ?_
          clear hX hY X Y
          refine awp_reg_seq ?_
          intro K hK
          simp only [↓DN, UP, implies_true, forall_eq', ne_eq, if_true, if_false, aval, abin, aint, ashift, abool, astr, anil, aun, aconv, aindexAddr, aindex, optInt, aslice, abuiltin, asrc, afill, placeOf, asetAll, undef, aload, apart, AV.cells, AV.one, aeval, updO, upd, initE, gdst, thenQ, blockQ, srcOk, Array.isEmpty, List.isEmpty, bytesV, reduceCtorEq, ↓reduceIte, Nat.reduceLT, Nat.reduceLeDiff, Nat.reduceEqDiff, Nat.reduceAdd, Nat.reduceMul, Nat.reducePow, Nat.reduceSub, Int.reduceLT, Int.reduceLE, Int.reduceToNat, RWire54, Try.ntmps4, h6, h00, h3, hge, eye_lt_nat, hi', hat, show ((4 : Nat) : Int) = 4 from rfl, Int.reduceBEq]
          refine hK _ _ ?_
          clear hK K
          refine awp_cond_k ?_
          intro X Y hX hY
          simp only [↓DN, UP, implies_true, forall_eq', ne_eq, if_true, if_false, aval, abin, aint, ashift, abool, astr, anil, aun, aconv, aindexAddr, aindex, optInt, aslice, abuiltin, asrc, afill, placeOf, asetAll, undef, aload, apart, AV.cells, AV.one, aeval, updO, upd, initE, gdst, thenQ, blockQ, srcOk, Array.isEmpty, List.isEmpty, bytesV, reduceCtorEq, ↓reduceIte, Nat.reduceLT, Nat.reduceLeDiff, Nat.reduceEqDiff, Nat.reduceAdd, Nat.reduceMul, Nat.reducePow, Nat.reduceSub, Int.reduceLT, Int.reduceLE, Int.reduceToNat, RWire54, Try.ntmps4, Bool.not_true, Bool.not_false, Bool.false_eq_true, Bool.true_eq_false, false_imp_iff, true_imp_iff, decide_eq_true_eq, decide_eq_false_iff_not]
          refine hY ?_
          clear hX hY X Y
          refine awp_reg_seq ?_
          intro K hK
          simp only [↓DN, UP, implies_true, forall_eq', ne_eq, if_true, if_false, aval, abin, aint, ashift, abool, astr, anil, aun, aconv, aindexAddr, aindex, optInt, aslice, abuiltin, asrc, afill, placeOf, asetAll, undef, aload, apart, AV.cells, AV.one, aeval, updO, upd, initE, gdst, thenQ, blockQ, srcOk, Array.isEmpty, List.isEmpty, bytesV, reduceCtorEq, ↓reduceIte, Nat.reduceLT, Nat.reduceLeDiff, Nat.reduceEqDiff, Nat.reduceAdd, Nat.reduceMul, Nat.reducePow, Nat.reduceSub, Int.reduceLT, Int.reduceLE, Int.reduceToNat, RWire54, Try.ntmps4, h6, h00, h3, hge, eye_lt_nat, hi', hat, show ((4 : Nat) : Int) = 4 from rfl, Int.reduceBEq]
          refine hK _ _ ?_
          clear hK K
          refine awp_cond_k ?_
          intro X Y hX hY
          simp only [↓DN, UP, implies_true, forall_eq', ne_eq, if_true, if_false, aval, abin, aint, ashift, abool, astr, anil, aun, aconv, aindexAddr, aindex, optInt, aslice, abuiltin, asrc, afill, placeOf, asetAll, undef, aload, apart, AV.cells, AV.one, aeval, updO, upd, initE, gdst, thenQ, blockQ, srcOk, Array.isEmpty, List.isEmpty, bytesV, reduceCtorEq, ↓reduceIte, Nat.reduceLT, Nat.reduceLeDiff, Nat.reduceEqDiff, Nat.reduceAdd, Nat.reduceMul, Nat.reducePow, Nat.reduceSub, Int.reduceLT, Int.reduceLE, Int.reduceToNat, RWire54, Try.ntmps4, Bool.not_true, Bool.not_false, Bool.false_eq_true, Bool.true_eq_false, false_imp_iff, true_imp_iff, decide_eq_true_eq, decide_eq_false_iff_not]
          refine hY ?_
          clear hX hY X Y
          refine awp_reg_seq ?_
          intro K hK
          simp only [↓DN, UP, implies_true, forall_eq', ne_eq, if_true, if_false, aval, abin, aint, ashift, abool, astr, anil, aun, aconv, aindexAddr, aindex, optInt, aslice, abuiltin, asrc, afill, placeOf, asetAll, undef, aload, apart, AV.cells, AV.one, aeval, updO, upd, initE, gdst, thenQ, blockQ, srcOk, Array.isEmpty, List.isEmpty, bytesV, reduceCtorEq, ↓reduceIte, Nat.reduceLT, Nat.reduceLeDiff, Nat.reduceEqDiff, Nat.reduceAdd, Nat.reduceMul, Nat.reducePow, Nat.reduceSub, Int.reduceLT, Int.reduceLE, Int.reduceToNat, RWire54, Try.ntmps4, h6, h00, h3, hge, eye_lt_nat, hi', hat, show ((4 : Nat) : Int) = 4 from rfl, Int.reduceBEq]
          refine hK _ _ ?_
          clear hK K
          refine awp_cond_k ?_
          intro X Y hX hY
          simp only [↓DN, UP, implies_true, forall_eq', ne_eq, if_true, if_false, aval, abin, aint, ashift, abool, astr, anil, aun, aconv, aindexAddr, aindex, optInt, aslice, abuiltin, asrc, afill, placeOf, asetAll, undef, aload, apart, AV.cells, AV.one, aeval, updO, upd, initE, gdst, thenQ, blockQ, srcOk, Array.isEmpty, List.isEmpty, bytesV, reduceCtorEq, ↓reduceIte, Nat.reduceLT, Nat.reduceLeDiff, Nat.reduceEqDiff, Nat.reduceAdd, Nat.reduceMul, Nat.reducePow, Nat.reduceSub, Int.reduceLT, Int.reduceLE, Int.reduceToNat, RWire54, Try.ntmps4, Bool.not_true, Bool.not_false, Bool.false_eq_true, Bool.true_eq_false, false_imp_iff, true_imp_iff, decide_eq_true_eq, decide_eq_false_iff_not]
          refine hX ?_
          clear hX hY X Y
          refine awp_reg_end ?_
          intro K hK
          simp only [↓DN, UP, implies_true, forall_eq', ne_eq, if_true, if_false, aval, abin, aint, ashift, abool, astr, anil, aun, aconv, aindexAddr, aindex, optInt, aslice, abuiltin, asrc, afill, placeOf, asetAll, undef, aload, apart, AV.cells, AV.one, aeval, updO, upd, initE, gdst, thenQ, blockQ, srcOk, Array.isEmpty, List.isEmpty, bytesV, reduceCtorEq, ↓reduceIte, Nat.reduceLT, Nat.reduceLeDiff, Nat.reduceEqDiff, Nat.reduceAdd, Nat.reduceMul, Nat.reducePow, Nat.reduceSub, Int.reduceLT, Int.reduceLE, Int.reduceToNat, RWire54, Try.ntmps4, h6, h00, h3, hge, eye_lt_nat, hi', hat, show ((4 : Nat) : Int) = 4 from rfl, Int.reduceBEq]
          refine acallk (penRaw_calls s' s3 p st _ b (IsB.any b) (by omega) hp) ?_
          rintro r s4 ⟨rfl, hp4⟩
          simp only [↓AXq_nil, ↓AXq_cons, pval, List.contains_cons, List.contains_nil, Nat.reduceBEq, Bool.or_false, Bool.or_true, Bool.or_self, Bool.false_eq_true, Bool.false_or, ↓DN, UP, implies_true, forall_eq', ne_eq, if_true, if_false, aval, abin, aint, ashift, abool, astr, anil, aun, aconv, aindexAddr, aindex, optInt, aslice, abuiltin, asrc, afill, placeOf, asetAll, undef, aload, apart, AV.cells, AV.one, aeval, updO, upd, initE, gdst, thenQ, blockQ, srcOk, Array.isEmpty, List.isEmpty, bytesV, reduceCtorEq, ↓reduceIte, Nat.reduceLT, Nat.reduceLeDiff, Nat.reduceEqDiff, Nat.reduceAdd, Nat.reduceMul, Nat.reducePow, Nat.reduceSub, Int.reduceLT, Int.reduceLE, Int.reduceToNat, RWire54, Try.ntmps4]
          refine hK _ _ ?_
          clear hK K
          simp only [blockQ, thenQ, if_true, if_false]
          exact hrest _ _ (by simp only [upd, h00, Nat.reduceEqDiff, ↓reduceIte]) (by simp only [upd, h3, Nat.reduceEqDiff, ↓reduceIte]) (by simp only [upd, h4, Nat.reduceEqDiff, ↓reduceIte]) (by simp only [upd, h5, Nat.reduceEqDiff, ↓reduceIte]) (by simp only [upd, h6, Nat.reduceEqDiff, ↓reduceIte]) (by simp only [upd, ↓reduceIte, show ((4 : Nat) : Int) = 4 from rfl, Nat.reduceEqDiff, ↓reduceIte]) hp4
        · have hrest : ∀ (E2 : Env) (s4 : AS), E2 0 = .sl 3 ps.length (partsC ps) .any → E2 3 = .ptr p 0 → E2 4 = .v (.string ⟨W.toArray⟩) → E2 5 = .v (.bool ok) → E2 6 = .v (.int .i64 i) → E2 7 = .v (.int .i64 5) → PenS s' s4 p (penText 1 b st) → K4 E2 s4 := by
            intro E2 s4 g0 g3 g4 g5 g6 g7 g8
            refine hK4 _ _ ?_
            clear hK4 K4
            cases ok
            · have hbad : st.2 = true := by simpa using hst
              have hbad2 : (penText 1 b st).2 = true := pen_bad_text _ _ _ hbad
              have hlen2 := penText_len 1 b st
              refine awp_seq_k ?_
              intro K5 hK5
              refine awp_reg_seq ?_
              intro K hK
              simp only [↓DN, UP, implies_true, forall_eq', ne_eq, if_true, if_false, aval, abin, aint, ashift, abool, astr, anil, aun, aconv, aindexAddr, aindex, optInt, aslice, abuiltin, asrc, afill, placeOf, asetAll, undef, aload, apart, AV.cells, AV.one, aeval, updO, upd, initE, gdst, thenQ, blockQ, srcOk, Array.isEmpty, List.isEmpty, bytesV, reduceCtorEq, ↓reduceIte, Nat.reduceLT, Nat.reduceLeDiff, Nat.reduceEqDiff, Nat.reduceAdd, Nat.reduceMul, Nat.reducePow, Nat.reduceSub, Int.reduceLT, Int.reduceLE, Int.reduceToNat, RWire54, Try.ntmps4, g0, g3, g4, g5, g6, g7, hge, eye_lt_nat, hi', hat, Int.reduceBEq]
              refine hK _ _ ?_
              clear hK K
              refine awp_cond_k ?_
              intro X Y hX hY
              simp only [↓DN, UP, implies_true, forall_eq', ne_eq, if_true, if_false, aval, abin, aint, ashift, abool, astr, anil, aun, aconv, aindexAddr, aindex, optInt, aslice, abuiltin, asrc, afill, placeOf, asetAll, undef, aload, apart, AV.cells, AV.one, aeval, updO, upd, initE, gdst, thenQ, blockQ, srcOk, Array.isEmpty, List.isEmpty, bytesV, reduceCtorEq, ↓reduceIte, Nat.reduceLT, Nat.reduceLeDiff, Nat.reduceEqDiff, Nat.reduceAdd, Nat.reduceMul, Nat.reducePow, Nat.reduceSub, Int.reduceLT, Int.reduceLE, Int.reduceToNat, RWire54, Try.ntmps4, Bool.not_true, Bool.not_false, Bool.false_eq_true, Bool.true_eq_false, false_imp_iff, true_imp_iff, decide_eq_true_eq, decide_eq_false_iff_not]
              refine hY ?_
              clear hX hY X Y
              refine awp_skip ?_
              refine hK5 _ _ ?_
              clear hK5 K5
              refine awp_seq_k ?_
              intro K5 hK5
              by_cases h255 : (255 : Int) < (b.length : Int)
              · refine awp_reg_seq ?_
                intro K hK
                simp only [↓DN, UP, implies_true, forall_eq', ne_eq, if_true, if_false, aval, abin, aint, ashift, abool, astr, anil, aun, aconv, aindexAddr, aindex, optInt, aslice, abuiltin, asrc, afill, placeOf, asetAll, undef, aload, apart, AV.cells, AV.one, aeval, updO, upd, initE, gdst, thenQ, blockQ, srcOk, Array.isEmpty, List.isEmpty, bytesV, reduceCtorEq, ↓reduceIte, Nat.reduceLT, Nat.reduceLeDiff, Nat.reduceEqDiff, Nat.reduceAdd, Nat.reduceMul, Nat.reducePow, Nat.reduceSub, Int.reduceLT, Int.reduceLE, Int.reduceToNat, RWire54, Try.ntmps4, g0, g3, g4, g5, g6, g7, hge, eye_lt_nat, hi', hat, Int.reduceBEq, decide_eq_true h255]
                refine hK _ _ ?_
                clear hK K
                refine awp_cond_k ?_
                intro X Y hX hY
                simp only [↓DN, UP, implies_true, forall_eq', ne_eq, if_true, if_false, aval, abin, aint, ashift, abool, astr, anil, aun, aconv, aindexAddr, aindex, optInt, aslice, abuiltin, asrc, afill, placeOf, asetAll, undef, aload, apart, AV.cells, AV.one, aeval, updO, upd, initE, gdst, thenQ, blockQ, srcOk, Array.isEmpty, List.isEmpty, bytesV, reduceCtorEq, ↓reduceIte, Nat.reduceLT, Nat.reduceLeDiff, Nat.reduceEqDiff, Nat.reduceAdd, Nat.reduceMul, Nat.reducePow, Nat.reduceSub, Int.reduceLT, Int.reduceLE, Int.reduceToNat, RWire54, Try.ntmps4, Bool.not_true, Bool.not_false, Bool.false_eq_true, Bool.true_eq_false, false_imp_iff, true_imp_iff, decide_eq_true_eq, decide_eq_false_iff_not]
                refine hX ?_
                clear hX hY X Y
                refine awp_reg_end ?_
                intro K hK
                simp only [↓DN, UP, implies_true, forall_eq', ne_eq, if_true, if_false, aval, abin, aint, ashift, abool, astr, anil, aun, aconv, aindexAddr, aindex, optInt, aslice, abuiltin, asrc, afill, placeOf, asetAll, undef, aload, apart, AV.cells, AV.one, aeval, updO, upd, initE, gdst, thenQ, blockQ, srcOk, Array.isEmpty, List.isEmpty, bytesV, reduceCtorEq, ↓reduceIte, Nat.reduceLT, Nat.reduceLeDiff, Nat.reduceEqDiff, Nat.reduceAdd, Nat.reduceMul, Nat.reducePow, Nat.reduceSub, Int.reduceLT, Int.reduceLE, Int.reduceToNat, RWire54, Try.ntmps4, g0, g3, g4, g5, g6, g7, hge, eye_lt_nat, hi', hat, Int.reduceBEq]
                refine hK _ _ ?_
                clear hK K
                refine hK5 _ _ ?_
                clear hK5 K5
                refine awp_seq_k ?_
                intro K5 hK5
                refine awp_reg_seq ?_
                intro K hK
                simp only [↓DN, UP, implies_true, forall_eq', ne_eq, if_true, if_false, aval, abin, aint, ashift, abool, astr, anil, aun, aconv, aindexAddr, aindex, optInt, aslice, abuiltin, asrc, afill, placeOf, asetAll, undef, aload, apart, AV.cells, AV.one, aeval, updO, upd, initE, gdst, thenQ, blockQ, srcOk, Array.isEmpty, List.isEmpty, bytesV, reduceCtorEq, ↓reduceIte, Nat.reduceLT, Nat.reduceLeDiff, Nat.reduceEqDiff, Nat.reduceAdd, Nat.reduceMul, Nat.reducePow, Nat.reduceSub, Int.reduceLT, Int.reduceLE, Int.reduceToNat, RWire54, Try.ntmps4, g0, g3, g4, g5, g6, g7, hge, eye_lt_nat, hi', hat, Int.reduceBEq]
                refine hK _ _ ?_
                clear hK K
                refine awp_cond_k ?_
                intro X Y hX hY
                simp only [↓DN, UP, implies_true, forall_eq', ne_eq, if_true, if_false, aval, abin, aint, ashift, abool, astr, anil, aun, aconv, aindexAddr, aindex, optInt, aslice, abuiltin, asrc, afill, placeOf, asetAll, undef, aload, apart, AV.cells, AV.one, aeval, updO, upd, initE, gdst, thenQ, blockQ, srcOk, Array.isEmpty, List.isEmpty, bytesV, reduceCtorEq, ↓reduceIte, Nat.reduceLT, Nat.reduceLeDiff, Nat.reduceEqDiff, Nat.reduceAdd, Nat.reduceMul, Nat.reducePow, Nat.reduceSub, Int.reduceLT, Int.reduceLE, Int.reduceToNat, RWire54, Try.ntmps4, Bool.not_true, Bool.not_false, Bool.false_eq_true, Bool.true_eq_false, false_imp_iff, true_imp_iff, decide_eq_true_eq, decide_eq_false_iff_not]
                refine hX ?_
                clear hX hY X Y
                refine awp_exit ?_
                simp only [blockQ, thenQ, if_true, if_false]
                exact hnext _ _ (W) false (penText 1 b st) (by simp only [upd, g6, Nat.reduceEqDiff, ↓reduceIte]) (by simp only [upd, g0, Nat.reduceEqDiff, ↓reduceIte]) (by simp only [upd, g3, Nat.reduceEqDiff, ↓reduceIte]) (by simp only [upd, g4, Nat.reduceEqDiff, ↓reduceIte]) (by simp only [upd, g5, Nat.reduceEqDiff, ↓reduceIte]) hbad2 (fun h => by cases h) (by omega) (by omega) g8
              · refine awp_reg_seq ?_
                intro K hK
                simp only [↓DN, UP, implies_true, forall_eq', ne_eq, if_true, if_false, aval, abin, aint, ashift, abool, astr, anil, aun, aconv, aindexAddr, aindex, optInt, aslice, abuiltin, asrc, afill, placeOf, asetAll, undef, aload, apart, AV.cells, AV.one, aeval, updO, upd, initE, gdst, thenQ, blockQ, srcOk, Array.isEmpty, List.isEmpty, bytesV, reduceCtorEq, ↓reduceIte, Nat.reduceLT, Nat.reduceLeDiff, Nat.reduceEqDiff, Nat.reduceAdd, Nat.reduceMul, Nat.reducePow, Nat.reduceSub, Int.reduceLT, Int.reduceLE, Int.reduceToNat, RWire54, Try.ntmps4, g0, g3, g4, g5, g6, g7, hge, eye_lt_nat, hi', hat, Int.reduceBEq, decide_eq_false h255]
                refine hK _ _ ?_
                clear hK K
                refine awp_cond_k ?_
                intro X Y hX hY
                simp only [↓DN, UP, implies_true, forall_eq', ne_eq, if_true, if_false, aval, abin, aint, ashift, abool, astr, anil, aun, aconv, aindexAddr, aindex, optInt, aslice, abuiltin, asrc, afill, placeOf, asetAll, undef, aload, apart, AV.cells, AV.one, aeval, updO, upd, initE, gdst, thenQ, blockQ, srcOk, Array.isEmpty, List.isEmpty, bytesV, reduceCtorEq, ↓reduceIte, Nat.reduceLT, Nat.reduceLeDiff, Nat.reduceEqDiff, Nat.reduceAdd, Nat.reduceMul, Nat.reducePow, Nat.reduceSub, Int.reduceLT, Int.reduceLE, Int.reduceToNat, RWire54, Try.ntmps4, Bool.not_true, Bool.not_false, Bool.false_eq_true, Bool.true_eq_false, false_imp_iff, true_imp_iff, decide_eq_true_eq, decide_eq_false_iff_not]
                refine hY ?_
                clear hX hY X Y
                refine awp_skip ?_
                refine hK5 _ _ ?_
                clear hK5 K5
                refine awp_seq_k ?_
                intro K5 hK5
                refine awp_reg_seq ?_
                intro K hK
                simp only [↓DN, UP, implies_true, forall_eq', ne_eq, if_true, if_false, aval, abin, aint, ashift, abool, astr, anil, aun, aconv, aindexAddr, aindex, optInt, aslice, abuiltin, asrc, afill, placeOf, asetAll, undef, aload, apart, AV.cells, AV.one, aeval, updO, upd, initE, gdst, thenQ, blockQ, srcOk, Array.isEmpty, List.isEmpty, bytesV, reduceCtorEq, ↓reduceIte, Nat.reduceLT, Nat.reduceLeDiff, Nat.reduceEqDiff, Nat.reduceAdd, Nat.reduceMul, Nat.reducePow, Nat.reduceSub, Int.reduceLT, Int.reduceLE, Int.reduceToNat, RWire54, Try.ntmps4, g0, g3, g4, g5, g6, g7, hge, eye_lt_nat, hi', hat, Int.reduceBEq]
                refine hK _ _ ?_
                clear hK K
                refine awp_cond_k ?_
                intro X Y hX hY
                simp only [↓DN, UP, implies_true, forall_eq', ne_eq, if_true, if_false, aval, abin, aint, ashift, abool, astr, anil, aun, aconv, aindexAddr, aindex, optInt, aslice, abuiltin, asrc, afill, placeOf, asetAll, undef, aload, apart, AV.cells, AV.one, aeval, updO, upd, initE, gdst, thenQ, blockQ, srcOk, Array.isEmpty, List.isEmpty, bytesV, reduceCtorEq, ↓reduceIte, Nat.reduceLT, Nat.reduceLeDiff, Nat.reduceEqDiff, Nat.reduceAdd, Nat.reduceMul, Nat.reducePow, Nat.reduceSub, Int.reduceLT, Int.reduceLE, Int.reduceToNat, RWire54, Try.ntmps4, Bool.not_true, Bool.not_false, Bool.false_eq_true, Bool.true_eq_false, false_imp_iff, true_imp_iff, decide_eq_true_eq, decide_eq_false_iff_not]
                refine hX ?_
                clear hX hY X Y
                refine awp_exit ?_
                simp only [blockQ, thenQ, if_true, if_false]
                exact hnext _ _ (W) false (penText 1 b st) (by simp only [upd, g6, Nat.reduceEqDiff, ↓reduceIte]) (by simp only [upd, g0, Nat.reduceEqDiff, ↓reduceIte]) (by simp only [upd, g3, Nat.reduceEqDiff, ↓reduceIte]) (by simp only [upd, g4, Nat.reduceEqDiff, ↓reduceIte]) (by simp only [upd, g5, Nat.reduceEqDiff, ↓reduceIte]) hbad2 (fun h => by cases h) (by omega) (by omega) g8
            · obtain ⟨st1, st2⟩ := st
              simp only [Bool.not_true] at hst
              have hW1 := hW rfl
              simp only at hW1
              subst hst
              subst hW1
              refine awp_seq_k ?_
              intro K5 hK5
              refine awp_reg_seq ?_
              intro K hK
              simp only [↓DN, UP, implies_true, forall_eq', ne_eq, if_true, if_false, aval, abin, aint, ashift, abool, astr, anil, aun, aconv, aindexAddr, aindex, optInt, aslice, abuiltin, asrc, afill, placeOf, asetAll, undef, aload, apart, AV.cells, AV.one, aeval, updO, upd, initE, gdst, thenQ, blockQ, srcOk, Array.isEmpty, List.isEmpty, bytesV, reduceCtorEq, ↓reduceIte, Nat.reduceLT, Nat.reduceLeDiff, Nat.reduceEqDiff, Nat.reduceAdd, Nat.reduceMul, Nat.reducePow, Nat.reduceSub, Int.reduceLT, Int.reduceLE, Int.reduceToNat, RWire54, Try.ntmps4, g0, g3, g4, g5, g6, g7, hge, eye_lt_nat, hi', hat, Int.reduceBEq]
              refine hK _ _ ?_
              clear hK K
              refine awp_cond_k ?_
              intro X Y hX hY
              simp only [↓DN, UP, implies_true, forall_eq', ne_eq, if_true, if_false, aval, abin, aint, ashift, abool, astr, anil, aun, aconv, aindexAddr, aindex, optInt, aslice, abuiltin, asrc, afill, placeOf, asetAll, undef, aload, apart, AV.cells, AV.one, aeval, updO, upd, initE, gdst, thenQ, blockQ, srcOk, Array.isEmpty, List.isEmpty, bytesV, reduceCtorEq, ↓reduceIte, Nat.reduceLT, Nat.reduceLeDiff, Nat.reduceEqDiff, Nat.reduceAdd, Nat.reduceMul, Nat.reducePow, Nat.reduceSub, Int.reduceLT, Int.reduceLE, Int.reduceToNat, RWire54, Try.ntmps4, Bool.not_true, Bool.not_false, Bool.false_eq_true, Bool.true_eq_false, false_imp_iff, true_imp_iff, decide_eq_true_eq, decide_eq_false_iff_not]
              refine hY ?_
              clear hX hY X Y
              refine awp_skip ?_
              refine hK5 _ _ ?_
              clear hK5 K5
              refine awp_seq_k ?_
              intro K5 hK5
              by_cases h255 : (255 : Int) < (b.length : Int)
              · refine awp_reg_seq ?_
                intro K hK
                simp only [↓DN, UP, implies_true, forall_eq', ne_eq, if_true, if_false, aval, abin, aint, ashift, abool, astr, anil, aun, aconv, aindexAddr, aindex, optInt, aslice, abuiltin, asrc, afill, placeOf, asetAll, undef, aload, apart, AV.cells, AV.one, aeval, updO, upd, initE, gdst, thenQ, blockQ, srcOk, Array.isEmpty, List.isEmpty, bytesV, reduceCtorEq, ↓reduceIte, Nat.reduceLT, Nat.reduceLeDiff, Nat.reduceEqDiff, Nat.reduceAdd, Nat.reduceMul, Nat.reducePow, Nat.reduceSub, Int.reduceLT, Int.reduceLE, Int.reduceToNat, RWire54, Try.ntmps4, g0, g3, g4, g5, g6, g7, hge, eye_lt_nat, hi', hat, Int.reduceBEq, decide_eq_true h255]
                refine hK _ _ ?_
                clear hK K
                refine awp_cond_k ?_
                intro X Y hX hY
                simp only [↓DN, UP, implies_true, forall_eq', ne_eq, if_true, if_false, aval, abin, aint, ashift, abool, astr, anil, aun, aconv, aindexAddr, aindex, optInt, aslice, abuiltin, asrc, afill, placeOf, asetAll, undef, aload, apart, AV.cells, AV.one, aeval, updO, upd, initE, gdst, thenQ, blockQ, srcOk, Array.isEmpty, List.isEmpty, bytesV, reduceCtorEq, ↓reduceIte, Nat.reduceLT, Nat.reduceLeDiff, Nat.reduceEqDiff, Nat.reduceAdd, Nat.reduceMul, Nat.reducePow, Nat.reduceSub, Int.reduceLT, Int.reduceLE, Int.reduceToNat, RWire54, Try.ntmps4, Bool.not_true, Bool.not_false, Bool.false_eq_true, Bool.true_eq_false, false_imp_iff, true_imp_iff, decide_eq_true_eq, decide_eq_false_iff_not]
                refine hX ?_
                clear hX hY X Y
                refine awp_reg_end ?_
                intro K hK
                simp only [↓DN, UP, implies_true, forall_eq', ne_eq, if_true, if_false, aval, abin, aint, ashift, abool, astr, anil, aun, aconv, aindexAddr, aindex, optInt, aslice, abuiltin, asrc, afill, placeOf, asetAll, undef, aload, apart, AV.cells, AV.one, aeval, updO, upd, initE, gdst, thenQ, blockQ, srcOk, Array.isEmpty, List.isEmpty, bytesV, reduceCtorEq, ↓reduceIte, Nat.reduceLT, Nat.reduceLeDiff, Nat.reduceEqDiff, Nat.reduceAdd, Nat.reduceMul, Nat.reducePow, Nat.reduceSub, Int.reduceLT, Int.reduceLE, Int.reduceToNat, RWire54, Try.ntmps4, g0, g3, g4, g5, g6, g7, hge, eye_lt_nat, hi', hat, Int.reduceBEq]
                refine hK _ _ ?_
                clear hK K
                refine hK5 _ _ ?_
                clear hK5 K5
                rw [penText_no _ (by omega)] at g8
                refine awp_seq_k ?_
                intro K5 hK5
                refine awp_reg_seq ?_
                intro K hK
                simp only [↓DN, UP, implies_true, forall_eq', ne_eq, if_true, if_false, aval, abin, aint, ashift, abool, astr, anil, aun, aconv, aindexAddr, aindex, optInt, aslice, abuiltin, asrc, afill, placeOf, asetAll, undef, aload, apart, AV.cells, AV.one, aeval, updO, upd, initE, gdst, thenQ, blockQ, srcOk, Array.isEmpty, List.isEmpty, bytesV, reduceCtorEq, ↓reduceIte, Nat.reduceLT, Nat.reduceLeDiff, Nat.reduceEqDiff, Nat.reduceAdd, Nat.reduceMul, Nat.reducePow, Nat.reduceSub, Int.reduceLT, Int.reduceLE, Int.reduceToNat, RWire54, Try.ntmps4, g0, g3, g4, g5, g6, g7, hge, eye_lt_nat, hi', hat, Int.reduceBEq]
                refine hK _ _ ?_
                clear hK K
                refine awp_cond_k ?_
                intro X Y hX hY
                simp only [↓DN, UP, implies_true, forall_eq', ne_eq, if_true, if_false, aval, abin, aint, ashift, abool, astr, anil, aun, aconv, aindexAddr, aindex, optInt, aslice, abuiltin, asrc, afill, placeOf, asetAll, undef, aload, apart, AV.cells, AV.one, aeval, updO, upd, initE, gdst, thenQ, blockQ, srcOk, Array.isEmpty, List.isEmpty, bytesV, reduceCtorEq, ↓reduceIte, Nat.reduceLT, Nat.reduceLeDiff, Nat.reduceEqDiff, Nat.reduceAdd, Nat.reduceMul, Nat.reducePow, Nat.reduceSub, Int.reduceLT, Int.reduceLE, Int.reduceToNat, RWire54, Try.ntmps4, Bool.not_true, Bool.not_false, Bool.false_eq_true, Bool.true_eq_false, false_imp_iff, true_imp_iff, decide_eq_true_eq, decide_eq_false_iff_not]
                refine hX ?_
                clear hX hY X Y
                refine awp_exit ?_
                simp only [blockQ, thenQ, if_true, if_false]
                exact hnext _ _ (W) false (W, true) (by simp only [upd, g6, Nat.reduceEqDiff, ↓reduceIte]) (by simp only [upd, g0, Nat.reduceEqDiff, ↓reduceIte]) (by simp only [upd, g3, Nat.reduceEqDiff, ↓reduceIte]) (by simp only [upd, g4, Nat.reduceEqDiff, ↓reduceIte]) (by simp only [upd, g5, Nat.reduceEqDiff, ↓reduceIte]) rfl (fun h => by cases h) (by omega) (by simp only; omega) g8
              · refine awp_reg_seq ?_
                intro K hK
                simp only [↓DN, UP, implies_true, forall_eq', ne_eq, if_true, if_false, aval, abin, aint, ashift, abool, astr, anil, aun, aconv, aindexAddr, aindex, optInt, aslice, abuiltin, asrc, afill, placeOf, asetAll, undef, aload, apart, AV.cells, AV.one, aeval, updO, upd, initE, gdst, thenQ, blockQ, srcOk, Array.isEmpty, List.isEmpty, bytesV, reduceCtorEq, ↓reduceIte, Nat.reduceLT, Nat.reduceLeDiff, Nat.reduceEqDiff, Nat.reduceAdd, Nat.reduceMul, Nat.reducePow, Nat.reduceSub, Int.reduceLT, Int.reduceLE, Int.reduceToNat, RWire54, Try.ntmps4, g0, g3, g4, g5, g6, g7, hge, eye_lt_nat, hi', hat, Int.reduceBEq, decide_eq_false h255]
                refine hK _ _ ?_
                clear hK K
                refine awp_cond_k ?_
                intro X Y hX hY
                simp only [↓DN, UP, implies_true, forall_eq', ne_eq, if_true, if_false, aval, abin, aint, ashift, abool, astr, anil, aun, aconv, aindexAddr, aindex, optInt, aslice, abuiltin, asrc, afill, placeOf, asetAll, undef, aload, apart, AV.cells, AV.one, aeval, updO, upd, initE, gdst, thenQ, blockQ, srcOk, Array.isEmpty, List.isEmpty, bytesV, reduceCtorEq, ↓reduceIte, Nat.reduceLT, Nat.reduceLeDiff, Nat.reduceEqDiff, Nat.reduceAdd, Nat.reduceMul, Nat.reducePow, Nat.reduceSub, Int.reduceLT, Int.reduceLE, Int.reduceToNat, RWire54, Try.ntmps4, Bool.not_true, Bool.not_false, Bool.false_eq_true, Bool.true_eq_false, false_imp_iff, true_imp_iff, decide_eq_true_eq, decide_eq_false_iff_not]
                refine hY ?_
                clear hX hY X Y
                refine awp_skip ?_
                refine hK5 _ _ ?_
                clear hK5 K5
                rw [penText_nat (by omega), List.append_assoc] at g8
                refine awp_seq_k ?_
                intro K5 hK5
                refine awp_reg_seq ?_
                intro K hK
                simp only [↓DN, UP, implies_true, forall_eq', ne_eq, if_true, if_false, aval, abin, aint, ashift, abool, astr, anil, aun, aconv, aindexAddr, aindex, optInt, aslice, abuiltin, asrc, afill, placeOf, asetAll, undef, aload, apart, AV.cells, AV.one, aeval, updO, upd, initE, gdst, thenQ, blockQ, srcOk, Array.isEmpty, List.isEmpty, bytesV, reduceCtorEq, ↓reduceIte, Nat.reduceLT, Nat.reduceLeDiff, Nat.reduceEqDiff, Nat.reduceAdd, Nat.reduceMul, Nat.reducePow, Nat.reduceSub, Int.reduceLT, Int.reduceLE, Int.reduceToNat, RWire54, Try.ntmps4, g0, g3, g4, g5, g6, g7, hge, eye_lt_nat, hi', hat, Int.reduceBEq]
                refine hK _ _ ?_
                clear hK K
                refine awp_cond_k ?_
                intro X Y hX hY
                simp only [↓DN, UP, implies_true, forall_eq', ne_eq, if_true, if_false, aval, abin, aint, ashift, abool, astr, anil, aun, aconv, aindexAddr, aindex, optInt, aslice, abuiltin, asrc, afill, placeOf, asetAll, undef, aload, apart, AV.cells, AV.one, aeval, updO, upd, initE, gdst, thenQ, blockQ, srcOk, Array.isEmpty, List.isEmpty, bytesV, reduceCtorEq, ↓reduceIte, Nat.reduceLT, Nat.reduceLeDiff, Nat.reduceEqDiff, Nat.reduceAdd, Nat.reduceMul, Nat.reducePow, Nat.reduceSub, Int.reduceLT, Int.reduceLE, Int.reduceToNat, RWire54, Try.ntmps4, Bool.not_true, Bool.not_false, Bool.false_eq_true, Bool.true_eq_false, false_imp_iff, true_imp_iff, decide_eq_true_eq, decide_eq_false_iff_not]
                refine hY ?_
                clear hX hY X Y
                refine awp_skip ?_
                refine hK5 _ _ ?_
                clear hK5 K5
                refine awp_reg_seq ?_
                intro K hK
                simp only [↓DN, UP, implies_true, forall_eq', ne_eq, if_true, if_false, aval, abin, aint, ashift, abool, astr, anil, aun, aconv, aindexAddr, aindex, optInt, aslice, abuiltin, asrc, afill, placeOf, asetAll, undef, aload, apart, AV.cells, AV.one, aeval, updO, upd, initE, gdst, thenQ, blockQ, srcOk, Array.isEmpty, List.isEmpty, bytesV, reduceCtorEq, ↓reduceIte, Nat.reduceLT, Nat.reduceLeDiff, Nat.reduceEqDiff, Nat.reduceAdd, Nat.reduceMul, Nat.reducePow, Nat.reduceSub, Int.reduceLT, Int.reduceLE, Int.reduceToNat, RWire54, Try.ntmps4, g0, g3, g4, g5, g6, g7, hge, eye_lt_nat, hi', hat, Int.reduceBEq]
                refine hK _ _ ?_
                clear hK K
                refine awp_cond_k ?_
                intro X Y hX hY
                simp only [↓DN, UP, implies_true, forall_eq', ne_eq, if_true, if_false, aval, abin, aint, ashift, abool, astr, anil, aun, aconv, aindexAddr, aindex, optInt, aslice, abuiltin, asrc, afill, placeOf, asetAll, undef, aload, apart, AV.cells, AV.one, aeval, updO, upd, initE, gdst, thenQ, blockQ, srcOk, Array.isEmpty, List.isEmpty, bytesV, reduceCtorEq, ↓reduceIte, Nat.reduceLT, Nat.reduceLeDiff, Nat.reduceEqDiff, Nat.reduceAdd, Nat.reduceMul, Nat.reducePow, Nat.reduceSub, Int.reduceLT, Int.reduceLE, Int.reduceToNat, RWire54, Try.ntmps4, Bool.not_true, Bool.not_false, Bool.false_eq_true, Bool.true_eq_false, false_imp_iff, true_imp_iff, decide_eq_true_eq, decide_eq_false_iff_not]
                refine hY ?_
                clear hX hY X Y
                refine awp_reg_seq ?_
                intro K hK
                simp only [↓DN, UP, implies_true, forall_eq', ne_eq, if_true, if_false, aval, abin, aint, ashift, abool, astr, anil, aun, aconv, aindexAddr, aindex, optInt, aslice, abuiltin, asrc, afill, placeOf, asetAll, undef, aload, apart, AV.cells, AV.one, aeval, updO, upd, initE, gdst, thenQ, blockQ, srcOk, Array.isEmpty, List.isEmpty, bytesV, reduceCtorEq, ↓reduceIte, Nat.reduceLT, Nat.reduceLeDiff, Nat.reduceEqDiff, Nat.reduceAdd, Nat.reduceMul, Nat.reducePow, Nat.reduceSub, Int.reduceLT, Int.reduceLE, Int.reduceToNat, RWire54, Try.ntmps4, g0, g3, g4, g5, g6, g7, hge, eye_lt_nat, hi', hat, Int.reduceBEq]
                refine hK _ _ ?_
                clear hK K
                refine awp_cond_k ?_
                intro X Y hX hY
                simp only [↓DN, UP, implies_true, forall_eq', ne_eq, if_true, if_false, aval, abin, aint, ashift, abool, astr, anil, aun, aconv, aindexAddr, aindex, optInt, aslice, abuiltin, asrc, afill, placeOf, asetAll, undef, aload, apart, AV.cells, AV.one, aeval, updO, upd, initE, gdst, thenQ, blockQ, srcOk, Array.isEmpty, List.isEmpty, bytesV, reduceCtorEq, ↓reduceIte, Nat.reduceLT, Nat.reduceLeDiff, Nat.reduceEqDiff, Nat.reduceAdd, Nat.reduceMul, Nat.reducePow, Nat.reduceSub, Int.reduceLT, Int.reduceLE, Int.reduceToNat, RWire54, Try.ntmps4, Bool.not_true, Bool.not_false, Bool.false_eq_true, Bool.true_eq_false, false_imp_iff, true_imp_iff, decide_eq_true_eq, decide_eq_false_iff_not]
                refine hY ?_
                clear hX hY X Y
                refine awp_drw_end T.mixed [8, 9] (by kernel_rfl) ?_
                intro K hK
                simp only [↓AXq_nil, ↓AXq_cons, pval, List.contains_cons, List.contains_nil, Nat.reduceBEq, Bool.or_false, Bool.or_true, Bool.or_self, Bool.false_eq_true, Bool.false_or, ↓DN, UP, implies_true, forall_eq', ne_eq, if_true, if_false, aval, abin, aint, ashift, abool, astr, anil, aun, aconv, aindexAddr, aindex, optInt, aslice, abuiltin, asrc, afill, placeOf, asetAll, undef, aload, apart, AV.cells, AV.one, aeval, updO, upd, initE, gdst, thenQ, blockQ, srcOk, Array.isEmpty, List.isEmpty, bytesV, reduceCtorEq, ↓reduceIte, Nat.reduceLT, Nat.reduceLeDiff, Nat.reduceEqDiff, Nat.reduceAdd, Nat.reduceMul, Nat.reducePow, Nat.reduceSub, Int.reduceLT, Int.reduceLE, Int.reduceToNat, RWire54, Try.ntmps4, g0, g3, g4, g5, g6, g7, hge, eye_lt_nat, hi', hat, Int.reduceBEq]
                refine acallk (size01_calls 5 1 (by simp) _) ?_
                rintro r s7 ⟨rfl, rfl⟩
                simp only [↓AXq_nil, ↓AXq_cons, pval, List.contains_cons, List.contains_nil, Nat.reduceBEq, Bool.or_false, Bool.or_true, Bool.or_self, Bool.false_eq_true, Bool.false_or, ↓DN, UP, implies_true, forall_eq', ne_eq, if_true, if_false, aval, abin, aint, ashift, abool, astr, anil, aun, aconv, aindexAddr, aindex, optInt, aslice, abuiltin, asrc, afill, placeOf, asetAll, undef, aload, apart, AV.cells, AV.one, aeval, updO, upd, initE, gdst, thenQ, blockQ, srcOk, Array.isEmpty, List.isEmpty, bytesV, reduceCtorEq, ↓reduceIte, Nat.reduceLT, Nat.reduceLeDiff, Nat.reduceEqDiff, Nat.reduceAdd, Nat.reduceMul, Nat.reducePow, Nat.reduceSub, Int.reduceLT, Int.reduceLE, Int.reduceToNat, RWire54, Try.ntmps4, g0, g3, g4, g5, g6, g7, hge, eye_lt_nat, hi', hat, Int.reduceBEq]
                refine acallk (refText_calls b 1 (by omega) (by omega) _) ?_
                rintro r s8 ⟨rfl, rfl⟩
                simp only [↓AXq_nil, ↓AXq_cons, pval, List.contains_cons, List.contains_nil, Nat.reduceBEq, Bool.or_false, Bool.or_true, Bool.or_self, Bool.false_eq_true, Bool.false_or, ↓DN, UP, implies_true, forall_eq', ne_eq, if_true, if_false, aval, abin, aint, ashift, abool, astr, anil, aun, aconv, aindexAddr, aindex, optInt, aslice, abuiltin, asrc, afill, placeOf, asetAll, undef, aload, apart, AV.cells, AV.one, aeval, updO, upd, initE, gdst, thenQ, blockQ, srcOk, Array.isEmpty, List.isEmpty, bytesV, reduceCtorEq, ↓reduceIte, Nat.reduceLT, Nat.reduceLeDiff, Nat.reduceEqDiff, Nat.reduceAdd, Nat.reduceMul, Nat.reducePow, Nat.reduceSub, Int.reduceLT, Int.reduceLE, Int.reduceToNat, RWire54, Try.ntmps4, g0, g3, g4, g5, g6, g7, hge, eye_lt_nat, hi', hat, Int.reduceBEq, length_be, i64_room (show W.length + (1 + b.length) < 2 ^ 62 by omega)]
                refine hK _ _ ?_
                clear hK K
                simp only [blockQ, thenQ, if_true, if_false]
                exact hnext _ _ (W ++ (be 1 b.length ++ b)) true (W ++ (be 1 b.length ++ b), false) (by simp only [upd, g6, Nat.reduceEqDiff, ↓reduceIte]) (by simp only [upd, g0, Nat.reduceEqDiff, ↓reduceIte]) (by simp only [upd, g3, Nat.reduceEqDiff, ↓reduceIte]) (by simp only [upd, g4, Nat.reduceEqDiff, ↓reduceIte]) (by simp only [upd, g5, Nat.reduceEqDiff, ↓reduceIte]) rfl (fun _ => rfl) (by simp; omega) (by simp; omega) g8
          clear hK4
          refine awp_reg_seq ?_
          intro K hK
          simp only [↓DN, UP, implies_true, forall_eq', ne_eq, if_true, if_false, aval, abin, aint, ashift, abool, astr, anil, aun, aconv, aindexAddr, aindex, optInt, aslice, abuiltin, asrc, afill, placeOf, asetAll, undef, aload, apart, AV.cells, AV.one, aeval, updO, upd, initE, gdst, thenQ, blockQ, srcOk, Array.isEmpty, List.isEmpty, bytesV, reduceCtorEq, ↓reduceIte, Nat.reduceLT, Nat.reduceLeDiff, Nat.reduceEqDiff, Nat.reduceAdd, Nat.reduceMul, Nat.reducePow, Nat.reduceSub, Int.reduceLT, Int.reduceLE, Int.reduceToNat, RWire54, Try.ntmps4, h6, h00, h3, hge, eye_lt_nat, hi', hat, show ((5 : Nat) : Int) = 5 from rfl, Int.reduceBEq]
          refine hK _ _ ?_
          clear hK K
          refine awp_block ?_
          refine awp_reg_seq ?_
          intro K hK
          simp only [↓DN, UP, implies_true, forall_eq', ne_eq, if_true, if_false, aval, abin, aint, ashift, abool, astr, anil, aun, aconv, aindexAddr, aindex, optInt, aslice, abuiltin, asrc, afill, placeOf, asetAll, undef, aload, apart, AV.cells, AV.one, aeval, updO, upd, initE, gdst, thenQ, blockQ, srcOk, Array.isEmpty, List.isEmpty, bytesV, reduceCtorEq, ↓reduceIte, Nat.reduceLT, Nat.reduceLeDiff, Nat.reduceEqDiff, Nat.reduceAdd, Nat.reduceMul, Nat.reducePow, Nat.reduceSub, Int.reduceLT, Int.reduceLE, Int.reduceToNat, RWire54, Try.ntmps4, h6, h00, h3, hge, eye_lt_nat, hi', hat, show ((5 : Nat) : Int) = 5 from rfl, Int.reduceBEq]
          refine hK _ _ ?_
          clear hK K
          refine awp_cond_k ?_
          intro X Y hX hY
          simp only [↓DN, UP, implies_true, forall_eq', ne_eq, if_true, if_false, aval, abin, aint, ashift, abool, astr, anil, aun, aconv, aindexAddr, aindex, optInt, aslice, abuiltin, asrc, afill, placeOf, asetAll, undef, aload, apart, AV.cells, AV.one, aeval, updO, upd, initE, gdst, thenQ, blockQ, srcOk, Array.isEmpty, List.isEmpty, bytesV, reduceCtorEq, ↓reduceIte, Nat.reduceLT, Nat.reduceLeDiff, Nat.reduceEqDiff, Nat.reduceAdd, Nat.reduceMul, Nat.reducePow, Nat.reduceSub, Int.reduceLT, Int.reduceLE, Int.reduceToNat, RWire54, Try.ntmps4, Bool.not_true, Bool.not_false, Bool.false_eq_true, Bool.true_eq_false, false_imp_iff, true_imp_iff, decide_eq_true_eq, decide_eq_false_iff_not]
          refine hY ?_
          clear hX hY X Y
          refine awp_reg_seq ?_
          intro K hK
          simp only [↓DN, UP, implies_true, forall_eq', ne_eq, if_true, if_false, aval, abin, aint, ashift, abool, astr, anil, aun, aconv, aindexAddr, aindex, optInt, aslice, abuiltin, asrc, afill, placeOf, asetAll, undef, aload, apart, AV.cells, AV.one, aeval, updO, upd, initE, gdst, thenQ, blockQ, srcOk, Array.isEmpty, List.isEmpty, bytesV, reduceCtorEq, ↓reduceIte, Nat.reduceLT, Nat.reduceLeDiff, Nat.reduceEqDiff, Nat.reduceAdd, Nat.reduceMul, Nat.reducePow, Nat.reduceSub, Int.reduceLT, Int.reduceLE, Int.reduceToNat, RWire54, Try.ntmps4, h6, h00, h3, hge, eye_lt_nat, hi', hat, show ((5 : Nat) : Int) = 5 from rfl, Int.reduceBEq]
          refine hK _ _ ?_
          clear hK K
          refine awp_cond_k ?_
          intro X Y hX hY
          simp only [↓DN, UP, implies_true, forall_eq', ne_eq, if_true, if_false, aval, abin, aint, ashift, abool, astr, anil, aun, aconv, aindexAddr, aindex, optInt, aslice, abuiltin, asrc, afill, placeOf, asetAll, undef, aload, apart, AV.cells, AV.one, aeval, updO, upd, initE, gdst, thenQ, blockQ, srcOk, Array.isEmpty, List.isEmpty, bytesV, reduceCtorEq, ↓reduceIte, Nat.reduceLT, Nat.reduceLeDiff, Nat.reduceEqDiff, Nat.reduceAdd, Nat.reduceMul, Nat.reducePow, Nat.reduceSub, Int.reduceLT, Int.reduceLE, Int.reduceToNat, RWire54, Try.ntmps4, Bool.not_true, Bool.not_false, Bool.false_eq_true, Bool.true_eq_false, false_imp_iff, true_imp_iff, decide_eq_true_eq, decide_eq_false_iff_not]
          refine hY ?_
          clear hX hY X Y
          refine awp_reg_seq ?_
          intro K hK
          simp only [↓DN, UP, implies_true, forall_eq', ne_eq, if_true, if_false, aval, abin, aint, ashift, abool, astr, anil, aun, aconv, aindexAddr, aindex, optInt, aslice, abuiltin, asrc, afill, placeOf, asetAll, undef, aload, apart, AV.cells, AV.one, aeval, updO, upd, initE, gdst, thenQ, blockQ, srcOk, Array.isEmpty, List.isEmpty, bytesV, reduceCtorEq, ↓reduceIte, Nat.reduceLT, Nat.reduceLeDiff, Nat.reduceEqDiff, Nat.reduceAdd, Nat.reduceMul, Nat.reducePow, Nat.reduceSub, Int.reduceLT, Int.reduceLE, Int.reduceToNat, RWire54, Try.ntmps4, h6, h00, h3, hge, eye_lt_nat, hi', hat, show ((5 : Nat) : Int) = 5 from rfl, Int.reduceBEq]
          refine hK _ _ ?_
          clear hK K
          refine awp_cond_k ?_
          intro X Y hX hY
          simp only [↓DN, UP, implies_true, forall_eq', ne_eq, if_true, if_false, aval, abin, aint, ashift, abool, astr, anil, aun, aconv, aindexAddr, aindex, optInt, aslice, abuiltin, asrc, afill, placeOf, asetAll, undef, aload, apart, AV.cells, AV.one, aeval, updO, upd, initE, gdst, thenQ, blockQ, srcOk, Array.isEmpty, List.isEmpty, bytesV, reduceCtorEq, ↓reduceIte, Nat.reduceLT, Nat.reduceLeDiff, Nat.reduceEqDiff, Nat.reduceAdd, Nat.reduceMul, Nat.reducePow, Nat.reduceSub, Int.reduceLT, Int.reduceLE, Int.reduceToNat, RWire54, Try.ntmps4, Bool.not_true, Bool.not_false, Bool.false_eq_true, Bool.true_eq_false, false_imp_iff, true_imp_iff, decide_eq_true_eq, decide_eq_false_iff_not]
          refine hY ?_
          clear hX hY X Y
          refine awp_reg_seq ?_
          intro K hK
          simp only [↓DN, UP, implies_true, forall_eq', ne_eq, if_true, if_false, aval, abin, aint, ashift, abool, astr, anil, aun, aconv, aindexAddr, aindex, optInt, aslice, abuiltin, asrc, afill, placeOf, asetAll, undef, aload, apart, AV.cells, AV.one, aeval, updO, upd, initE, gdst, thenQ, blockQ, srcOk, Array.isEmpty, List.isEmpty, bytesV, reduceCtorEq, ↓reduceIte, Nat.reduceLT, Nat.reduceLeDiff, Nat.reduceEqDiff, Nat.reduceAdd, Nat.reduceMul, Nat.reducePow, Nat.reduceSub, Int.reduceLT, Int.reduceLE, Int.reduceToNat, RWire54, Try.ntmps4, h6, h00, h3, hge, eye_lt_nat, hi', hat, show ((5 : Nat) : Int) = 5 from rfl, Int.reduceBEq]
          refine hK _ _ ?_
          clear hK K
          refine awp_cond_k ?_
          intro X Y hX hY
          simp only [↓DN, UP, implies_true, forall_eq', ne_eq, if_true, if_false, aval, abin, aint, ashift, abool, astr, anil, aun, aconv, aindexAddr, aindex, optInt, aslice, abuiltin, asrc, afill, placeOf, asetAll, undef, aload, apart, AV.cells, AV.one, aeval, updO, upd, initE, gdst, thenQ, blockQ, srcOk, Array.isEmpty, List.isEmpty, bytesV, reduceCtorEq, ↓reduceIte, Nat.reduceLT, Nat.reduceLeDiff, Nat.reduceEqDiff, Nat.reduceAdd, Nat.reduceMul, Nat.reducePow, Nat.reduceSub, Int.reduceLT, Int.reduceLE, Int.reduceToNat, RWire54, Try.ntmps4, Bool.not_true, Bool.not_false, Bool.false_eq_true, Bool.true_eq_false, false_imp_iff, true_imp_iff, decide_eq_true_eq, decide_eq_false_iff_not]
          refine hY ?_
          clear hX hY X Y
          refine awp_reg_seq ?_
          intro K hK
          simp only [↓DN, UP, implies_true, forall_eq', ne_eq, if_true, if_false, aval, abin, aint, ashift, abool, astr, anil, aun, aconv, aindexAddr, aindex, optInt, aslice, abuiltin, asrc, afill, placeOf, asetAll, undef, aload, apart, AV.cells, AV.one, aeval, updO, upd, initE, gdst, thenQ, blockQ, srcOk, Array.isEmpty, List.isEmpty, bytesV, reduceCtorEq, ↓reduceIte, Nat.reduceLT, Nat.reduceLeDiff, Nat.reduceEqDiff, Nat.reduceAdd, Nat.reduceMul, Nat.reducePow, Nat.reduceSub, Int.reduceLT, Int.reduceLE, Int.reduceToNat, RWire54, Try.ntmps4, h6, h00, h3, hge, eye_lt_nat, hi', hat, show ((5 : Nat) : Int) = 5 from rfl, Int.reduceBEq]
          refine hK _ _ ?_
          clear hK K
          refine awp_cond_k ?_
          intro X Y hX hY
          simp only [↓DN, UP, implies_true, forall_eq', ne_eq, if_true, if_false, aval, abin, aint, ashift, abool, astr, anil, aun, aconv, aindexAddr, aindex, optInt, aslice, abuiltin, asrc, afill, placeOf, asetAll, undef, aload, apart, AV.cells, AV.one, aeval, updO, upd, initE, gdst, thenQ, blockQ, srcOk, Array.isEmpty, List.isEmpty, bytesV, reduceCtorEq, ↓reduceIte, Nat.reduceLT, Nat.reduceLeDiff, Nat.reduceEqDiff, Nat.reduceAdd, Nat.reduceMul, Nat.reducePow, Nat.reduceSub, Int.reduceLT, Int.reduceLE, Int.reduceToNat, RWire54, Try.ntmps4, Bool.not_true, Bool.not_false, Bool.false_eq_true, Bool.true_eq_false, false_imp_iff, true_imp_iff, decide_eq_true_eq, decide_eq_false_iff_not]
          refine hY ?_
          clear hX hY X Y
          refine awp_reg_seq ?_
          intro K hK
          simp only [↓DN, UP, implies_true, forall_eq', ne_eq, if_true, if_false, aval, abin, aint, ashift, abool, astr, anil, aun, aconv, aindexAddr, aindex, optInt, aslice, abuiltin, asrc, afill, placeOf, asetAll, undef, aload, apart, AV.cells, AV.one, aeval, updO, upd, initE, gdst, thenQ, blockQ, srcOk, Array.isEmpty, List.isEmpty, bytesV, reduceCtorEq, ↓reduceIte, Nat.reduceLT, Nat.reduceLeDiff, Nat.reduceEqDiff, Nat.reduceAdd, Nat.reduceMul, Nat.reducePow, Nat.reduceSub, Int.reduceLT, Int.reduceLE, Int.reduceToNat, RWire54, Try.ntmps4, h6, h00, h3, hge, eye_lt_nat, hi', hat, show ((5 : Nat) : Int) = 5 from rfl, Int.reduceBEq]
          refine hK _ _ ?_
          clear hK K
          refine awp_cond_k ?_
          intro X Y hX hY
          simp only [↓DN, UP, implies_true, forall_eq', ne_eq, if_true, if_false, aval, abin, aint, ashift, abool, astr, anil, aun, aconv, aindexAddr, aindex, optInt, aslice, abuiltin, asrc, afill, placeOf, asetAll, undef, aload, apart, AV.cells, AV.one, aeval, updO, upd, initE, gdst, thenQ, blockQ, srcOk, Array.isEmpty, List.isEmpty, bytesV, reduceCtorEq, ↓reduceIte, Nat.reduceLT, Nat.reduceLeDiff, Nat.reduceEqDiff, Nat.reduceAdd, Nat.reduceMul, Nat.reducePow, Nat.reduceSub, Int.reduceLT, Int.reduceLE, Int.reduceToNat, RWire54, Try.ntmps4, Bool.not_true, Bool.not_false, Bool.false_eq_true, Bool.true_eq_false, false_imp_iff, true_imp_iff, decide_eq_true_eq, decide_eq_false_iff_not]
          refine hX ?_
          clear hX hY X Y
          refine awp_reg_end ?_
          intro K hK
          simp only [↓DN, UP, implies_true, forall_eq', ne_eq, if_true, if_false, aval, abin, aint, ashift, abool, astr, anil, aun, aconv, aindexAddr, aindex, optInt, aslice, abuiltin, asrc, afill, placeOf, asetAll, undef, aload, apart, AV.cells, AV.one, aeval, updO, upd, initE, gdst, thenQ, blockQ, srcOk, Array.isEmpty, List.isEmpty, bytesV, reduceCtorEq, ↓reduceIte, Nat.reduceLT, Nat.reduceLeDiff, Nat.reduceEqDiff, Nat.reduceAdd, Nat.reduceMul, Nat.reducePow, Nat.reduceSub, Int.reduceLT, Int.reduceLE, Int.reduceToNat, RWire54, Try.ntmps4, h6, h00, h3, hge, eye_lt_nat, hi', hat, show ((5 : Nat) : Int) = 5 from rfl, Int.reduceBEq]
          refine acallk (penShort_calls s' s3 p st _ b (IsB.any b) (by omega) hp) ?_
          rintro r s4 ⟨rfl, hp4⟩
          simp only [↓AXq_nil, ↓AXq_cons, pval, List.contains_cons, List.contains_nil, Nat.reduceBEq, Bool.or_false, Bool.or_true, Bool.or_self, Bool.false_eq_true, Bool.false_or, ↓DN, UP, implies_true, forall_eq', ne_eq, if_true, if_false, aval, abin, aint, ashift, abool, astr, anil, aun, aconv, aindexAddr, aindex, optInt, aslice, abuiltin, asrc, afill, placeOf, asetAll, undef, aload, apart, AV.cells, AV.one, aeval, updO, upd, initE, gdst, thenQ, blockQ, srcOk, Array.isEmpty, List.isEmpty, bytesV, reduceCtorEq, ↓reduceIte, Nat.reduceLT, Nat.reduceLeDiff, Nat.reduceEqDiff, Nat.reduceAdd, Nat.reduceMul, Nat.reducePow, Nat.reduceSub, Int.reduceLT, Int.reduceLE, Int.reduceToNat, RWire54, Try.ntmps4]
          refine hK _ _ ?_
          clear hK K
          simp only [blockQ, thenQ, if_true, if_false]
          exact hrest _ _ (by simp only [upd, h00, Nat.reduceEqDiff, ↓reduceIte]) (by simp only [upd, h3, Nat.reduceEqDiff, ↓reduceIte]) (by simp only [upd, h4, Nat.reduceEqDiff, ↓reduceIte]) (by simp only [upd, h5, Nat.reduceEqDiff, ↓reduceIte]) (by simp only [upd, h6, Nat.reduceEqDiff, ↓reduceIte]) (by simp only [upd, ↓reduceIte, show ((5 : Nat) : Int) = 5 from rfl, Nat.reduceEqDiff, ↓reduceIte]) hp4
        · have hrest : ∀ (E2 : Env) (s4 : AS), E2 0 = .sl 3 ps.length (partsC ps) .any → E2 3 = .ptr p 0 → E2 4 = .v (.string ⟨W.toArray⟩) → E2 5 = .v (.bool ok) → E2 6 = .v (.int .i64 i) → E2 7 = .v (.int .i64 6) → PenS s' s4 p (penText 2 b st) → K4 E2 s4 := by
            intro E2 s4 g0 g3 g4 g5 g6 g7 g8
            refine hK4 _ _ ?_
            clear hK4 K4
            cases ok
            · have hbad : st.2 = true := by simpa using hst
              have hbad2 : (penText 2 b st).2 = true := pen_bad_text _ _ _ hbad
              have hlen2 := penText_len 2 b st
              refine awp_seq_k ?_
              intro K5 hK5
              refine awp_reg_seq ?_
              intro K hK
              simp only [↓DN, UP, implies_true, forall_eq', ne_eq, if_true, if_false, aval, abin, aint, ashift, abool, astr, anil, aun, aconv, aindexAddr, aindex, optInt, aslice, abuiltin, asrc, afill, placeOf, asetAll, undef, aload, apart, AV.cells, AV.one, aeval, updO, upd, initE, gdst, thenQ, blockQ, srcOk, Array.isEmpty, List.isEmpty, bytesV, reduceCtorEq, ↓reduceIte, Nat.reduceLT, Nat.reduceLeDiff, Nat.reduceEqDiff, Nat.reduceAdd, Nat.reduceMul, Nat.reducePow, Nat.reduceSub, Int.reduceLT, Int.reduceLE, Int.reduceToNat, RWire54, Try.ntmps4, g0, g3, g4, g5, g6, g7, hge, eye_lt_nat, hi', hat, Int.reduceBEq]
              refine hK _ _ ?_
              clear hK K
              refine awp_cond_k ?_
              intro X Y hX hY
              simp only [↓DN, UP, implies_true, forall_eq', ne_eq, if_true, if_false, aval, abin, aint, ashift, abool, astr, anil, aun, aconv, aindexAddr, aindex, optInt, aslice, abuiltin, asrc, afill, placeOf, asetAll, undef, aload, apart, AV.cells, AV.one, aeval, updO, upd, initE, gdst, thenQ, blockQ, srcOk, Array.isEmpty, List.isEmpty, bytesV, reduceCtorEq, ↓reduceIte, Nat.reduceLT, Nat.reduceLeDiff, Nat.reduceEqDiff, Nat.reduceAdd, Nat.reduceMul, Nat.reducePow, Nat.reduceSub, Int.reduceLT, Int.reduceLE, Int.reduceToNat, RWire54, Try.ntmps4, Bool.not_true, Bool.not_false, Bool.false_eq_true, Bool.true_eq_false, false_imp_iff, true_imp_iff, decide_eq_true_eq, decide_eq_false_iff_not]
              refine hY ?_
              clear hX hY X Y
              refine awp_skip ?_
              refine hK5 _ _ ?_
              clear hK5 K5
              refine awp_seq_k ?_
              intro K5 hK5
              refine awp_reg_seq ?_
              intro K hK
              simp only [↓DN, UP, implies_true, forall_eq', ne_eq, if_true, if_false, aval, abin, aint, ashift, abool, astr, anil, aun, aconv, aindexAddr, aindex, optInt, aslice, abuiltin, asrc, afill, placeOf, asetAll, undef, aload, apart, AV.cells, AV.one, aeval, updO, upd, initE, gdst, thenQ, blockQ, srcOk, Array.isEmpty, List.isEmpty, bytesV, reduceCtorEq, ↓reduceIte, Nat.reduceLT, Nat.reduceLeDiff, Nat.reduceEqDiff, Nat.reduceAdd, Nat.reduceMul, Nat.reducePow, Nat.reduceSub, Int.reduceLT, Int.reduceLE, Int.reduceToNat, RWire54, Try.ntmps4, g0, g3, g4, g5, g6, g7, hge, eye_lt_nat, hi', hat, Int.reduceBEq]
              refine hK _ _ ?_
              clear hK K
              refine awp_cond_k ?_
              intro X Y hX hY
              simp only [↓DN, UP, implies_true, forall_eq', ne_eq, if_true, if_false, aval, abin, aint, ashift, abool, astr, anil, aun, aconv, aindexAddr, aindex, optInt, aslice, abuiltin, asrc, afill, placeOf, asetAll, undef, aload, apart, AV.cells, AV.one, aeval, updO, upd, initE, gdst, thenQ, blockQ, srcOk, Array.isEmpty, List.isEmpty, bytesV, reduceCtorEq, ↓reduceIte, Nat.reduceLT, Nat.reduceLeDiff, Nat.reduceEqDiff, Nat.reduceAdd, Nat.reduceMul, Nat.reducePow, Nat.reduceSub, Int.reduceLT, Int.reduceLE, Int.reduceToNat, RWire54, Try.ntmps4, Bool.not_true, Bool.not_false, Bool.false_eq_true, Bool.true_eq_false, false_imp_iff, true_imp_iff, decide_eq_true_eq, decide_eq_false_iff_not]
              refine hY ?_
              clear hX hY X Y
              refine awp_skip ?_
              refine hK5 _ _ ?_
              clear hK5 K5
              refine awp_seq_k ?_
              intro K5 hK5
              refine awp_reg_seq ?_
              intro K hK
              simp only [↓DN, UP, implies_true, forall_eq', ne_eq, if_true, if_false, aval, abin, aint, ashift, abool, astr, anil, aun, aconv, aindexAddr, aindex, optInt, aslice, abuiltin, asrc, afill, placeOf, asetAll, undef, aload, apart, AV.cells, AV.one, aeval, updO, upd, initE, gdst, thenQ, blockQ, srcOk, Array.isEmpty, List.isEmpty, bytesV, reduceCtorEq, ↓reduceIte, Nat.reduceLT, Nat.reduceLeDiff, Nat.reduceEqDiff, Nat.reduceAdd, Nat.reduceMul, Nat.reducePow, Nat.reduceSub, Int.reduceLT, Int.reduceLE, Int.reduceToNat, RWire54, Try.ntmps4, g0, g3, g4, g5, g6, g7, hge, eye_lt_nat, hi', hat, Int.reduceBEq]
              refine hK _ _ ?_
              clear hK K
              refine awp_cond_k ?_
              intro X Y hX hY
              simp only [↓DN, UP, implies_true, forall_eq', ne_eq, if_true, if_false, aval, abin, aint, ashift, abool, astr, anil, aun, aconv, aindexAddr, aindex, optInt, aslice, abuiltin, asrc, afill, placeOf, asetAll, undef, aload, apart, AV.cells, AV.one, aeval, updO, upd, initE, gdst, thenQ, blockQ, srcOk, Array.isEmpty, List.isEmpty, bytesV, reduceCtorEq, ↓reduceIte, Nat.reduceLT, Nat.reduceLeDiff, Nat.reduceEqDiff, Nat.reduceAdd, Nat.reduceMul, Nat.reducePow, Nat.reduceSub, Int.reduceLT, Int.reduceLE, Int.reduceToNat, RWire54, Try.ntmps4, Bool.not_true, Bool.not_false, Bool.false_eq_true, Bool.true_eq_false, false_imp_iff, true_imp_iff, decide_eq_true_eq, decide_eq_false_iff_not]
              refine hX ?_
              clear hX hY X Y
              refine awp_exit ?_
              simp only [blockQ, thenQ, if_true, if_false]
              exact hnext _ _ (W) false (penText 2 b st) (by simp only [upd, g6, Nat.reduceEqDiff, ↓reduceIte]) (by simp only [upd, g0, Nat.reduceEqDiff, ↓reduceIte]) (by simp only [upd, g3, Nat.reduceEqDiff, ↓reduceIte]) (by simp only [upd, g4, Nat.reduceEqDiff, ↓reduceIte]) (by simp only [upd, g5, Nat.reduceEqDiff, ↓reduceIte]) hbad2 (fun h => by cases h) (by omega) (by omega) g8
            · obtain ⟨st1, st2⟩ := st
              simp only [Bool.not_true] at hst
              have hW1 := hW rfl
              simp only at hW1
              subst hst
              subst hW1
              refine awp_seq_k ?_
              intro K5 hK5
              refine awp_reg_seq ?_
              intro K hK
              simp only [↓DN, UP, implies_true, forall_eq', ne_eq, if_true, if_false, aval, abin, aint, ashift, abool, astr, anil, aun, aconv, aindexAddr, aindex, optInt, aslice, abuiltin, asrc, afill, placeOf, asetAll, undef, aload, apart, AV.cells, AV.one, aeval, updO, upd, initE, gdst, thenQ, blockQ, srcOk, Array.isEmpty, List.isEmpty, bytesV, reduceCtorEq, ↓reduceIte, Nat.reduceLT, Nat.reduceLeDiff, Nat.reduceEqDiff, Nat.reduceAdd, Nat.reduceMul, Nat.reducePow, Nat.reduceSub, Int.reduceLT, Int.reduceLE, Int.reduceToNat, RWire54, Try.ntmps4, g0, g3, g4, g5, g6, g7, hge, eye_lt_nat, hi', hat, Int.reduceBEq]
              refine hK _ _ ?_
              clear hK K
              refine awp_cond_k ?_
              intro X Y hX hY
              simp only [↓DN, UP, implies_true, forall_eq', ne_eq, if_true, if_false, aval, abin, aint, ashift, abool, astr, anil, aun, aconv, aindexAddr, aindex, optInt, aslice, abuiltin, asrc, afill, placeOf, asetAll, undef, aload, apart, AV.cells, AV.one, aeval, updO, upd, initE, gdst, thenQ, blockQ, srcOk, Array.isEmpty, List.isEmpty, bytesV, reduceCtorEq, ↓reduceIte, Nat.reduceLT, Nat.reduceLeDiff, Nat.reduceEqDiff, Nat.reduceAdd, Nat.reduceMul, Nat.reducePow, Nat.reduceSub, Int.reduceLT, Int.reduceLE, Int.reduceToNat, RWire54, Try.ntmps4, Bool.not_true, Bool.not_false, Bool.false_eq_true, Bool.true_eq_false, false_imp_iff, true_imp_iff, decide_eq_true_eq, decide_eq_false_iff_not]
              refine hY ?_
              clear hX hY X Y
              refine awp_skip ?_
              refine hK5 _ _ ?_
              clear hK5 K5
              rw [penText_nat (by omega), List.append_assoc] at g8
              refine awp_seq_k ?_
              intro K5 hK5
              refine awp_reg_seq ?_
              intro K hK
              simp only [↓DN, UP, implies_true, forall_eq', ne_eq, if_true, if_false, aval, abin, aint, ashift, abool, astr, anil, aun, aconv, aindexAddr, aindex, optInt, aslice, abuiltin, asrc, afill, placeOf, asetAll, undef, aload, apart, AV.cells, AV.one, aeval, updO, upd, initE, gdst, thenQ, blockQ, srcOk, Array.isEmpty, List.isEmpty, bytesV, reduceCtorEq, ↓reduceIte, Nat.reduceLT, Nat.reduceLeDiff, Nat.reduceEqDiff, Nat.reduceAdd, Nat.reduceMul, Nat.reducePow, Nat.reduceSub, Int.reduceLT, Int.reduceLE, Int.reduceToNat, RWire54, Try.ntmps4, g0, g3, g4, g5, g6, g7, hge, eye_lt_nat, hi', hat, Int.reduceBEq]
              refine hK _ _ ?_
              clear hK K
              refine awp_cond_k ?_
              intro X Y hX hY
              simp only [↓DN, UP, implies_true, forall_eq', ne_eq, if_true, if_false, aval, abin, aint, ashift, abool, astr, anil, aun, aconv, aindexAddr, aindex, optInt, aslice, abuiltin, asrc, afill, placeOf, asetAll, undef, aload, apart, AV.cells, AV.one, aeval, updO, upd, initE, gdst, thenQ, blockQ, srcOk, Array.isEmpty, List.isEmpty, bytesV, reduceCtorEq, ↓reduceIte, Nat.reduceLT, Nat.reduceLeDiff, Nat.reduceEqDiff, Nat.reduceAdd, Nat.reduceMul, Nat.reducePow, Nat.reduceSub, Int.reduceLT, Int.reduceLE, Int.reduceToNat, RWire54, Try.ntmps4, Bool.not_true, Bool.not_false, Bool.false_eq_true, Bool.true_eq_false, false_imp_iff, true_imp_iff, decide_eq_true_eq, decide_eq_false_iff_not]
              refine hY ?_
              clear hX hY X Y
              refine awp_skip ?_
              refine hK5 _ _ ?_
              clear hK5 K5
              refine awp_seq_k ?_
              intro K5 hK5
              refine awp_reg_seq ?_
              intro K hK
              simp only [↓DN, UP, implies_true, forall_eq', ne_eq, if_true, if_false, aval, abin, aint, ashift, abool, astr, anil, aun, aconv, aindexAddr, aindex, optInt, aslice, abuiltin, asrc, afill, placeOf, asetAll, undef, aload, apart, AV.cells, AV.one, aeval, updO, upd, initE, gdst, thenQ, blockQ, srcOk, Array.isEmpty, List.isEmpty, bytesV, reduceCtorEq, ↓reduceIte, Nat.reduceLT, Nat.reduceLeDiff, Nat.reduceEqDiff, Nat.reduceAdd, Nat.reduceMul, Nat.reducePow, Nat.reduceSub, Int.reduceLT, Int.reduceLE, Int.reduceToNat, RWire54, Try.ntmps4, g0, g3, g4, g5, g6, g7, hge, eye_lt_nat, hi', hat, Int.reduceBEq]
              refine hK _ _ ?_
              clear hK K
              refine awp_cond_k ?_
              intro X Y hX hY
              simp only [↓DN, UP, implies_true, forall_eq', ne_eq, if_true, if_false, aval, abin, aint, ashift, abool, astr, anil, aun, aconv, aindexAddr, aindex, optInt, aslice, abuiltin, asrc, afill, placeOf, asetAll, undef, aload, apart, AV.cells, AV.one, aeval, updO, upd, initE, gdst, thenQ, blockQ, srcOk, Array.isEmpty, List.isEmpty, bytesV, reduceCtorEq, ↓reduceIte, Nat.reduceLT, Nat.reduceLeDiff, Nat.reduceEqDiff, Nat.reduceAdd, Nat.reduceMul, Nat.reducePow, Nat.reduceSub, Int.reduceLT, Int.reduceLE, Int.reduceToNat, RWire54, Try.ntmps4, Bool.not_true, Bool.not_false, Bool.false_eq_true, Bool.true_eq_false, false_imp_iff, true_imp_iff, decide_eq_true_eq, decide_eq_false_iff_not]
              refine hY ?_
              clear hX hY X Y
              refine awp_skip ?_
              refine hK5 _ _ ?_
              clear hK5 K5
              refine awp_reg_seq ?_
              intro K hK
              simp only [↓DN, UP, implies_true, forall_eq', ne_eq, if_true, if_false, aval, abin, aint, ashift, abool, astr, anil, aun, aconv, aindexAddr, aindex, optInt, aslice, abuiltin, asrc, afill, placeOf, asetAll, undef, aload, apart, AV.cells, AV.one, aeval, updO, upd, initE, gdst, thenQ, blockQ, srcOk, Array.isEmpty, List.isEmpty, bytesV, reduceCtorEq, ↓reduceIte, Nat.reduceLT, Nat.reduceLeDiff, Nat.reduceEqDiff, Nat.reduceAdd, Nat.reduceMul, Nat.reducePow, Nat.reduceSub, Int.reduceLT, Int.reduceLE, Int.reduceToNat, RWire54, Try.ntmps4, g0, g3, g4, g5, g6, g7, hge, eye_lt_nat, hi', hat, Int.reduceBEq]
              refine hK _ _ ?_
              clear hK K
              refine awp_cond_k ?_
              intro X Y hX hY
              simp only [↓DN, UP, implies_true, forall_eq', ne_eq, if_true, if_false, aval, abin, aint, ashift, abool, astr, anil, aun, aconv, aindexAddr, aindex, optInt, aslice, abuiltin, asrc, afill, placeOf, asetAll, undef, aload, apart, AV.cells, AV.one, aeval, updO, upd, initE, gdst, thenQ, blockQ, srcOk, Array.isEmpty, List.isEmpty, bytesV, reduceCtorEq, ↓reduceIte, Nat.reduceLT, Nat.reduceLeDiff, Nat.reduceEqDiff, Nat.reduceAdd, Nat.reduceMul, Nat.reducePow, Nat.reduceSub, Int.reduceLT, Int.reduceLE, Int.reduceToNat, RWire54, Try.ntmps4, Bool.not_true, Bool.not_false, Bool.false_eq_true, Bool.true_eq_false, false_imp_iff, true_imp_iff, decide_eq_true_eq, decide_eq_false_iff_not]
              refine hY ?_
              clear hX hY X Y
              refine awp_reg_seq ?_
              intro K hK
              simp only [↓DN, UP, implies_true, forall_eq', ne_eq, if_true, if_false, aval, abin, aint, ashift, abool, astr, anil, aun, aconv, aindexAddr, aindex, optInt, aslice, abuiltin, asrc, afill, placeOf, asetAll, undef, aload, apart, AV.cells, AV.one, aeval, updO, upd, initE, gdst, thenQ, blockQ, srcOk, Array.isEmpty, List.isEmpty, bytesV, reduceCtorEq, ↓reduceIte, Nat.reduceLT, Nat.reduceLeDiff, Nat.reduceEqDiff, Nat.reduceAdd, Nat.reduceMul, Nat.reducePow, Nat.reduceSub, Int.reduceLT, Int.reduceLE, Int.reduceToNat, RWire54, Try.ntmps4, g0, g3, g4, g5, g6, g7, hge, eye_lt_nat, hi', hat, Int.reduceBEq]
              refine hK _ _ ?_
              clear hK K
              refine awp_cond_k ?_
              intro X Y hX hY
              simp only [↓DN, UP, implies_true, forall_eq', ne_eq, if_true, if_false, aval, abin, aint, ashift, abool, astr, anil, aun, aconv, aindexAddr, aindex, optInt, aslice, abuiltin, asrc, afill, placeOf, asetAll, undef, aload, apart, AV.cells, AV.one, aeval, updO, upd, initE, gdst, thenQ, blockQ, srcOk, Array.isEmpty, List.isEmpty, bytesV, reduceCtorEq, ↓reduceIte, Nat.reduceLT, Nat.reduceLeDiff, Nat.reduceEqDiff, Nat.reduceAdd, Nat.reduceMul, Nat.reducePow, Nat.reduceSub, Int.reduceLT, Int.reduceLE, Int.reduceToNat, RWire54, Try.ntmps4, Bool.not_true, Bool.not_false, Bool.false_eq_true, Bool.true_eq_false, false_imp_iff, true_imp_iff, decide_eq_true_eq, decide_eq_false_iff_not]
              refine hY ?_
              clear hX hY X Y
              refine awp_drw_end T.mixed [8, 9] (by kernel_rfl) ?_
              intro K hK
              simp only [↓AXq_nil, ↓AXq_cons, pval, List.contains_cons, List.contains_nil, Nat.reduceBEq, Bool.or_false, Bool.or_true, Bool.or_self, Bool.false_eq_true, Bool.false_or, ↓DN, UP, implies_true, forall_eq', ne_eq, if_true, if_false, aval, abin, aint, ashift, abool, astr, anil, aun, aconv, aindexAddr, aindex, optInt, aslice, abuiltin, asrc, afill, placeOf, asetAll, undef, aload, apart, AV.cells, AV.one, aeval, updO, upd, initE, gdst, thenQ, blockQ, srcOk, Array.isEmpty, List.isEmpty, bytesV, reduceCtorEq, ↓reduceIte, Nat.reduceLT, Nat.reduceLeDiff, Nat.reduceEqDiff, Nat.reduceAdd, Nat.reduceMul, Nat.reducePow, Nat.reduceSub, Int.reduceLT, Int.reduceLE, Int.reduceToNat, RWire54, Try.ntmps4, g0, g3, g4, g5, g6, g7, hge, eye_lt_nat, hi', hat, Int.reduceBEq]
              refine acallk (size01_calls 6 2 (by simp) _) ?_
              rintro r s7 ⟨rfl, rfl⟩
              simp only [↓AXq_nil, ↓AXq_cons, pval, List.contains_cons, List.contains_nil, Nat.reduceBEq, Bool.or_false, Bool.or_true, Bool.or_self, Bool.false_eq_true, Bool.false_or, ↓DN, UP, implies_true, forall_eq', ne_eq, if_true, if_false, aval, abin, aint, ashift, abool, astr, anil, aun, aconv, aindexAddr, aindex, optInt, aslice, abuiltin, asrc, afill, placeOf, asetAll, undef, aload, apart, AV.cells, AV.one, aeval, updO, upd, initE, gdst, thenQ, blockQ, srcOk, Array.isEmpty, List.isEmpty, bytesV, reduceCtorEq, ↓reduceIte, Nat.reduceLT, Nat.reduceLeDiff, Nat.reduceEqDiff, Nat.reduceAdd, Nat.reduceMul, Nat.reducePow, Nat.reduceSub, Int.reduceLT, Int.reduceLE, Int.reduceToNat, RWire54, Try.ntmps4, g0, g3, g4, g5, g6, g7, hge, eye_lt_nat, hi', hat, Int.reduceBEq]
              refine acallk (refText_calls b 2 (by omega) (by omega) _) ?_
              rintro r s8 ⟨rfl, rfl⟩
              simp only [↓AXq_nil, ↓AXq_cons, pval, List.contains_cons, List.contains_nil, Nat.reduceBEq, Bool.or_false, Bool.or_true, Bool.or_self, Bool.false_eq_true, Bool.false_or, ↓DN, UP, implies_true, forall_eq', ne_eq, if_true, if_false, aval, abin, aint, ashift, abool, astr, anil, aun, aconv, aindexAddr, aindex, optInt, aslice, abuiltin, asrc, afill, placeOf, asetAll, undef, aload, apart, AV.cells, AV.one, aeval, updO, upd, initE, gdst, thenQ, blockQ, srcOk, Array.isEmpty, List.isEmpty, bytesV, reduceCtorEq, ↓reduceIte, Nat.reduceLT, Nat.reduceLeDiff, Nat.reduceEqDiff, Nat.reduceAdd, Nat.reduceMul, Nat.reducePow, Nat.reduceSub, Int.reduceLT, Int.reduceLE, Int.reduceToNat, RWire54, Try.ntmps4, g0, g3, g4, g5, g6, g7, hge, eye_lt_nat, hi', hat, Int.reduceBEq, length_be, i64_room (show W.length + (2 + b.length) < 2 ^ 62 by omega)]
              refine hK _ _ ?_
              clear hK K
              simp only [blockQ, thenQ, if_true, if_false]
              exact hnext _ _ (W ++ (be 2 b.length ++ b)) true (W ++ (be 2 b.length ++ b), false) (by simp only [upd, g6, Nat.reduceEqDiff, ↓reduceIte]) (by simp only [upd, g0, Nat.reduceEqDiff, ↓reduceIte]) (by simp only [upd, g3, Nat.reduceEqDiff, ↓reduceIte]) (by simp only [upd, g4, Nat.reduceEqDiff, ↓reduceIte]) (by simp only [upd, g5, Nat.reduceEqDiff, ↓reduceIte]) rfl (fun _ => rfl) (by simp; omega) (by simp; omega) g8
          clear hK4
          refine awp_reg_seq ?_
          intro K hK
          simp only [↓DN, UP, implies_true, forall_eq', ne_eq, if_true, if_false, aval, abin, aint, ashift, abool, astr, anil, aun, aconv, aindexAddr, aindex, optInt, aslice, abuiltin, asrc, afill, placeOf, asetAll, undef, aload, apart, AV.cells, AV.one, aeval, updO, upd, initE, gdst, thenQ, blockQ, srcOk, Array.isEmpty, List.isEmpty, bytesV, reduceCtorEq, ↓reduceIte, Nat.reduceLT, Nat.reduceLeDiff, Nat.reduceEqDiff, Nat.reduceAdd, Nat.reduceMul, Nat.reducePow, Nat.reduceSub, Int.reduceLT, Int.reduceLE, Int.reduceToNat, RWire54, Try.ntmps4, h6, h00, h3, hge, eye_lt_nat, hi', hat, show ((6 : Nat) : Int) = 6 from rfl, Int.reduceBEq]
          refine hK _ _ ?_
          clear hK K
          refine awp_block ?_
          refine awp_reg_seq ?_
          intro K hK
          simp only [↓DN, UP, implies_true, forall_eq', ne_eq, if_true, if_false, aval, abin, aint, ashift, abool, astr, anil, aun, aconv, aindexAddr, aindex, optInt, aslice, abuiltin, asrc, afill, placeOf, asetAll, undef, aload, apart, AV.cells, AV.one, aeval, updO, upd, initE, gdst, thenQ, blockQ, srcOk, Array.isEmpty, List.isEmpty, bytesV, reduceCtorEq, ↓reduceIte, Nat.reduceLT, Nat.reduceLeDiff, Nat.reduceEqDiff, Nat.reduceAdd, Nat.reduceMul, Nat.reducePow, Nat.reduceSub, Int.reduceLT, Int.reduceLE, Int.reduceToNat, RWire54, Try.ntmps4, h6, h00, h3, hge, eye_lt_nat, hi', hat, show ((6 : Nat) : Int) = 6 from rfl, Int.reduceBEq]
          refine hK _ _ ?_
          clear hK K
          refine awp_cond_k ?_
          intro X Y hX hY
          simp only [↓DN, UP, implies_true, forall_eq', ne_eq, if_true, if_false, aval, abin, aint, ashift, abool, astr, anil, aun, aconv, aindexAddr, aindex, optInt, aslice, abuiltin, asrc, afill, placeOf, asetAll, undef, aload, apart, AV.cells, AV.one, aeval, updO, upd, initE, gdst, thenQ, blockQ, srcOk, Array.isEmpty, List.isEmpty, bytesV, reduceCtorEq, ↓reduceIte, Nat.reduceLT, Nat.reduceLeDiff, Nat.reduceEqDiff, Nat.reduceAdd, Nat.reduceMul, Nat.reducePow, Nat.reduceSub, Int.reduceLT, Int.reduceLE, Int.reduceToNat, RWire54, Try.ntmps4, Bool.not_true, Bool.not_false, Bool.false_eq_true, Bool.true_eq_false, false_imp_iff, true_imp_iff, decide_eq_true_eq, decide_eq_false_iff_not]
          refine hY ?_
          clear hX hY X Y
          refine awp_reg_seq ?_
          intro K hK
          simp only [↓DN, UP, implies_true, forall_eq', ne_eq, if_true, if_false, aval, abin, aint, ashift, abool, astr, anil, aun, aconv, aindexAddr, aindex, optInt, aslice, abuiltin, asrc, afill, placeOf, asetAll, undef, aload, apart, AV.cells, AV.one, aeval, updO, upd, initE, gdst, thenQ, blockQ, srcOk, Array.isEmpty, List.isEmpty, bytesV, reduceCtorEq, ↓reduceIte, Nat.reduceLT, Nat.reduceLeDiff, Nat.reduceEqDiff, Nat.reduceAdd, Nat.reduceMul, Nat.reducePow, Nat.reduceSub, Int.reduceLT, Int.reduceLE, Int.reduceToNat, RWire54, Try.ntmps4, h6, h00, h3, hge, eye_lt_nat, hi', hat, show ((6 : Nat) : Int) = 6 from rfl, Int.reduceBEq]
          refine hK _ _ ?_
          clear hK K
          refine awp_cond_k ?_
          intro X Y hX hY
          simp only [↓DN, UP, implies_true, forall_eq', ne_eq, if_true, if_false, aval, abin, aint, ashift, abool, astr, anil, aun, aconv, aindexAddr, aindex, optInt, aslice, abuiltin, asrc, afill, placeOf, asetAll, undef, aload, apart, AV.cells, AV.one, aeval, updO, upd, initE, gdst, thenQ, blockQ, srcOk, Array.isEmpty, List.isEmpty, bytesV, reduceCtorEq, ↓reduceIte, Nat.reduceLT, Nat.reduceLeDiff, Nat.reduceEqDiff, Nat.reduceAdd, Nat.reduceMul, Nat.reducePow, Nat.reduceSub, Int.reduceLT, Int.reduceLE, Int.reduceToNat, RWire54, Try.ntmps4, Bool.not_true, Bool.not_false, Bool.false_eq_true, Bool.true_eq_false, false_imp_iff, true_imp_iff, decide_eq_true_eq, decide_eq_false_iff_not]
          refine hY ?_
          clear hX hY X Y
          refine awp_reg_seq ?_
          intro K hK
          simp only [↓DN, UP, implies_true, forall_eq', ne_eq, if_true, if_false, aval, abin, aint, ashift, abool, astr, anil, aun, aconv, aindexAddr, aindex, optInt, aslice, abuiltin, asrc, afill, placeOf, asetAll, undef, aload, apart, AV.cells, AV.one, aeval, updO, upd, initE, gdst, thenQ, blockQ, srcOk, Array.isEmpty, List.isEmpty, bytesV, reduceCtorEq, ↓reduceIte, Nat.reduceLT, Nat.reduceLeDiff, Nat.reduceEqDiff, Nat.reduceAdd, Nat.reduceMul, Nat.reducePow, Nat.reduceSub, Int.reduceLT, Int.reduceLE, Int.reduceToNat, RWire54, Try.ntmps4, h6, h00, h3, hge, eye_lt_nat, hi', hat, show ((6 : Nat) : Int) = 6 from rfl, Int.reduceBEq]
          refine hK _ _ ?_
          clear hK K
          refine awp_cond_k ?_
          intro X Y hX hY
          simp only [↓DN, UP, implies_true, forall_eq', ne_eq, if_true, if_false, aval, abin, aint, ashift, abool, astr, anil, aun, aconv, aindexAddr, aindex, optInt, aslice, abuiltin, asrc, afill, placeOf, asetAll, undef, aload, apart, AV.cells, AV.one, aeval, updO, upd, initE, gdst, thenQ, blockQ, srcOk, Array.isEmpty, List.isEmpty, bytesV, reduceCtorEq, ↓reduceIte, Nat.reduceLT, Nat.reduceLeDiff, Nat.reduceEqDiff, Nat.reduceAdd, Nat.reduceMul, Nat.reducePow, Nat.reduceSub, Int.reduceLT, Int.reduceLE, Int.reduceToNat, RWire54, Try.ntmps4, Bool.not_true, Bool.not_false, Bool.false_eq_true, Bool.true_eq_false, false_imp_iff, true_imp_iff, decide_eq_true_eq, decide_eq_false_iff_not]
          refine hY ?_
          clear hX hY X Y
          refine awp_reg_seq ?_
          intro K hK
          simp only [↓DN, UP, implies_true, forall_eq', ne_eq, if_true, if_false, aval, abin, aint, ashift, abool, astr, anil, aun, aconv, aindexAddr, aindex, optInt, aslice, abuiltin, asrc, afill, placeOf, asetAll, undef, aload, apart, AV.cells, AV.one, aeval, updO, upd, initE, gdst, thenQ, blockQ, srcOk, Array.isEmpty, List.isEmpty, bytesV, reduceCtorEq, ↓reduceIte, Nat.reduceLT, Nat.reduceLeDiff, Nat.reduceEqDiff, Nat.reduceAdd, Nat.reduceMul, Nat.reducePow, Nat.reduceSub, Int.reduceLT, Int.reduceLE, Int.reduceToNat, RWire54, Try.ntmps4, h6, h00, h3, hge, eye_lt_nat, hi', hat, show ((6 : Nat) : Int) = 6 from rfl, Int.reduceBEq]
          refine hK _ _ ?_
          clear hK K
          refine awp_cond_k ?_
          intro X Y hX hY
          simp only [↓DN, UP, implies_true, forall_eq', ne_eq, if_true, if_false, aval, abin, aint, ashift, abool, astr, anil, aun, aconv, aindexAddr, aindex, optInt, aslice, abuiltin, asrc, afill, placeOf, asetAll, undef, aload, apart, AV.cells, AV.one, aeval, updO, upd, initE, gdst, thenQ, blockQ, srcOk, Array.isEmpty, List.isEmpty, bytesV, reduceCtorEq, ↓reduceIte, Nat.reduceLT, Nat.reduceLeDiff, Nat.reduceEqDiff, Nat.reduceAdd, Nat.reduceMul, Nat.reducePow, Nat.reduceSub, Int.reduceLT, Int.reduceLE, Int.reduceToNat, RWire54, Try.ntmps4, Bool.not_true, Bool.not_false, Bool.false_eq_true, Bool.true_eq_false, false_imp_iff, true_imp_iff, decide_eq_true_eq, decide_eq_false_iff_not]
          refine hY ?_
          clear hX hY X Y
          refine awp_reg_seq ?_
          intro K hK
          simp only [↓DN, UP, implies_true, forall_eq', ne_eq, if_true, if_false, aval, abin, aint, ashift, abool, astr, anil, aun, aconv, aindexAddr, aindex, optInt, aslice, abuiltin, asrc, afill, placeOf, asetAll, undef, aload, apart, AV.cells, AV.one, aeval, updO, upd, initE, gdst, thenQ, blockQ, srcOk, Array.isEmpty, List.isEmpty, bytesV, reduceCtorEq, ↓reduceIte, Nat.reduceLT, Nat.reduceLeDiff, Nat.reduceEqDiff, Nat.reduceAdd, Nat.reduceMul, Nat.reducePow, Nat.reduceSub, Int.reduceLT, Int.reduceLE, Int.reduceToNat, RWire54, Try.ntmps4, h6, h00, h3, hge, eye_lt_nat, hi', hat, show ((6 : Nat) : Int) = 6 from rfl, Int.reduceBEq]
          refine hK _ _ ?_
          clear hK K
          refine awp_cond_k ?_
          intro X Y hX hY
          simp only [↓DN, UP, implies_true, forall_eq', ne_eq, if_true, if_false, aval, abin, aint, ashift, abool, astr, anil, aun, aconv, aindexAddr, aindex, optInt, aslice, abuiltin, asrc, afill, placeOf, asetAll, undef, aload, apart, AV.cells, AV.one, aeval, updO, upd, initE, gdst, thenQ, blockQ, srcOk, Array.isEmpty, List.isEmpty, bytesV, reduceCtorEq, ↓reduceIte, Nat.reduceLT, Nat.reduceLeDiff, Nat.reduceEqDiff, Nat.reduceAdd, Nat.reduceMul, Nat.reducePow, Nat.reduceSub, Int.reduceLT, Int.reduceLE, Int.reduceToNat, RWire54, Try.ntmps4, Bool.not_true, Bool.not_false, Bool.false_eq_true, Bool.true_eq_false, false_imp_iff, true_imp_iff, decide_eq_true_eq, decide_eq_false_iff_not]
          refine hY ?_
          clear hX hY X Y
          refine awp_reg_seq ?_
          intro K hK
          simp only [↓DN, UP, implies_true, forall_eq', ne_eq, if_true, if_false, aval, abin, aint, ashift, abool, astr, anil, aun, aconv, aindexAddr, aindex, optInt, aslice, abuiltin, asrc, afill, placeOf, asetAll, undef, aload, apart, AV.cells, AV.one, aeval, updO, upd, initE, gdst, thenQ, blockQ, srcOk, Array.isEmpty, List.isEmpty, bytesV, reduceCtorEq, ↓reduceIte, Nat.reduceLT, Nat.reduceLeDiff, Nat.reduceEqDiff, Nat.reduceAdd, Nat.reduceMul, Nat.reducePow, Nat.reduceSub, Int.reduceLT, Int.reduceLE, Int.reduceToNat, RWire54, Try.ntmps4, h6, h00, h3, hge, eye_lt_nat, hi', hat, show ((6 : Nat) : Int) = 6 from rfl, Int.reduceBEq]
          refine hK _ _ ?_
          clear hK K
          refine awp_cond_k ?_
          intro X Y hX hY
          simp only [↓DN, UP, implies_true, forall_eq', ne_eq, if_true, if_false, aval, abin, aint, ashift, abool, astr, anil, aun, aconv, aindexAddr, aindex, optInt, aslice, abuiltin, asrc, afill, placeOf, asetAll, undef, aload, apart, AV.cells, AV.one, aeval, updO, upd, initE, gdst, thenQ, blockQ, srcOk, Array.isEmpty, List.isEmpty, bytesV, reduceCtorEq, ↓reduceIte, Nat.reduceLT, Nat.reduceLeDiff, Nat.reduceEqDiff, Nat.reduceAdd, Nat.reduceMul, Nat.reducePow, Nat.reduceSub, Int.reduceLT, Int.reduceLE, Int.reduceToNat, RWire54, Try.ntmps4, Bool.not_true, Bool.not_false, Bool.false_eq_true, Bool.true_eq_false, false_imp_iff, true_imp_iff, decide_eq_true_eq, decide_eq_false_iff_not]
          refine hY ?_
          clear hX hY X Y
          refine awp_reg_seq ?_
          intro K hK
          simp only [↓DN, UP, implies_true, forall_eq', ne_eq, if_true, if_false, aval, abin, aint, ashift, abool, astr, anil, aun, aconv, aindexAddr, aindex, optInt, aslice, abuiltin, asrc, afill, placeOf, asetAll, undef, aload, apart, AV.cells, AV.one, aeval, updO, upd, initE, gdst, thenQ, blockQ, srcOk, Array.isEmpty, List.isEmpty, bytesV, reduceCtorEq, ↓reduceIte, Nat.reduceLT, Nat.reduceLeDiff, Nat.reduceEqDiff, Nat.reduceAdd, Nat.reduceMul, Nat.reducePow, Nat.reduceSub, Int.reduceLT, Int.reduceLE, Int.reduceToNat, RWire54, Try.ntmps4, h6, h00, h3, hge, eye_lt_nat, hi', hat, show ((6 : Nat) : Int) = 6 from rfl, Int.reduceBEq]
          refine hK _ _ ?_
          clear hK K
          refine awp_cond_k ?_
          intro X Y hX hY
          simp only [↓DN, UP, implies_true, forall_eq', ne_eq, if_true, if_false, aval, abin, aint, ashift, abool, astr, anil, aun, aconv, aindexAddr, aindex, optInt, aslice, abuiltin, asrc, afill, placeOf, asetAll, undef, aload, apart, AV.cells, AV.one, aeval, updO, upd, initE, gdst, thenQ, blockQ, srcOk, Array.isEmpty, List.isEmpty, bytesV, reduceCtorEq, ↓reduceIte, Nat.reduceLT, Nat.reduceLeDiff, Nat.reduceEqDiff, Nat.reduceAdd, Nat.reduceMul, Nat.reducePow, Nat.reduceSub, Int.reduceLT, Int.reduceLE, Int.reduceToNat, RWire54, Try.ntmps4, Bool.not_true, Bool.not_false, Bool.false_eq_true, Bool.true_eq_false, false_imp_iff, true_imp_iff, decide_eq_true_eq, decide_eq_false_iff_not]
          refine hX ?_
          clear hX hY X Y
          refine awp_reg_end ?_
          intro K hK
          simp only [↓DN, UP, implies_true, forall_eq', ne_eq, if_true, if_false, aval, abin, aint, ashift, abool, astr, anil, aun, aconv, aindexAddr, aindex, optInt, aslice, abuiltin, asrc, afill, placeOf, asetAll, undef, aload, apart, AV.cells, AV.one, aeval, updO, upd, initE, gdst, thenQ, blockQ, srcOk, Array.isEmpty, List.isEmpty, bytesV, reduceCtorEq, ↓reduceIte, Nat.reduceLT, Nat.reduceLeDiff, Nat.reduceEqDiff, Nat.reduceAdd, Nat.reduceMul, Nat.reducePow, Nat.reduceSub, Int.reduceLT, Int.reduceLE, Int.reduceToNat, RWire54, Try.ntmps4, h6, h00, h3, hge, eye_lt_nat, hi', hat, show ((6 : Nat) : Int) = 6 from rfl, Int.reduceBEq]
          refine acallk (penLong_calls s' s3 p st _ b (IsB.any b) (by omega) hp) ?_
          rintro r s4 ⟨rfl, hp4⟩
          simp only [↓AXq_nil, ↓AXq_cons, pval, List.contains_cons, List.contains_nil, Nat.reduceBEq, Bool.or_false, Bool.or_true, Bool.or_self, Bool.false_eq_true, Bool.false_or, ↓DN, UP, implies_true, forall_eq', ne_eq, if_true, if_false, aval, abin, aint, ashift, abool, astr, anil, aun, aconv, aindexAddr, aindex, optInt, aslice, abuiltin, asrc, afill, placeOf, asetAll, undef, aload, apart, AV.cells, AV.one, aeval, updO, upd, initE, gdst, thenQ, blockQ, srcOk, Array.isEmpty, List.isEmpty, bytesV, reduceCtorEq, ↓reduceIte, Nat.reduceLT, Nat.reduceLeDiff, Nat.reduceEqDiff, Nat.reduceAdd, Nat.reduceMul, Nat.reducePow, Nat.reduceSub, Int.reduceLT, Int.reduceLE, Int.reduceToNat, RWire54, Try.ntmps4]
          refine hK _ _ ?_
          clear hK K
          simp only [blockQ, thenQ, if_true, if_false]
          exact hrest _ _ (by simp only [upd, h00, Nat.reduceEqDiff, ↓reduceIte]) (by simp only [upd, h3, Nat.reduceEqDiff, ↓reduceIte]) (by simp only [upd, h4, Nat.reduceEqDiff, ↓reduceIte]) (by simp only [upd, h5, Nat.reduceEqDiff, ↓reduceIte]) (by simp only [upd, h6, Nat.reduceEqDiff, ↓reduceIte]) (by simp only [upd, ↓reduceIte, show ((6 : Nat) : Int) = 6 from rfl, Nat.reduceEqDiff, ↓reduceIte]) hp4
      · refine awp_reg_seq ?_
        intro K hK
        simp only [↓DN, UP, implies_true, forall_eq', ne_eq, if_true, if_false, aval, abin, aint, ashift, abool, astr, anil, aun, aconv, aindexAddr, aindex, optInt, aslice, abuiltin, asrc, afill, placeOf, asetAll, undef, aload, apart, AV.cells, AV.one, aeval, updO, upd, initE, gdst, thenQ, blockQ, srcOk, Array.isEmpty, List.isEmpty, bytesV, reduceCtorEq, ↓reduceIte, Nat.reduceLT, Nat.reduceLeDiff, Nat.reduceEqDiff, Nat.reduceAdd, Nat.reduceMul, Nat.reducePow, Nat.reduceSub, Int.reduceLT, Int.reduceLE, Int.reduceToNat, RWire54, Try.ntmps4, h6, h00, eye_lt_nat, decide_eq_false hi']
        refine hK _ _ ?_
        clear hK K
        refine awp_cond_k ?_
        intro X Y hX hY
        simp only [↓DN, UP, implies_true, forall_eq', ne_eq, if_true, if_false, aval, abin, aint, ashift, abool, astr, anil, aun, aconv, aindexAddr, aindex, optInt, aslice, abuiltin, asrc, afill, placeOf, asetAll, undef, aload, apart, AV.cells, AV.one, aeval, updO, upd, initE, gdst, thenQ, blockQ, srcOk, Array.isEmpty, List.isEmpty, bytesV, reduceCtorEq, ↓reduceIte, Nat.reduceLT, Nat.reduceLeDiff, Nat.reduceEqDiff, Nat.reduceAdd, Nat.reduceMul, Nat.reducePow, Nat.reduceSub, Int.reduceLT, Int.reduceLE, Int.reduceToNat, RWire54, Try.ntmps4, Bool.not_true, Bool.not_false, Bool.false_eq_true, Bool.true_eq_false, false_imp_iff, true_imp_iff, decide_eq_true_eq, decide_eq_false_iff_not]
        refine hY ?_
        clear hX hY X Y
        refine awp_exit ?_
        simp only [thenQ, blockQ, if_true]
        refine hK _ _ ?_
        clear hK hK2 K K2
        refine awp_reg_seq ?_
        intro K hK
        simp only [↓DN, UP, implies_true, forall_eq', ne_eq, if_true, if_false, aval, abin, aint, ashift, abool, astr, anil, aun, aconv, aindexAddr, aindex, optInt, aslice, abuiltin, asrc, afill, placeOf, asetAll, undef, aload, apart, AV.cells, AV.one, aeval, updO, upd, initE, gdst, thenQ, blockQ, srcOk, Array.isEmpty, List.isEmpty, bytesV, reduceCtorEq, ↓reduceIte, Nat.reduceLT, Nat.reduceLeDiff, Nat.reduceEqDiff, Nat.reduceAdd, Nat.reduceMul, Nat.reducePow, Nat.reduceSub, Int.reduceLT, Int.reduceLE, Int.reduceToNat, RWire54, Try.ntmps4, h3]
        refine acallk (penBytes_calls s' s2 p _ (by omega) hp) ?_
        rintro r s3 ⟨rfl, rfl⟩
        cases ok
        · rw [show st.2 = true from by simpa using hst]
          simp only [↓AXq_nil, ↓AXq_cons, pval, List.contains_cons, List.contains_nil, Nat.reduceBEq, Bool.or_false, Bool.or_true, Bool.or_self, Bool.false_eq_true, Bool.false_or, ↓DN, UP, implies_true, forall_eq', ne_eq, if_true, if_false, aval, abin, aint, ashift, abool, astr, anil, aun, aconv, aindexAddr, aindex, optInt, aslice, abuiltin, asrc, afill, placeOf, asetAll, undef, aload, apart, AV.cells, AV.one, aeval, updO, upd, initE, gdst, thenQ, blockQ, srcOk, Array.isEmpty, List.isEmpty, bytesV, reduceCtorEq, ↓reduceIte, Nat.reduceLT, Nat.reduceLeDiff, Nat.reduceEqDiff, Nat.reduceAdd, Nat.reduceMul, Nat.reducePow, Nat.reduceSub, Int.reduceLT, Int.reduceLE, Int.reduceToNat, RWire54, Try.ntmps4]
          refine hK _ _ ?_
          clear hK K
          refine awp_reg_seq ?_
          intro K hK
          simp only [↓DN, UP, implies_true, forall_eq', ne_eq, if_true, if_false, aval, abin, aint, ashift, abool, astr, anil, aun, aconv, aindexAddr, aindex, optInt, aslice, abuiltin, asrc, afill, placeOf, asetAll, undef, aload, apart, AV.cells, AV.one, aeval, updO, upd, initE, gdst, thenQ, blockQ, srcOk, Array.isEmpty, List.isEmpty, bytesV, reduceCtorEq, ↓reduceIte, Nat.reduceLT, Nat.reduceLeDiff, Nat.reduceEqDiff, Nat.reduceAdd, Nat.reduceMul, Nat.reducePow, Nat.reduceSub, Int.reduceLT, Int.reduceLE, Int.reduceToNat, RWire54, Try.ntmps4, h5, show (((0 : Nat) : Int) == 0) = true from rfl]
          refine hK _ _ ?_
          clear hK K
          refine awp_ret ?_
          simp only [retQ, AEnds, aresL, ares, List.toList_toArray, ↓upd_same]; try simp only [↓DN, UP, implies_true, forall_eq', ne_eq, if_true, if_false, aval, abin, aint, ashift, abool, astr, anil, aun, aconv, aindexAddr, aindex, optInt, aslice, abuiltin, asrc, afill, placeOf, asetAll, undef, aload, apart, AV.cells, AV.one, aeval, updO, upd, initE, gdst, thenQ, blockQ, srcOk, Array.isEmpty, List.isEmpty, bytesV, reduceCtorEq, ↓reduceIte, Nat.reduceLT, Nat.reduceLeDiff, Nat.reduceEqDiff, Nat.reduceAdd, Nat.reduceMul, Nat.reducePow, Nat.reduceSub, Int.reduceLT, Int.reduceLE, Int.reduceToNat, RWire54, Try.ntmps4, atuple_nil, atuple_one, atuple_two, atuple_three, atuple_four, atuple_five]
          exact ⟨_, _, AV.weak.refl _, AS.le.refl _, rfl⟩
        · rw [show st.2 = false from by simpa using hst, ← hW rfl]
          simp only [↓AXq_nil, ↓AXq_cons, pval, List.contains_cons, List.contains_nil, Nat.reduceBEq, Bool.or_false, Bool.or_true, Bool.or_self, Bool.false_eq_true, Bool.false_or, ↓DN, UP, implies_true, forall_eq', ne_eq, if_true, if_false, aval, abin, aint, ashift, abool, astr, anil, aun, aconv, aindexAddr, aindex, optInt, aslice, abuiltin, asrc, afill, placeOf, asetAll, undef, aload, apart, AV.cells, AV.one, aeval, updO, upd, initE, gdst, thenQ, blockQ, srcOk, Array.isEmpty, List.isEmpty, bytesV, reduceCtorEq, ↓reduceIte, Nat.reduceLT, Nat.reduceLeDiff, Nat.reduceEqDiff, Nat.reduceAdd, Nat.reduceMul, Nat.reducePow, Nat.reduceSub, Int.reduceLT, Int.reduceLE, Int.reduceToNat, RWire54, Try.ntmps4]
          refine hK _ _ ?_
          clear hK K
          refine awp_reg_seq ?_
          intro K hK
          simp only [↓DN, UP, implies_true, forall_eq', ne_eq, if_true, if_false, aval, abin, aint, ashift, abool, astr, anil, aun, aconv, aindexAddr, aindex, optInt, aslice, abuiltin, asrc, afill, placeOf, asetAll, undef, aload, apart, AV.cells, AV.one, aeval, updO, upd, initE, gdst, thenQ, blockQ, srcOk, Array.isEmpty, List.isEmpty, bytesV, reduceCtorEq, ↓reduceIte, Nat.reduceLT, Nat.reduceLeDiff, Nat.reduceEqDiff, Nat.reduceAdd, Nat.reduceMul, Nat.reducePow, Nat.reduceSub, Int.reduceLT, Int.reduceLE, Int.reduceToNat, RWire54, Try.ntmps4, h5, h4]
          refine hK _ _ ?_
          clear hK K
          refine awp_ret ?_
          simp only [retQ, AEnds, aresL, ares, List.toList_toArray, ↓upd_same]; try simp only [↓DN, UP, implies_true, forall_eq', ne_eq, if_true, if_false, aval, abin, aint, ashift, abool, astr, anil, aun, aconv, aindexAddr, aindex, optInt, aslice, abuiltin, asrc, afill, placeOf, asetAll, undef, aload, apart, AV.cells, AV.one, aeval, updO, upd, initE, gdst, thenQ, blockQ, srcOk, Array.isEmpty, List.isEmpty, bytesV, reduceCtorEq, ↓reduceIte, Nat.reduceLT, Nat.reduceLeDiff, Nat.reduceEqDiff, Nat.reduceAdd, Nat.reduceMul, Nat.reducePow, Nat.reduceSub, Int.reduceLT, Int.reduceLE, Int.reduceToNat, RWire54, Try.ntmps4, atuple_nil, atuple_one, atuple_two, atuple_three, atuple_four, atuple_five]
          exact ⟨_, _, AV.weak.refl _, AS.le.refl _, rfl⟩

end Go.Proofs.Ytpakgjmcaefnmaa
