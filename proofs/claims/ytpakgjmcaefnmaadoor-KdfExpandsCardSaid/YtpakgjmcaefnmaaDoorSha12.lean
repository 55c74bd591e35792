/- Contracts of the program's functions, each walked once; the conditions stand in each theorem. -/
import Derived.Test.YtpakgjmcaefnmaaDoorSha11
set_option linter.unusedSimpArgs false
set_option linter.unusedVariables false
set_option autoImplicit false
namespace Go.Proofs.YtpakgjmcaefnmaaDoor
open Go Go.AM Go.Proofs

theorem RSha1225 : type_of% (And.intro (And.intro @Tryd.underlying3 T.c3) (And.intro T.g3 (And.intro T.b3 T.z3))) :=
  (And.intro (And.intro @Tryd.underlying3 T.c3) (And.intro T.g3 (And.intro T.b3 T.z3)))
theorem RSha124 : type_of% (And.intro (And.intro (And.intro (And.intro (And.intro @Tryd.underlying3 T.c3) (And.intro T.g3 T.b3)) (And.intro (And.intro T.z3 @Tryd.underlying4) (And.intro T.c4 T.g4))) (And.intro (And.intro (And.intro T.b4 T.z4) (And.intro @Tryd.underlying5 T.c5)) (And.intro (And.intro T.g5 T.b5) (And.intro T.z5 (And.intro @Tryd.underlying9 T.c9))))) (And.intro (And.intro (And.intro (And.intro T.g9 T.b9) (And.intro T.z9 @Tryd.underlying22)) (And.intro (And.intro T.c22 T.g22) (And.intro T.b22 (And.intro T.z22 T.s22)))) (And.intro (And.intro (And.intro @Tryd.underlying98 T.c98) (And.intro T.g98 T.b98)) (And.intro (And.intro T.z98 T.s98) (And.intro T.k23 (And.intro T.k25 T.k22)))))) :=
  (And.intro (And.intro (And.intro (And.intro (And.intro @Tryd.underlying3 T.c3) (And.intro T.g3 T.b3)) (And.intro (And.intro T.z3 @Tryd.underlying4) (And.intro T.c4 T.g4))) (And.intro (And.intro (And.intro T.b4 T.z4) (And.intro @Tryd.underlying5 T.c5)) (And.intro (And.intro T.g5 T.b5) (And.intro T.z5 (And.intro @Tryd.underlying9 T.c9))))) (And.intro (And.intro (And.intro (And.intro T.g9 T.b9) (And.intro T.z9 @Tryd.underlying22)) (And.intro (And.intro T.c22 T.g22) (And.intro T.b22 (And.intro T.z22 T.s22)))) (And.intro (And.intro (And.intro @Tryd.underlying98 T.c98) (And.intro T.g98 T.b98)) (And.intro (And.intro T.z98 T.s98) (And.intro T.k23 (And.intro T.k25 T.k22))))))

variable {Γ : Nat → List AV}

theorem rest_range (a n : Int) (hn : 0 < n) (hn2 : n ≤ 2 ^ 61) : ∃ k : Nat, irem (iadd .i64 (irem a n) n) n = (k : Int) ∧ (k : Int) < n := by
  have h1 : a.tmod n < n := Int.tmod_lt_of_pos a hn
  have h2 : -n < a.tmod n := by
    have h := Int.natAbs_tmod a n
    have := Nat.mod_lt a.natAbs (show 0 < n.natAbs by omega)
    omega
  unfold irem
  rw [iadd_i64 (by omega)]
  have h3 : 0 ≤ a.tmod n + n := by omega
  have h4 := Int.tmod_lt_of_pos (a.tmod n + n) hn
  have h5 := Int.tmod_nonneg n h3
  exact ⟨((a.tmod n + n).tmod n).toNat, by omega, by omega⟩

set_option maxHeartbeats 400000 in
theorem rest_calls (a n : Int) (hn : 0 < n) (hn2 : n ≤ 2 ^ 61) (s : AS) :
    ACalls Tryd.prog Γ 25 [.v (.int .i64 a), .v (.int .i64 n)] s (fun r s' => ∃ k : Nat, r = .v (.int .i64 k) ∧ (k : Int) < n ∧ s' = s) := by
  refine acalls_body Tryd.func25 rfl Tryd.ntmps25 Tryd.results25 (by simp) ?_
  obtain ⟨k, h1, h2⟩ := rest_range a n hn hn2
  have hn0 : ¬ n = 0 := by omega
  refine awp_reg_seq ?_
  intro K hK
  simp only [↓DN, UP, implies_true, forall_eq', ne_eq, if_true, if_false, aval, abin, aint, ashift, abool, astr, anil, aun, aconv, aindexAddr, aindex, optInt, aslice, abuiltin, asrc, afill, placeOf, asetAll, undef, aload, apart, AV.cells, AV.one, aeval, updO, upd, initE, gdst, thenQ, blockQ, srcOk, Array.isEmpty, List.isEmpty, bytesV, reduceCtorEq, ↓reduceIte, Nat.reduceLT, Nat.reduceLeDiff, Nat.reduceEqDiff, Nat.reduceAdd, Nat.reduceMul, Nat.reducePow, Nat.reduceSub, Int.reduceLT, Int.reduceLE, Int.reduceToNat, RSha1225, Tryd.ntmps25]
  refine hK _ _ ?_
  clear hK K
  refine awp_reg_seq ?_
  intro K hK
  simp only [↓DN, UP, implies_true, forall_eq', ne_eq, if_true, if_false, aval, abin, aint, ashift, abool, astr, anil, aun, aconv, aindexAddr, aindex, optInt, aslice, abuiltin, asrc, afill, placeOf, asetAll, undef, aload, apart, AV.cells, AV.one, aeval, updO, upd, initE, gdst, thenQ, blockQ, srcOk, Array.isEmpty, List.isEmpty, bytesV, reduceCtorEq, ↓reduceIte, Nat.reduceLT, Nat.reduceLeDiff, Nat.reduceEqDiff, Nat.reduceAdd, Nat.reduceMul, Nat.reducePow, Nat.reduceSub, Int.reduceLT, Int.reduceLE, Int.reduceToNat, RSha1225, Tryd.ntmps25, hn0, h1]
  refine hK _ _ ?_
  clear hK K
  refine awp_ret ?_
  simp only [retQ, AEnds, aresL, ares, List.toList_toArray, ↓upd_same]; try simp only [↓DN, UP, implies_true, forall_eq', ne_eq, if_true, if_false, aval, abin, aint, ashift, abool, astr, anil, aun, aconv, aindexAddr, aindex, optInt, aslice, abuiltin, asrc, afill, placeOf, asetAll, undef, aload, apart, AV.cells, AV.one, aeval, updO, upd, initE, gdst, thenQ, blockQ, srcOk, Array.isEmpty, List.isEmpty, bytesV, reduceCtorEq, ↓reduceIte, Nat.reduceLT, Nat.reduceLeDiff, Nat.reduceEqDiff, Nat.reduceAdd, Nat.reduceMul, Nat.reducePow, Nat.reduceSub, Int.reduceLT, Int.reduceLE, Int.reduceToNat, RSha1225, Tryd.ntmps25, atuple_nil, atuple_one, atuple_two, atuple_three, atuple_four, atuple_five]
  exact ⟨_, _, AV.weak.refl _, AS.le.refl _, k, rfl, h2, rfl⟩

theorem min_max (p q n : Nat) (hp : p ≤ n) (hq : q ≤ n) : ∃ i k : Nat, (if (q : Int) < p then (q : Int) else p) = (i : Int) ∧ (if (p : Int) < q then (q : Int) else p) = (k : Int) ∧ i ≤ k ∧ k ≤ n := by
  by_cases h : q < p
  · exact ⟨q, p, by rw [if_pos (by omega)], by rw [if_neg (by omega)], by omega, hp⟩
  · by_cases h' : p < q
    · exact ⟨p, q, by rw [if_neg (by omega)], by rw [if_pos (by omega)], by omega, hq⟩
    · exact ⟨p, p, by rw [if_neg (by omega)], by rw [if_neg (by omega)], by omega, hp⟩

theorem parts_flat (b : List UInt8) (i k : Nat) (h : i ≤ k) : [b.take i, (b.take k).drop i, [], b.drop k].flatten = b := by
  simp only [List.flatten_cons, List.flatten_nil, List.append_nil, List.nil_append]
  have : b.take i = (b.take k).take i := by rw [List.take_take, Nat.min_eq_left h]
  rw [this, ← List.append_assoc, List.take_append_drop, List.take_append_drop]

set_option maxHeartbeats 2000000 in
set_option maxRecDepth 100000 in
theorem shaParts_calls (hG0 : Γ 0 = stC Sha.H0) (hG : Γ 1 = Sha.K.map wV) (b : List UInt8) (a1 a2 : Int) (s : AS) :
    ACalls Tryd.prog Γ 4 [bytesV b .any, .v (.int .i64 a1), .v (.int .i64 a2)] s (fun r s' => r = .v (.bool true)) := by
  refine acalls_body Tryd.func4 rfl Tryd.ntmps4 Tryd.results4 (by simp) ?_
  refine awp_reg_seq ?_
  intro K hK
  simp only [↓DN, UP, implies_true, forall_eq', ne_eq, if_true, if_false, aval, abin, aint, ashift, abool, astr, anil, aun, aconv, aindexAddr, aindex, optInt, aslice, abuiltin, asrc, afill, placeOf, asetAll, undef, aload, apart, AV.cells, AV.one, aeval, updO, upd, initE, gdst, thenQ, blockQ, srcOk, Array.isEmpty, List.isEmpty, bytesV, reduceCtorEq, ↓reduceIte, Nat.reduceLT, Nat.reduceLeDiff, Nat.reduceEqDiff, Nat.reduceAdd, Nat.reduceMul, Nat.reducePow, Nat.reduceSub, Int.reduceLT, Int.reduceLE, Int.reduceToNat, RSha124, Tryd.ntmps4]
  refine hK _ _ ?_
  clear hK K
  refine awp_seq_k ?_
  intro K hK
  refine awp_reg_seq ?_
  intro K hK
  simp only [↓DN, UP, implies_true, forall_eq', ne_eq, if_true, if_false, aval, abin, aint, ashift, abool, astr, anil, aun, aconv, aindexAddr, aindex, optInt, aslice, abuiltin, asrc, afill, placeOf, asetAll, undef, aload, apart, AV.cells, AV.one, aeval, updO, upd, initE, gdst, thenQ, blockQ, srcOk, Array.isEmpty, List.isEmpty, bytesV, reduceCtorEq, ↓reduceIte, Nat.reduceLT, Nat.reduceLeDiff, Nat.reduceEqDiff, Nat.reduceAdd, Nat.reduceMul, Nat.reducePow, Nat.reduceSub, Int.reduceLT, Int.reduceLE, Int.reduceToNat, RSha124, Tryd.ntmps4]
  refine acallk (awake02_calls hG0 hG _) ?_
  rintro r s1 ⟨rfl, rfl⟩
  simp only [↓AXq_nil, ↓AXq_cons, pval, List.contains_cons, List.contains_nil, Nat.reduceBEq, Bool.or_false, Bool.or_true, Bool.or_self, Bool.false_eq_true, Bool.false_or, ↓DN, UP, implies_true, forall_eq', ne_eq, if_true, if_false, aval, abin, aint, ashift, abool, astr, anil, aun, aconv, aindexAddr, aindex, optInt, aslice, abuiltin, asrc, afill, placeOf, asetAll, undef, aload, apart, AV.cells, AV.one, aeval, updO, upd, initE, gdst, thenQ, blockQ, srcOk, Array.isEmpty, List.isEmpty, bytesV, reduceCtorEq, ↓reduceIte, Nat.reduceLT, Nat.reduceLeDiff, Nat.reduceEqDiff, Nat.reduceAdd, Nat.reduceMul, Nat.reducePow, Nat.reduceSub, Int.reduceLT, Int.reduceLE, Int.reduceToNat, RSha124, Tryd.ntmps4]
  refine hK _ _ ?_
  clear hK K
  refine awp_cond_k ?_
  intro X Y hX hY
  simp only [↓DN, UP, implies_true, forall_eq', ne_eq, if_true, if_false, aval, abin, aint, ashift, abool, astr, anil, aun, aconv, aindexAddr, aindex, optInt, aslice, abuiltin, asrc, afill, placeOf, asetAll, undef, aload, apart, AV.cells, AV.one, aeval, updO, upd, initE, gdst, thenQ, blockQ, srcOk, Array.isEmpty, List.isEmpty, bytesV, reduceCtorEq, ↓reduceIte, Nat.reduceLT, Nat.reduceLeDiff, Nat.reduceEqDiff, Nat.reduceAdd, Nat.reduceMul, Nat.reducePow, Nat.reduceSub, Int.reduceLT, Int.reduceLE, Int.reduceToNat, RSha124, Tryd.ntmps4, Bool.not_true, Bool.not_false, Bool.false_eq_true, Bool.true_eq_false, false_imp_iff, true_imp_iff, decide_eq_true_eq, decide_eq_false_iff_not]
  refine ⟨fun _ => hX ?_, fun hlt => hY ?_⟩
  · clear hX hY X Y
    refine awp_reg_seq ?_
    intro K hK
    simp only [↓DN, UP, implies_true, forall_eq', ne_eq, if_true, if_false, aval, abin, aint, ashift, abool, astr, anil, aun, aconv, aindexAddr, aindex, optInt, aslice, abuiltin, asrc, afill, placeOf, asetAll, undef, aload, apart, AV.cells, AV.one, aeval, updO, upd, initE, gdst, thenQ, blockQ, srcOk, Array.isEmpty, List.isEmpty, bytesV, reduceCtorEq, ↓reduceIte, Nat.reduceLT, Nat.reduceLeDiff, Nat.reduceEqDiff, Nat.reduceAdd, Nat.reduceMul, Nat.reducePow, Nat.reduceSub, Int.reduceLT, Int.reduceLE, Int.reduceToNat, RSha124, Tryd.ntmps4]
    refine acallk (awake02_calls hG0 hG _) ?_
    rintro r s2 ⟨rfl, rfl⟩
    simp only [↓AXq_nil, ↓AXq_cons, pval, List.contains_cons, List.contains_nil, Nat.reduceBEq, Bool.or_false, Bool.or_true, Bool.or_self, Bool.false_eq_true, Bool.false_or, ↓DN, UP, implies_true, forall_eq', ne_eq, if_true, if_false, aval, abin, aint, ashift, abool, astr, anil, aun, aconv, aindexAddr, aindex, optInt, aslice, abuiltin, asrc, afill, placeOf, asetAll, undef, aload, apart, AV.cells, AV.one, aeval, updO, upd, initE, gdst, thenQ, blockQ, srcOk, Array.isEmpty, List.isEmpty, bytesV, reduceCtorEq, ↓reduceIte, Nat.reduceLT, Nat.reduceLeDiff, Nat.reduceEqDiff, Nat.reduceAdd, Nat.reduceMul, Nat.reducePow, Nat.reduceSub, Int.reduceLT, Int.reduceLE, Int.reduceToNat, RSha124, Tryd.ntmps4]
    refine hK _ _ ?_
    clear hK K
    refine awp_ret ?_
    simp only [retQ, AEnds, aresL, ares, List.toList_toArray, ↓upd_same]; try simp only [↓DN, UP, implies_true, forall_eq', ne_eq, if_true, if_false, aval, abin, aint, ashift, abool, astr, anil, aun, aconv, aindexAddr, aindex, optInt, aslice, abuiltin, asrc, afill, placeOf, asetAll, undef, aload, apart, AV.cells, AV.one, aeval, updO, upd, initE, gdst, thenQ, blockQ, srcOk, Array.isEmpty, List.isEmpty, bytesV, reduceCtorEq, ↓reduceIte, Nat.reduceLT, Nat.reduceLeDiff, Nat.reduceEqDiff, Nat.reduceAdd, Nat.reduceMul, Nat.reducePow, Nat.reduceSub, Int.reduceLT, Int.reduceLE, Int.reduceToNat, RSha124, Tryd.ntmps4, atuple_nil, atuple_one, atuple_two, atuple_three, atuple_four, atuple_five]
    exact ⟨_, _, AV.weak.refl _, AS.le.refl _, rfl⟩
  · clear hX hY X Y
    refine awp_skip ?_
    refine hK _ _ ?_
    clear hK K
    have hb : b.length ≤ 600 := by omega
    have hadd : iadd .i64 (b.length : Int) 1 = (b.length : Int) + 1 := iadd_i64 (by omega)
    refine awp_reg_seq ?_
    intro K hK
    simp only [↓DN, UP, implies_true, forall_eq', ne_eq, if_true, if_false, aval, abin, aint, ashift, abool, astr, anil, aun, aconv, aindexAddr, aindex, optInt, aslice, abuiltin, asrc, afill, placeOf, asetAll, undef, aload, apart, AV.cells, AV.one, aeval, updO, upd, initE, gdst, thenQ, blockQ, srcOk, Array.isEmpty, List.isEmpty, bytesV, reduceCtorEq, ↓reduceIte, Nat.reduceLT, Nat.reduceLeDiff, Nat.reduceEqDiff, Nat.reduceAdd, Nat.reduceMul, Nat.reducePow, Nat.reduceSub, Int.reduceLT, Int.reduceLE, Int.reduceToNat, RSha124, Tryd.ntmps4, hadd]
    refine acallk (rest_calls a1 _ (by omega) (by omega) _) ?_
    rintro r s2 ⟨p, rfl, hp, rfl⟩
    simp only [↓AXq_nil, ↓AXq_cons, pval, List.contains_cons, List.contains_nil, Nat.reduceBEq, Bool.or_false, Bool.or_true, Bool.or_self, Bool.false_eq_true, Bool.false_or, ↓DN, UP, implies_true, forall_eq', ne_eq, if_true, if_false, aval, abin, aint, ashift, abool, astr, anil, aun, aconv, aindexAddr, aindex, optInt, aslice, abuiltin, asrc, afill, placeOf, asetAll, undef, aload, apart, AV.cells, AV.one, aeval, updO, upd, initE, gdst, thenQ, blockQ, srcOk, Array.isEmpty, List.isEmpty, bytesV, reduceCtorEq, ↓reduceIte, Nat.reduceLT, Nat.reduceLeDiff, Nat.reduceEqDiff, Nat.reduceAdd, Nat.reduceMul, Nat.reducePow, Nat.reduceSub, Int.reduceLT, Int.reduceLE, Int.reduceToNat, RSha124, Tryd.ntmps4, hadd]
    refine acallk (rest_calls a2 _ (by omega) (by omega) _) ?_
    rintro r s3 ⟨q, rfl, hq, rfl⟩
    simp only [↓AXq_nil, ↓AXq_cons, pval, List.contains_cons, List.contains_nil, Nat.reduceBEq, Bool.or_false, Bool.or_true, Bool.or_self, Bool.false_eq_true, Bool.false_or, ↓DN, UP, implies_true, forall_eq', ne_eq, if_true, if_false, aval, abin, aint, ashift, abool, astr, anil, aun, aconv, aindexAddr, aindex, optInt, aslice, abuiltin, asrc, afill, placeOf, asetAll, undef, aload, apart, AV.cells, AV.one, aeval, updO, upd, initE, gdst, thenQ, blockQ, srcOk, Array.isEmpty, List.isEmpty, bytesV, reduceCtorEq, ↓reduceIte, Nat.reduceLT, Nat.reduceLeDiff, Nat.reduceEqDiff, Nat.reduceAdd, Nat.reduceMul, Nat.reducePow, Nat.reduceSub, Int.reduceLT, Int.reduceLE, Int.reduceToNat, RSha124, Tryd.ntmps4]
    refine hK _ _ ?_
    clear hK K
    obtain ⟨i, k, hi, hk, hik, hkn⟩ := min_max p q b.length (by omega) (by omega)
    refine awp_reg_seq ?_
    intro K hK
    simp only [↓DN, UP, implies_true, forall_eq', ne_eq, if_true, if_false, aval, abin, aint, ashift, abool, astr, anil, aun, aconv, aindexAddr, aindex, optInt, aslice, abuiltin, asrc, afill, placeOf, asetAll, undef, aload, apart, AV.cells, AV.one, aeval, updO, upd, initE, gdst, thenQ, blockQ, srcOk, Array.isEmpty, List.isEmpty, bytesV, reduceCtorEq, ↓reduceIte, Nat.reduceLT, Nat.reduceLeDiff, Nat.reduceEqDiff, Nat.reduceAdd, Nat.reduceMul, Nat.reducePow, Nat.reduceSub, Int.reduceLT, Int.reduceLE, Int.reduceToNat, RSha124, Tryd.ntmps4, hi, hk]
    refine hK _ _ ?_
    clear hK K
    have h0i : (0 : Int) ≤ (i : Int) := by omega
    have h0k : (0 : Int) ≤ (k : Int) := by omega
    have hik' : (i : Int) ≤ (k : Int) := by omega
    have hin' : (i : Int) ≤ (b.length : Int) := by omega
    have hkn' : (k : Int) ≤ (b.length : Int) := by omega
    have rep4 : ∀ x : AV, List.replicate 4 x = [x, x, x, x] := fun _ => rfl
    refine awp_drw_seq T.mixed [11, 15] (by kernel_rfl) ?_
    intro K hK
    simp only [↓AXq_nil, ↓AXq_cons, pval, List.contains_cons, List.contains_nil, Nat.reduceBEq, Bool.or_false, Bool.or_true, Bool.or_self, Bool.false_eq_true, Bool.false_or, ↓DN, UP, implies_true, forall_eq', ne_eq, if_true, if_false, aval, abin, aint, ashift, abool, astr, anil, aun, aconv, aindexAddr, aindex, optInt, aslice, abuiltin, asrc, afill, placeOf, asetAll, undef, aload, apart, AV.cells, AV.one, aeval, updO, upd, initE, gdst, thenQ, blockQ, srcOk, Array.isEmpty, List.isEmpty, bytesV, reduceCtorEq, ↓reduceIte, Nat.reduceLT, Nat.reduceLeDiff, Nat.reduceEqDiff, Nat.reduceAdd, Nat.reduceMul, Nat.reducePow, Nat.reduceSub, Int.reduceLT, Int.reduceLE, Int.reduceToNat, RSha124, Tryd.ntmps4, h0i, h0k, hik', hin', hkn', Int.le_refl, rep4, List.replicate_one, Nat.lt_irrefl]
    have hc := sum_calls (Γ := Γ) hG0 hG [b.take i, (b.take k).drop i, [], b.drop k] .new (by simp) (by rw [parts_flat b i k hik]; omega) s3
    rw [parts_flat b i k hik] at hc
    refine acallk (ACalls.weaks (AVs.weak.cons (AV.weak_slc (AVs.weak.cons ?_ (AVs.weak.cons ?_ (AVs.weak.cons AV.weak_nil (AVs.weak.cons ?_ AVs.weak.nil))))) AVs.weak.nil) hc) ?_
    · simp only [bytesV]; rw [ List.length_take, Nat.min_eq_left (by omega), Nat.sub_zero]; exact AV.weak.refl _
    · simp only [bytesV]; rw [ List.length_drop, List.length_take, Nat.min_eq_left (by omega)]; exact AV.weak.refl _
    · simp only [bytesV]; rw [ List.length_drop, List.take_length]; exact AV.weak.refl _
    intro r s4 hout
    obtain ⟨t, e, rfl⟩ := outS_own hout (by rw [← List.length_pos_iff, Sha.sum_length]; decide)
    simp only [↓AXq_nil, ↓AXq_cons, pval, List.contains_cons, List.contains_nil, Nat.reduceBEq, Bool.or_false, Bool.or_true, Bool.or_self, Bool.false_eq_true, Bool.false_or, ↓DN, UP, implies_true, forall_eq', ne_eq, if_true, if_false, aval, abin, aint, ashift, abool, astr, anil, aun, aconv, aindexAddr, aindex, optInt, aslice, abuiltin, asrc, afill, placeOf, asetAll, undef, aload, apart, AV.cells, AV.one, aeval, updO, upd, initE, gdst, thenQ, blockQ, srcOk, Array.isEmpty, List.isEmpty, bytesV, reduceCtorEq, ↓reduceIte, Nat.reduceLT, Nat.reduceLeDiff, Nat.reduceEqDiff, Nat.reduceAdd, Nat.reduceMul, Nat.reducePow, Nat.reduceSub, Int.reduceLT, Int.reduceLE, Int.reduceToNat, RSha124, Tryd.ntmps4, List.replicate_one, Nat.lt_irrefl]
    refine acallk (sum_calls hG0 hG [b] .new (by simp) (by simp; omega) _) ?_
    intro r s5 hout2
    rw [show ([b] : List (List UInt8)).flatten = b from by simp] at hout2
    obtain ⟨t2, e2, rfl⟩ := outS_own hout2 (by rw [← List.length_pos_iff, Sha.sum_length]; decide)
    simp only [↓AXq_nil, ↓AXq_cons, pval, List.contains_cons, List.contains_nil, Nat.reduceBEq, Bool.or_false, Bool.or_true, Bool.or_self, Bool.false_eq_true, Bool.false_or, ↓DN, UP, implies_true, forall_eq', ne_eq, if_true, if_false, aval, abin, aint, ashift, abool, astr, anil, aun, aconv, aindexAddr, aindex, optInt, aslice, abuiltin, asrc, afill, placeOf, asetAll, undef, aload, apart, AV.cells, AV.one, aeval, updO, upd, initE, gdst, thenQ, blockQ, srcOk, Array.isEmpty, List.isEmpty, bytesV, reduceCtorEq, ↓reduceIte, Nat.reduceLT, Nat.reduceLeDiff, Nat.reduceEqDiff, Nat.reduceAdd, Nat.reduceMul, Nat.reducePow, Nat.reduceSub, Int.reduceLT, Int.reduceLE, Int.reduceToNat, RSha124, Tryd.ntmps4]
    refine hK _ _ ?_
    clear hK K
    refine awp_ret ?_
    simp only [retQ, AEnds, aresL, ares, List.toList_toArray, ↓upd_same]; try simp only [↓DN, UP, implies_true, forall_eq', ne_eq, if_true, if_false, aval, abin, aint, ashift, abool, astr, anil, aun, aconv, aindexAddr, aindex, optInt, aslice, abuiltin, asrc, afill, placeOf, asetAll, undef, aload, apart, AV.cells, AV.one, aeval, updO, upd, initE, gdst, thenQ, blockQ, srcOk, Array.isEmpty, List.isEmpty, bytesV, reduceCtorEq, ↓reduceIte, Nat.reduceLT, Nat.reduceLeDiff, Nat.reduceEqDiff, Nat.reduceAdd, Nat.reduceMul, Nat.reducePow, Nat.reduceSub, Int.reduceLT, Int.reduceLE, Int.reduceToNat, RSha124, Tryd.ntmps4, atuple_nil, atuple_one, atuple_two, atuple_three, atuple_four, atuple_five]
    exact ⟨_, _, AV.weak.refl _, AS.le.refl _, rfl⟩

end Go.Proofs.YtpakgjmcaefnmaaDoor

