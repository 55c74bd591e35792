/- Contracts of the program's functions, each walked once; the conditions stand in each theorem. -/
import Derived.Test.YtpakgjmcaefnmaaDoorMac4
import Derived.Test.YtpakgjmcaefnmaaDoorPlKdf
set_option linter.unusedSimpArgs false
set_option linter.unusedVariables false
set_option autoImplicit false
namespace Go.Proofs.YtpakgjmcaefnmaaDoor
open Go Go.AM Go.Proofs

theorem RKdf132 : type_of% (And.intro (And.intro (And.intro (And.intro @Tryd.underlying5 T.c5) (And.intro T.g5 T.b5)) (And.intro (And.intro T.z5 @Tryd.underlying22) (And.intro T.c22 (And.intro T.g22 T.b22)))) (And.intro (And.intro (And.intro T.z22 T.s22) (And.intro @Tryd.underlying98 T.c98)) (And.intro (And.intro T.g98 T.b98) (And.intro T.z98 (And.intro T.s98 T.k27))))) :=
  (And.intro (And.intro (And.intro (And.intro @Tryd.underlying5 T.c5) (And.intro T.g5 T.b5)) (And.intro (And.intro T.z5 @Tryd.underlying22) (And.intro T.c22 (And.intro T.g22 T.b22)))) (And.intro (And.intro (And.intro T.z22 T.s22) (And.intro @Tryd.underlying98 T.c98)) (And.intro (And.intro T.g98 T.b98) (And.intro T.z98 (And.intro T.s98 T.k27)))))
theorem RKdf131 : type_of% (And.intro (And.intro (And.intro (And.intro @Tryd.underlying3 T.c3) (And.intro T.g3 (And.intro T.b3 T.z3))) (And.intro (And.intro @Tryd.underlying5 (And.intro T.c5 T.g5)) (And.intro T.b5 (And.intro T.z5 @Tryd.underlying22)))) (And.intro (And.intro (And.intro T.c22 (And.intro T.g22 T.b22)) (And.intro T.z22 (And.intro T.s22 @Tryd.underlying98))) (And.intro (And.intro T.c98 (And.intro T.g98 T.b98)) (And.intro T.z98 (And.intro T.s98 T.k27))))) :=
  (And.intro (And.intro (And.intro (And.intro @Tryd.underlying3 T.c3) (And.intro T.g3 (And.intro T.b3 T.z3))) (And.intro (And.intro @Tryd.underlying5 (And.intro T.c5 T.g5)) (And.intro T.b5 (And.intro T.z5 @Tryd.underlying22)))) (And.intro (And.intro (And.intro T.c22 (And.intro T.g22 T.b22)) (And.intro T.z22 (And.intro T.s22 @Tryd.underlying98))) (And.intro (And.intro T.c98 (And.intro T.g98 T.b98)) (And.intro T.z98 (And.intro T.s98 T.k27)))))

variable {Γ : Nat → List AV}

theorem extract_calls (hG0 : Γ 0 = stC Sha.H0) (hG : Γ 1 = Sha.K.map wV) (salt l : List UInt8) (hk : salt.length ≤ 2 ^ 38) (hl : l.length ≤ 2 ^ 38) (s : AS) :
    ACalls Tryd.prog Γ 32 [bytesV salt .any, bytesV l .any] s (fun r s' => OutS s (Mac.tag salt l) r s') := by
  refine acalls_body Tryd.func32 rfl Tryd.ntmps32 Tryd.results32 (by simp) ?_
  refine awp_reg_seq ?_
  intro K hK
  simp only [↓DN, UP, implies_true, forall_eq', ne_eq, if_true, if_false, aval, abin, aint, ashift, abool, astr, anil, aun, aconv, aindexAddr, aindex, optInt, aslice, abuiltin, asrc, afill, placeOf, asetAll, undef, aload, apart, AV.cells, AV.one, aeval, updO, upd, initE, gdst, thenQ, blockQ, srcOk, Array.isEmpty, List.isEmpty, bytesV, reduceCtorEq, ↓reduceIte, Nat.reduceLT, Nat.reduceLeDiff, Nat.reduceEqDiff, Nat.reduceAdd, Nat.reduceMul, Nat.reducePow, Nat.reduceSub, Int.reduceLT, Int.reduceLE, Int.reduceToNat, RKdf132, Tryd.ntmps32]
  refine hK _ _ ?_
  clear hK K
  refine awp_reg_seq ?_
  intro K hK
  simp only [↓DN, UP, implies_true, forall_eq', ne_eq, if_true, if_false, aval, abin, aint, ashift, abool, astr, anil, aun, aconv, aindexAddr, aindex, optInt, aslice, abuiltin, asrc, afill, placeOf, asetAll, undef, aload, apart, AV.cells, AV.one, aeval, updO, upd, initE, gdst, thenQ, blockQ, srcOk, Array.isEmpty, List.isEmpty, bytesV, reduceCtorEq, ↓reduceIte, Nat.reduceLT, Nat.reduceLeDiff, Nat.reduceEqDiff, Nat.reduceAdd, Nat.reduceMul, Nat.reducePow, Nat.reduceSub, Int.reduceLT, Int.reduceLE, Int.reduceToNat, RKdf132, Tryd.ntmps32, List.replicate_one]
  have hm := macTag_calls (Γ := Γ) hG0 hG salt [l] .new hk (by simp) (by simpa using hl) s
  rw [show [l].flatten = l from by simp] at hm
  refine acallk hm ?_
  intro r s1 hout
  simp only [↓AXq_nil, ↓AXq_cons, pval, List.contains_cons, List.contains_nil, Nat.reduceBEq, Bool.or_false, Bool.or_true, Bool.or_self, Bool.false_eq_true, Bool.false_or, ↓DN, UP, implies_true, forall_eq', ne_eq, if_true, if_false, aval, abin, aint, ashift, abool, astr, anil, aun, aconv, aindexAddr, aindex, optInt, aslice, abuiltin, asrc, afill, placeOf, asetAll, undef, aload, apart, AV.cells, AV.one, aeval, updO, upd, initE, gdst, thenQ, blockQ, srcOk, Array.isEmpty, List.isEmpty, bytesV, reduceCtorEq, ↓reduceIte, Nat.reduceLT, Nat.reduceLeDiff, Nat.reduceEqDiff, Nat.reduceAdd, Nat.reduceMul, Nat.reducePow, Nat.reduceSub, Int.reduceLT, Int.reduceLE, Int.reduceToNat, RKdf132, Tryd.ntmps32]
  refine hK _ _ ?_
  clear hK K
  refine awp_ret ?_
  simp only [retQ, AEnds, aresL, ares, List.toList_toArray, ↓upd_same]; try simp only [↓DN, UP, implies_true, forall_eq', ne_eq, if_true, if_false, aval, abin, aint, ashift, abool, astr, anil, aun, aconv, aindexAddr, aindex, optInt, aslice, abuiltin, asrc, afill, placeOf, asetAll, undef, aload, apart, AV.cells, AV.one, aeval, updO, upd, initE, gdst, thenQ, blockQ, srcOk, Array.isEmpty, List.isEmpty, bytesV, reduceCtorEq, ↓reduceIte, Nat.reduceLT, Nat.reduceLeDiff, Nat.reduceEqDiff, Nat.reduceAdd, Nat.reduceMul, Nat.reducePow, Nat.reduceSub, Int.reduceLT, Int.reduceLE, Int.reduceToNat, RKdf132, Tryd.ntmps32, atuple_nil, atuple_one, atuple_two, atuple_three, atuple_four, atuple_five]
  exact ⟨_, _, AV.weak.refl _, AS.le.refl _, hout⟩

theorem _root_.Go.AM.OutS.later {s s1 s2 : AS} {l : List UInt8} {r : AV} (h : OutS s l r s1) (hle : s1.le s2) : OutS s l r s2 := by
  refine ⟨AS.le.trans h.1 hle, ?_⟩
  rcases h.2 with h | ⟨t, e, h1, h2, h3⟩
  · exact .inl h
  · exact .inr ⟨t, e, h1, hle.own t e h2, h3⟩

/-- The last block: none, or a slice of one's own. -/
def LastS (l : List UInt8) (r : AV) : Prop := (l = [] ∧ r = .v (.slice none 0 0)) ∨ ∃ t e, r = .sl 1 l.length (l.map byteV) (.own t e)
theorem LastS.weak {l : List UInt8} {r : AV} (h : LastS l r) : r.weak (bytesV l .any) := by
  rcases h with ⟨rfl, rfl⟩ | ⟨t, e, rfl⟩
  · exact AV.weak_nil
  · exact AV.weak_any
theorem LastS.of {s s' : AS} {l : List UInt8} {r : AV} (h : OutS s l r s') : LastS l r := by
  rcases h.2 with ⟨h1, h2⟩ | ⟨t, e, _, _, h3⟩
  · exact .inl ⟨h1, h2⟩
  · exact .inr ⟨t, e, h3⟩
theorem LastS.cells {l : List UInt8} {r : AV} (h : LastS l r) : r.cells = [r] := by
  rcases h with ⟨_, rfl⟩ | ⟨t, e, rfl⟩ <;> rfl

theorem u8_succ (c : UInt8) : iadd .u8 (c.toNat : Int) 1 = (((c + 1).toNat : Nat) : Int) := by
  rw [show (1 : Int) = ((1 : Nat) : Int) from rfl, iadd_u (k := .u8) rfl]
  simp [IntKind.bits, UInt8.toNat_add]

set_option maxHeartbeats 2000000 in
set_option maxRecDepth 100000 in
theorem expand_calls (hG0 : Γ 0 = stC Sha.H0) (hG : Γ 1 = Sha.K.map wV) (secret info : List UInt8) (hk : secret.length ≤ 2 ^ 37) (hi : info.length ≤ 2 ^ 37) (n : Int) (s : AS) :
    ACalls Tryd.prog Γ 31 [bytesV secret .any, bytesV info .any, .v (.int .i64 n)] s (fun r s' => r = .tup [bytesV (Kdf.get secret info n) .any, .v (.bool (Kdf.ok n))] ∧ s' = s) := by
  refine acalls_body Tryd.func31 rfl Tryd.ntmps31 Tryd.results31 (by simp) ?_
  refine awp_reg_seq ?_
  intro K hK
  simp only [↓DN, UP, implies_true, forall_eq', ne_eq, if_true, if_false, aval, abin, aint, ashift, abool, astr, anil, aun, aconv, aindexAddr, aindex, optInt, aslice, abuiltin, asrc, afill, placeOf, asetAll, undef, aload, apart, AV.cells, AV.one, aeval, updO, upd, initE, gdst, thenQ, blockQ, srcOk, Array.isEmpty, List.isEmpty, bytesV, reduceCtorEq, ↓reduceIte, Nat.reduceLT, Nat.reduceLeDiff, Nat.reduceEqDiff, Nat.reduceAdd, Nat.reduceMul, Nat.reducePow, Nat.reduceSub, Int.reduceLT, Int.reduceLE, Int.reduceToNat, RKdf131, Tryd.ntmps31]
  refine hK _ _ ?_
  clear hK K
  refine awp_seq_k ?_
  intro K hK
  by_cases h0 : n < 0
  · have hok : Kdf.ok n = false := by simp [Kdf.ok]; omega
    refine awp_reg_seq ?_
    intro K hK
    simp only [↓DN, UP, implies_true, forall_eq', ne_eq, if_true, if_false, aval, abin, aint, ashift, abool, astr, anil, aun, aconv, aindexAddr, aindex, optInt, aslice, abuiltin, asrc, afill, placeOf, asetAll, undef, aload, apart, AV.cells, AV.one, aeval, updO, upd, initE, gdst, thenQ, blockQ, srcOk, Array.isEmpty, List.isEmpty, bytesV, reduceCtorEq, ↓reduceIte, Nat.reduceLT, Nat.reduceLeDiff, Nat.reduceEqDiff, Nat.reduceAdd, Nat.reduceMul, Nat.reducePow, Nat.reduceSub, Int.reduceLT, Int.reduceLE, Int.reduceToNat, RKdf131, Tryd.ntmps31, decide_eq_true h0]
    refine hK _ _ ?_
    clear hK K
    refine awp_cond_k ?_
    intro X Y hX hY
    simp only [↓DN, UP, implies_true, forall_eq', ne_eq, if_true, if_false, aval, abin, aint, ashift, abool, astr, anil, aun, aconv, aindexAddr, aindex, optInt, aslice, abuiltin, asrc, afill, placeOf, asetAll, undef, aload, apart, AV.cells, AV.one, aeval, updO, upd, initE, gdst, thenQ, blockQ, srcOk, Array.isEmpty, List.isEmpty, bytesV, reduceCtorEq, ↓reduceIte, Nat.reduceLT, Nat.reduceLeDiff, Nat.reduceEqDiff, Nat.reduceAdd, Nat.reduceMul, Nat.reducePow, Nat.reduceSub, Int.reduceLT, Int.reduceLE, Int.reduceToNat, RKdf131, Tryd.ntmps31, Bool.not_true, Bool.not_false, Bool.false_eq_true, Bool.true_eq_false, false_imp_iff, true_imp_iff, decide_eq_true_eq, decide_eq_false_iff_not]
    refine hX ?_
    clear hX hY X Y
    refine awp_reg_seq ?_
    intro K hK
    simp only [↓DN, UP, implies_true, forall_eq', ne_eq, if_true, if_false, aval, abin, aint, ashift, abool, astr, anil, aun, aconv, aindexAddr, aindex, optInt, aslice, abuiltin, asrc, afill, placeOf, asetAll, undef, aload, apart, AV.cells, AV.one, aeval, updO, upd, initE, gdst, thenQ, blockQ, srcOk, Array.isEmpty, List.isEmpty, bytesV, reduceCtorEq, ↓reduceIte, Nat.reduceLT, Nat.reduceLeDiff, Nat.reduceEqDiff, Nat.reduceAdd, Nat.reduceMul, Nat.reducePow, Nat.reduceSub, Int.reduceLT, Int.reduceLE, Int.reduceToNat, RKdf131, Tryd.ntmps31]
    refine hK _ _ ?_
    clear hK K
    refine awp_ret ?_
    simp only [retQ, AEnds, aresL, ares, List.toList_toArray, ↓upd_same]; try simp only [↓DN, UP, implies_true, forall_eq', ne_eq, if_true, if_false, aval, abin, aint, ashift, abool, astr, anil, aun, aconv, aindexAddr, aindex, optInt, aslice, abuiltin, asrc, afill, placeOf, asetAll, undef, aload, apart, AV.cells, AV.one, aeval, updO, upd, initE, gdst, thenQ, blockQ, srcOk, Array.isEmpty, List.isEmpty, bytesV, reduceCtorEq, ↓reduceIte, Nat.reduceLT, Nat.reduceLeDiff, Nat.reduceEqDiff, Nat.reduceAdd, Nat.reduceMul, Nat.reducePow, Nat.reduceSub, Int.reduceLT, Int.reduceLE, Int.reduceToNat, RKdf131, Tryd.ntmps31, atuple_nil, atuple_one, atuple_two, atuple_three, atuple_four, atuple_five]
    exact ⟨_, _, AV.weak_tup2 AV.weak_nil (AV.weak.refl _), AS.le.refl _, by rw [Kdf.get, hok]; rfl, rfl⟩
  by_cases h1 : 8160 < n
  · have hok : Kdf.ok n = false := by simp [Kdf.ok]; omega
    refine awp_reg_seq ?_
    intro K hK
    simp only [↓DN, UP, implies_true, forall_eq', ne_eq, if_true, if_false, aval, abin, aint, ashift, abool, astr, anil, aun, aconv, aindexAddr, aindex, optInt, aslice, abuiltin, asrc, afill, placeOf, asetAll, undef, aload, apart, AV.cells, AV.one, aeval, updO, upd, initE, gdst, thenQ, blockQ, srcOk, Array.isEmpty, List.isEmpty, bytesV, reduceCtorEq, ↓reduceIte, Nat.reduceLT, Nat.reduceLeDiff, Nat.reduceEqDiff, Nat.reduceAdd, Nat.reduceMul, Nat.reducePow, Nat.reduceSub, Int.reduceLT, Int.reduceLE, Int.reduceToNat, RKdf131, Tryd.ntmps31, decide_eq_false h0, decide_eq_true h1]
    refine hK _ _ ?_
    clear hK K
    refine awp_cond_k ?_
    intro X Y hX hY
    simp only [↓DN, UP, implies_true, forall_eq', ne_eq, if_true, if_false, aval, abin, aint, ashift, abool, astr, anil, aun, aconv, aindexAddr, aindex, optInt, aslice, abuiltin, asrc, afill, placeOf, asetAll, undef, aload, apart, AV.cells, AV.one, aeval, updO, upd, initE, gdst, thenQ, blockQ, srcOk, Array.isEmpty, List.isEmpty, bytesV, reduceCtorEq, ↓reduceIte, Nat.reduceLT, Nat.reduceLeDiff, Nat.reduceEqDiff, Nat.reduceAdd, Nat.reduceMul, Nat.reducePow, Nat.reduceSub, Int.reduceLT, Int.reduceLE, Int.reduceToNat, RKdf131, Tryd.ntmps31, Bool.not_true, Bool.not_false, Bool.false_eq_true, Bool.true_eq_false, false_imp_iff, true_imp_iff, decide_eq_true_eq, decide_eq_false_iff_not]
    refine hX ?_
    clear hX hY X Y
    refine awp_reg_seq ?_
    intro K hK
    simp only [↓DN, UP, implies_true, forall_eq', ne_eq, if_true, if_false, aval, abin, aint, ashift, abool, astr, anil, aun, aconv, aindexAddr, aindex, optInt, aslice, abuiltin, asrc, afill, placeOf, asetAll, undef, aload, apart, AV.cells, AV.one, aeval, updO, upd, initE, gdst, thenQ, blockQ, srcOk, Array.isEmpty, List.isEmpty, bytesV, reduceCtorEq, ↓reduceIte, Nat.reduceLT, Nat.reduceLeDiff, Nat.reduceEqDiff, Nat.reduceAdd, Nat.reduceMul, Nat.reducePow, Nat.reduceSub, Int.reduceLT, Int.reduceLE, Int.reduceToNat, RKdf131, Tryd.ntmps31]
    refine hK _ _ ?_
    clear hK K
    refine awp_ret ?_
    simp only [retQ, AEnds, aresL, ares, List.toList_toArray, ↓upd_same]; try simp only [↓DN, UP, implies_true, forall_eq', ne_eq, if_true, if_false, aval, abin, aint, ashift, abool, astr, anil, aun, aconv, aindexAddr, aindex, optInt, aslice, abuiltin, asrc, afill, placeOf, asetAll, undef, aload, apart, AV.cells, AV.one, aeval, updO, upd, initE, gdst, thenQ, blockQ, srcOk, Array.isEmpty, List.isEmpty, bytesV, reduceCtorEq, ↓reduceIte, Nat.reduceLT, Nat.reduceLeDiff, Nat.reduceEqDiff, Nat.reduceAdd, Nat.reduceMul, Nat.reducePow, Nat.reduceSub, Int.reduceLT, Int.reduceLE, Int.reduceToNat, RKdf131, Tryd.ntmps31, atuple_nil, atuple_one, atuple_two, atuple_three, atuple_four, atuple_five]
    exact ⟨_, _, AV.weak_tup2 AV.weak_nil (AV.weak.refl _), AS.le.refl _, by rw [Kdf.get, hok]; rfl, rfl⟩
  · have hok : Kdf.ok n = true := by simp [Kdf.ok]; omega
    obtain ⟨m, rfl⟩ : ∃ m : Nat, n = (m : Int) := ⟨n.toNat, by omega⟩
    have hm : m ≤ 8160 := by omega
    have hget : Kdf.get secret info (m : Int) = Kdf.expand secret info m := by rw [Kdf.get, hok]; rfl
    rw [hok, hget]
    refine awp_reg_seq ?_
    intro K hK
    simp only [↓DN, UP, implies_true, forall_eq', ne_eq, if_true, if_false, aval, abin, aint, ashift, abool, astr, anil, aun, aconv, aindexAddr, aindex, optInt, aslice, abuiltin, asrc, afill, placeOf, asetAll, undef, aload, apart, AV.cells, AV.one, aeval, updO, upd, initE, gdst, thenQ, blockQ, srcOk, Array.isEmpty, List.isEmpty, bytesV, reduceCtorEq, ↓reduceIte, Nat.reduceLT, Nat.reduceLeDiff, Nat.reduceEqDiff, Nat.reduceAdd, Nat.reduceMul, Nat.reducePow, Nat.reduceSub, Int.reduceLT, Int.reduceLE, Int.reduceToNat, RKdf131, Tryd.ntmps31, decide_eq_false h0, decide_eq_false h1]
    refine hK _ _ ?_
    clear hK K
    refine awp_cond_k ?_
    intro X Y hX hY
    simp only [↓DN, UP, implies_true, forall_eq', ne_eq, if_true, if_false, aval, abin, aint, ashift, abool, astr, anil, aun, aconv, aindexAddr, aindex, optInt, aslice, abuiltin, asrc, afill, placeOf, asetAll, undef, aload, apart, AV.cells, AV.one, aeval, updO, upd, initE, gdst, thenQ, blockQ, srcOk, Array.isEmpty, List.isEmpty, bytesV, reduceCtorEq, ↓reduceIte, Nat.reduceLT, Nat.reduceLeDiff, Nat.reduceEqDiff, Nat.reduceAdd, Nat.reduceMul, Nat.reducePow, Nat.reduceSub, Int.reduceLT, Int.reduceLE, Int.reduceToNat, RKdf131, Tryd.ntmps31, Bool.not_true, Bool.not_false, Bool.false_eq_true, Bool.true_eq_false, false_imp_iff, true_imp_iff, decide_eq_true_eq, decide_eq_false_iff_not]
    refine hY ?_
    clear hX hY X Y
    refine awp_skip ?_
    refine hK _ _ ?_
    clear hK K
    refine awp_reg_seq ?_
    intro K hK
    simp only [↓DN, UP, implies_true, forall_eq', ne_eq, if_true, if_false, aval, abin, aint, ashift, abool, astr, anil, aun, aconv, aindexAddr, aindex, optInt, aslice, abuiltin, asrc, afill, placeOf, asetAll, undef, aload, apart, AV.cells, AV.one, aeval, updO, upd, initE, gdst, thenQ, blockQ, srcOk, Array.isEmpty, List.isEmpty, bytesV, reduceCtorEq, ↓reduceIte, Nat.reduceLT, Nat.reduceLeDiff, Nat.reduceEqDiff, Nat.reduceAdd, Nat.reduceMul, Nat.reducePow, Nat.reduceSub, Int.reduceLT, Int.reduceLE, Int.reduceToNat, RKdf131, Tryd.ntmps31]
    refine hK _ _ ?_
    clear hK K
    refine awp_seq_k ?_
    intro K hK
    refine awp_reg_seq ?_
    intro K hK
    simp only [↓DN, UP, implies_true, forall_eq', ne_eq, if_true, if_false, aval, abin, aint, ashift, abool, astr, anil, aun, aconv, aindexAddr, aindex, optInt, aslice, abuiltin, asrc, afill, placeOf, asetAll, undef, aload, apart, AV.cells, AV.one, aeval, updO, upd, initE, gdst, thenQ, blockQ, srcOk, Array.isEmpty, List.isEmpty, bytesV, reduceCtorEq, ↓reduceIte, Nat.reduceLT, Nat.reduceLeDiff, Nat.reduceEqDiff, Nat.reduceAdd, Nat.reduceMul, Nat.reducePow, Nat.reduceSub, Int.reduceLT, Int.reduceLE, Int.reduceToNat, RKdf131, Tryd.ntmps31]
    refine hK _ _ ?_
    clear hK K
    refine awp_block ?_
    have hmr : 32 * Kdf.rounds m ≤ 8191 := by unfold Kdf.rounds; omega
    refine awp_loop (fun E s1 => ∃ i : Nat, i ≤ Kdf.rounds m ∧ E 0 = .sl 1 secret.length (secret.map byteV) .any ∧ E 1 = .sl 1 info.length (info.map byteV) .any ∧ E 2 = .v (.int .i64 m) ∧ E 10 = .v (.int .u8 ((UInt8.ofNat (i + 1)).toNat : Int)) ∧ LastS (Kdf.blk secret info i) (E 9) ∧ OutS s (Kdf.row secret info i) (E 8) s1)
      (fun E _ => match E 8 with | .sl _ n _ _ => m - n | _ => m + 1) ?_ ?_
    · refine ⟨0, Nat.zero_le _, by simp only [upd, initE, Nat.reduceEqDiff, ↓reduceIte, List.getD_cons_succ, List.getD_cons_zero, bytesV], by simp only [upd, initE, Nat.reduceEqDiff, ↓reduceIte, List.getD_cons_succ, List.getD_cons_zero, bytesV], by simp only [upd, initE, Nat.reduceEqDiff, ↓reduceIte, List.getD_cons_succ, List.getD_cons_zero], by simp only [upd, ↓reduceIte]; rfl, ?_, ?_⟩
      · simp only [upd, Nat.reduceEqDiff, ↓reduceIte]; exact .inl ⟨rfl, rfl⟩
      · simp only [upd, Nat.reduceEqDiff, ↓reduceIte]; exact OutS.nil s
    · rintro E2 s2 ⟨i, hir, g0, g1, g2, g10, hlast, hout⟩ -
      refine awp_seq_k ?_
      intro K2 hK2
      have hrl := Kdf.row_len secret info i
      have hdue := Kdf.due m i
      have hmu : m - 32 * i ≤ (match E2 8 with | .sl _ n _ _ => m - n | _ => m + 1) := by
        rcases hout.2 with ⟨hr0, e8⟩ | ⟨t, e, _, _, e8⟩
        · rw [e8]
          simp only
          omega
        · rw [e8]
          simp only [hrl]
          exact Nat.le_refl _
      generalize hr8 : E2 8 = r8 at hout
      generalize hr9 : E2 9 = r9 at hlast
      by_cases hi' : i < Kdf.rounds m
      · have hlt : 32 * i < m := hdue.2 hi'
        have hgo : ∀ E3 : Env, E3 0 = .sl 1 secret.length (secret.map byteV) .any → E3 1 = .sl 1 info.length (info.map byteV) .any → E3 2 = .v (.int .i64 m) → E3 10 = .v (.int .u8 ((UInt8.ofNat (i + 1)).toNat : Int)) → E3 8 = r8 → E3 9 = r9 → K2 E3 s2 := by
          intro E3 f0 f1 f2 f10 f8 f9
          refine hK2 _ _ ?_
          clear hK2 K2
          refine awp_seq_k ?_
          intro K3 hK3
          refine awp_block ?_
          have hbl := Kdf.blk_len secret info i
          have hbk : Kdf.blk secret info (i + 1) = Mac.tag secret (Kdf.blk secret info i ++ info ++ [UInt8.ofNat (i + 1)]) := rfl
          have hrow : Kdf.row secret info (i + 1) = Kdf.row secret info i ++ Kdf.blk secret info (i + 1) := rfl
          have hbil : (Kdf.blk secret info i).length ≤ 32 := by
            cases i with
            | zero => simp [Kdf.blk]
            | succ j => rw [Kdf.blk_len]; exact Nat.le_refl _
          have rep3' : ∀ x : AV, List.replicate 3 x = [x, x, x] := fun _ => rfl
          have hw9 := hlast.weak
          have hcs := u8_succ (UInt8.ofNat (i + 1))
          have hc2 : UInt8.ofNat (i + 1) + 1 = UInt8.ofNat (i + 1 + 1) := by
            rw [← UInt8.toNat_inj, UInt8.toNat_add, UInt8.toNat_ofNat', UInt8.toNat_ofNat']
            simp
          rw [hc2] at hcs
          have hm0 := macTag_calls (Γ := Γ) hG0 hG secret [Kdf.blk secret info i, info, [UInt8.ofNat (i + 1)]] .new (by omega) (by simp) (by simp only [List.flatten_cons, List.flatten_nil, List.append_nil, List.length_append, List.length_cons, List.length_nil]; omega) s2
          rw [show [Kdf.blk secret info i, info, [UInt8.ofNat (i + 1)]].flatten = Kdf.blk secret info i ++ info ++ [UInt8.ofNat (i + 1)] from by simp, ← hbk] at hm0
          have hcall : ∀ r9' : AV, r9'.weak (bytesV (Kdf.blk secret info i) .any) → ACalls Tryd.prog Γ 27 [.sl 1 secret.length (secret.map byteV) .any, .sl 1 3 [r9', .sl 1 info.length (info.map byteV) .any, .sl 1 1 [.v (.int .u8 ((UInt8.ofNat (i + 1)).toNat : Int))] .new] .new] s2 (fun r s' => OutS s2 (Kdf.blk secret info (i + 1)) r s') := fun r9' hw =>
            ACalls.weaks (AVs.weak.cons (AV.weak.refl _) (AVs.weak.cons (AV.weak_slc (AVs.weak.cons hw (AVs.weak.cons (AV.weak.refl _) (AVs.weak.cons (AV.weak_any (sp := .new)) AVs.weak.nil)))) AVs.weak.nil)) hm0
          have hcall := hcall r9 hw9
          rcases hlast with ⟨_, rfl⟩ | ⟨t9, e9, rfl⟩
          all_goals
            refine awp_reg_seq ?_
            intro K hK
            simp only [↓DN, UP, implies_true, forall_eq', ne_eq, if_true, if_false, aval, abin, aint, ashift, abool, astr, anil, aun, aconv, aindexAddr, aindex, optInt, aslice, abuiltin, asrc, afill, placeOf, asetAll, undef, aload, apart, AV.cells, AV.one, aeval, updO, upd, initE, gdst, thenQ, blockQ, srcOk, Array.isEmpty, List.isEmpty, bytesV, reduceCtorEq, ↓reduceIte, Nat.reduceLT, Nat.reduceLeDiff, Nat.reduceEqDiff, Nat.reduceAdd, Nat.reduceMul, Nat.reducePow, Nat.reduceSub, Int.reduceLT, Int.reduceLE, Int.reduceToNat, RKdf131, Tryd.ntmps31, f0, f1, f10, f9, List.replicate_one, rep3']
            refine acallk hcall ?_
            intro r s3 hr
            obtain ⟨t3, e3, rfl⟩ := outS_own hr (by rw [← List.length_pos_iff, hbl]; decide)
            have hout3 := hout.later hr.1
            have hl3 := LastS.of hr
            rw [hbl] at hl3
            simp only [↓AXq_nil, ↓AXq_cons, pval, List.contains_cons, List.contains_nil, Nat.reduceBEq, Bool.or_false, Bool.or_true, Bool.or_self, Bool.false_eq_true, Bool.false_or, ↓DN, UP, implies_true, forall_eq', ne_eq, if_true, if_false, aval, abin, aint, ashift, abool, astr, anil, aun, aconv, aindexAddr, aindex, optInt, aslice, abuiltin, asrc, afill, placeOf, asetAll, undef, aload, apart, AV.cells, AV.one, aeval, updO, upd, initE, gdst, thenQ, blockQ, srcOk, Array.isEmpty, List.isEmpty, bytesV, reduceCtorEq, ↓reduceIte, Nat.reduceLT, Nat.reduceLeDiff, Nat.reduceEqDiff, Nat.reduceAdd, Nat.reduceMul, Nat.reducePow, Nat.reduceSub, Int.reduceLT, Int.reduceLE, Int.reduceToNat, RKdf131, Tryd.ntmps31]
            refine hK _ _ ?_
            clear hK K
            refine awp_reg_end ?_
            intro K hK
            simp only [↓DN, UP, implies_true, forall_eq', ne_eq, if_true, if_false, aval, abin, aint, ashift, abool, astr, anil, aun, aconv, aindexAddr, aindex, optInt, aslice, abuiltin, asrc, afill, placeOf, asetAll, undef, aload, apart, AV.cells, AV.one, aeval, updO, upd, initE, gdst, thenQ, blockQ, srcOk, Array.isEmpty, List.isEmpty, bytesV, reduceCtorEq, ↓reduceIte, Nat.reduceLT, Nat.reduceLeDiff, Nat.reduceEqDiff, Nat.reduceAdd, Nat.reduceMul, Nat.reducePow, Nat.reduceSub, Int.reduceLT, Int.reduceLE, Int.reduceToNat, RKdf131, Tryd.ntmps31, f8, hbl]
            refine aappend_out (ds := Kdf.blk secret info (i + 1)) hout3 hbl.symm rfl T.c5 T.b5 (by rw [hrl, hbl]; omega) ?_
            intro r2 s4 h4
            rw [← hrow] at h4
            obtain ⟨t4, e4, rfl⟩ := outS_own h4 (by rw [← List.length_pos_iff, Kdf.row_len]; omega)
            refine hK _ _ ?_
            clear hK
            simp only [thenQ, blockQ, if_true, if_false]
            refine hK3 _ _ ?_
            clear hK3 K3
            refine awp_reg_end ?_
            intro K hK
            simp only [↓DN, UP, implies_true, forall_eq', ne_eq, if_true, if_false, aval, abin, aint, ashift, abool, astr, anil, aun, aconv, aindexAddr, aindex, optInt, aslice, abuiltin, asrc, afill, placeOf, asetAll, undef, aload, apart, AV.cells, AV.one, aeval, updO, upd, initE, gdst, thenQ, blockQ, srcOk, Array.isEmpty, List.isEmpty, bytesV, reduceCtorEq, ↓reduceIte, Nat.reduceLT, Nat.reduceLeDiff, Nat.reduceEqDiff, Nat.reduceAdd, Nat.reduceMul, Nat.reducePow, Nat.reduceSub, Int.reduceLT, Int.reduceLE, Int.reduceToNat, RKdf131, Tryd.ntmps31, f10, hcs]
            refine hK _ _ ?_
            clear hK K
            refine ⟨⟨i + 1, by omega, by simp only [upd, f0, Nat.reduceEqDiff, ↓reduceIte], by simp only [upd, f1, Nat.reduceEqDiff, ↓reduceIte], by simp only [upd, f2, Nat.reduceEqDiff, ↓reduceIte], by simp only [upd, ↓reduceIte], by simpa only [upd, Nat.reduceEqDiff, ↓reduceIte] using hl3, by simpa only [upd, Nat.reduceEqDiff, ↓reduceIte] using h4⟩, ?_⟩
            refine Nat.lt_of_lt_of_le ?_ hmu
            simp only [upd, Nat.reduceEqDiff, ↓reduceIte, Kdf.row_len]
            omega
        rcases hout.2 with ⟨hr0, rfl⟩ | ⟨t, e, _, _, rfl⟩
        · have hi0 : 32 * i = 0 := by rw [← hrl, hr0]; rfl
          refine awp_reg_seq ?_
          intro K hK
          simp only [↓DN, UP, implies_true, forall_eq', ne_eq, if_true, if_false, aval, abin, aint, ashift, abool, astr, anil, aun, aconv, aindexAddr, aindex, optInt, aslice, abuiltin, asrc, afill, placeOf, asetAll, undef, aload, apart, AV.cells, AV.one, aeval, updO, upd, initE, gdst, thenQ, blockQ, srcOk, Array.isEmpty, List.isEmpty, bytesV, reduceCtorEq, ↓reduceIte, Nat.reduceLT, Nat.reduceLeDiff, Nat.reduceEqDiff, Nat.reduceAdd, Nat.reduceMul, Nat.reducePow, Nat.reduceSub, Int.reduceLT, Int.reduceLE, Int.reduceToNat, RKdf131, Tryd.ntmps31, hr8, g2, decide_eq_true (show ((0 : Nat) : Int) < (m : Int) by omega)]
          refine hK _ _ ?_
          clear hK K
          refine awp_cond_k ?_
          intro X Y hX hY
          simp only [↓DN, UP, implies_true, forall_eq', ne_eq, if_true, if_false, aval, abin, aint, ashift, abool, astr, anil, aun, aconv, aindexAddr, aindex, optInt, aslice, abuiltin, asrc, afill, placeOf, asetAll, undef, aload, apart, AV.cells, AV.one, aeval, updO, upd, initE, gdst, thenQ, blockQ, srcOk, Array.isEmpty, List.isEmpty, bytesV, reduceCtorEq, ↓reduceIte, Nat.reduceLT, Nat.reduceLeDiff, Nat.reduceEqDiff, Nat.reduceAdd, Nat.reduceMul, Nat.reducePow, Nat.reduceSub, Int.reduceLT, Int.reduceLE, Int.reduceToNat, RKdf131, Tryd.ntmps31, Bool.not_true, Bool.not_false, Bool.false_eq_true, Bool.true_eq_false, false_imp_iff, true_imp_iff, decide_eq_true_eq, decide_eq_false_iff_not]
          refine hX ?_
          clear hX hY X Y
          refine awp_skip ?_
          simp only [thenQ]
          refine hgo _ ?_ ?_ ?_ ?_ ?_ ?_
          · simp only [upd, g0, Nat.reduceEqDiff, ↓reduceIte]
          · simp only [upd, g1, Nat.reduceEqDiff, ↓reduceIte]
          · simp only [upd, g2, Nat.reduceEqDiff, ↓reduceIte]
          · simp only [upd, g10, Nat.reduceEqDiff, ↓reduceIte]
          · simp only [upd, hr8, Nat.reduceEqDiff, ↓reduceIte]
          · simp only [upd, hr9, Nat.reduceEqDiff, ↓reduceIte]
        · refine awp_reg_seq ?_
          intro K hK
          simp only [↓DN, UP, implies_true, forall_eq', ne_eq, if_true, if_false, aval, abin, aint, ashift, abool, astr, anil, aun, aconv, aindexAddr, aindex, optInt, aslice, abuiltin, asrc, afill, placeOf, asetAll, undef, aload, apart, AV.cells, AV.one, aeval, updO, upd, initE, gdst, thenQ, blockQ, srcOk, Array.isEmpty, List.isEmpty, bytesV, reduceCtorEq, ↓reduceIte, Nat.reduceLT, Nat.reduceLeDiff, Nat.reduceEqDiff, Nat.reduceAdd, Nat.reduceMul, Nat.reducePow, Nat.reduceSub, Int.reduceLT, Int.reduceLE, Int.reduceToNat, RKdf131, Tryd.ntmps31, hr8, g2, hrl, decide_eq_true (show ((32 * i : Nat) : Int) < (m : Int) by omega)]
          refine hK _ _ ?_
          clear hK K
          refine awp_cond_k ?_
          intro X Y hX hY
          simp only [↓DN, UP, implies_true, forall_eq', ne_eq, if_true, if_false, aval, abin, aint, ashift, abool, astr, anil, aun, aconv, aindexAddr, aindex, optInt, aslice, abuiltin, asrc, afill, placeOf, asetAll, undef, aload, apart, AV.cells, AV.one, aeval, updO, upd, initE, gdst, thenQ, blockQ, srcOk, Array.isEmpty, List.isEmpty, bytesV, reduceCtorEq, ↓reduceIte, Nat.reduceLT, Nat.reduceLeDiff, Nat.reduceEqDiff, Nat.reduceAdd, Nat.reduceMul, Nat.reducePow, Nat.reduceSub, Int.reduceLT, Int.reduceLE, Int.reduceToNat, RKdf131, Tryd.ntmps31, Bool.not_true, Bool.not_false, Bool.false_eq_true, Bool.true_eq_false, false_imp_iff, true_imp_iff, decide_eq_true_eq, decide_eq_false_iff_not]
          refine hX ?_
          clear hX hY X Y
          refine awp_skip ?_
          simp only [thenQ]
          refine hgo _ ?_ ?_ ?_ ?_ ?_ ?_
          · simp only [upd, g0, Nat.reduceEqDiff, ↓reduceIte]
          · simp only [upd, g1, Nat.reduceEqDiff, ↓reduceIte]
          · simp only [upd, g2, Nat.reduceEqDiff, ↓reduceIte]
          · simp only [upd, g10, Nat.reduceEqDiff, ↓reduceIte]
          · simp only [upd, hr8, hrl, Nat.reduceEqDiff, ↓reduceIte]
          · simp only [upd, hr9, Nat.reduceEqDiff, ↓reduceIte]
      · obtain rfl : i = Kdf.rounds m := by omega
        have hle := Kdf.rounds_le m
        have hs := hout.1
        have hm0 : (0 : Int) ≤ (m : Int) := by omega
        rcases hout.2 with ⟨hr0, rfl⟩ | ⟨t, e, _, _, rfl⟩
        · have hi0 : 32 * Kdf.rounds m = 0 := by rw [← hrl, hr0]; rfl
          obtain rfl : m = 0 := by omega
          refine awp_reg_seq ?_
          intro K hK
          simp only [↓DN, UP, implies_true, forall_eq', ne_eq, if_true, if_false, aval, abin, aint, ashift, abool, astr, anil, aun, aconv, aindexAddr, aindex, optInt, aslice, abuiltin, asrc, afill, placeOf, asetAll, undef, aload, apart, AV.cells, AV.one, aeval, updO, upd, initE, gdst, thenQ, blockQ, srcOk, Array.isEmpty, List.isEmpty, bytesV, reduceCtorEq, ↓reduceIte, Nat.reduceLT, Nat.reduceLeDiff, Nat.reduceEqDiff, Nat.reduceAdd, Nat.reduceMul, Nat.reducePow, Nat.reduceSub, Int.reduceLT, Int.reduceLE, Int.reduceToNat, RKdf131, Tryd.ntmps31, hr8, g2, decide_eq_false (show ¬ ((0 : Nat) : Int) < ((0 : Nat) : Int) by decide)]
          refine hK _ _ ?_
          clear hK K
          refine awp_cond_k ?_
          intro X Y hX hY
          simp only [↓DN, UP, implies_true, forall_eq', ne_eq, if_true, if_false, aval, abin, aint, ashift, abool, astr, anil, aun, aconv, aindexAddr, aindex, optInt, aslice, abuiltin, asrc, afill, placeOf, asetAll, undef, aload, apart, AV.cells, AV.one, aeval, updO, upd, initE, gdst, thenQ, blockQ, srcOk, Array.isEmpty, List.isEmpty, bytesV, reduceCtorEq, ↓reduceIte, Nat.reduceLT, Nat.reduceLeDiff, Nat.reduceEqDiff, Nat.reduceAdd, Nat.reduceMul, Nat.reducePow, Nat.reduceSub, Int.reduceLT, Int.reduceLE, Int.reduceToNat, RKdf131, Tryd.ntmps31, Bool.not_true, Bool.not_false, Bool.false_eq_true, Bool.true_eq_false, false_imp_iff, true_imp_iff, decide_eq_true_eq, decide_eq_false_iff_not]
          refine hY ?_
          clear hX hY X Y
          refine awp_exit ?_
          simp only [thenQ, blockQ, if_true]
          clear hK2 K2
          refine hK _ _ ?_
          clear hK K
          refine awp_reg_seq ?_
          intro K hK
          simp only [↓DN, UP, implies_true, forall_eq', ne_eq, if_true, if_false, aval, abin, aint, ashift, abool, astr, anil, aun, aconv, aindexAddr, aindex, optInt, aslice, abuiltin, asrc, afill, placeOf, asetAll, undef, aload, apart, AV.cells, AV.one, aeval, updO, upd, initE, gdst, thenQ, blockQ, srcOk, Array.isEmpty, List.isEmpty, bytesV, reduceCtorEq, ↓reduceIte, Nat.reduceLT, Nat.reduceLeDiff, Nat.reduceEqDiff, Nat.reduceAdd, Nat.reduceMul, Nat.reducePow, Nat.reduceSub, Int.reduceLT, Int.reduceLE, Int.reduceToNat, RKdf131, Tryd.ntmps31, hr8, g2, show ((0 : Nat) : Int) = 0 from rfl]
          refine hK _ _ ?_
          clear hK K
          refine awp_ret ?_
          simp only [retQ, AEnds, aresL, ares, List.toList_toArray, ↓upd_same]; try simp only [↓DN, UP, implies_true, forall_eq', ne_eq, if_true, if_false, aval, abin, aint, ashift, abool, astr, anil, aun, aconv, aindexAddr, aindex, optInt, aslice, abuiltin, asrc, afill, placeOf, asetAll, undef, aload, apart, AV.cells, AV.one, aeval, updO, upd, initE, gdst, thenQ, blockQ, srcOk, Array.isEmpty, List.isEmpty, bytesV, reduceCtorEq, ↓reduceIte, Nat.reduceLT, Nat.reduceLeDiff, Nat.reduceEqDiff, Nat.reduceAdd, Nat.reduceMul, Nat.reducePow, Nat.reduceSub, Int.reduceLT, Int.reduceLE, Int.reduceToNat, RKdf131, Tryd.ntmps31, atuple_nil, atuple_one, atuple_two, atuple_three, atuple_four, atuple_five]
          refine ⟨_, s, AV.weak_tup2 (AV.weak_nil (sz := 1)) (AV.weak.refl _), hs, ?_, rfl⟩
          have he : Kdf.expand secret info 0 = [] := List.eq_nil_of_length_eq_zero (Kdf.expand_len secret info 0)
          rw [hok, hget, he]
          rfl
        · refine awp_reg_seq ?_
          intro K hK
          simp only [↓DN, UP, implies_true, forall_eq', ne_eq, if_true, if_false, aval, abin, aint, ashift, abool, astr, anil, aun, aconv, aindexAddr, aindex, optInt, aslice, abuiltin, asrc, afill, placeOf, asetAll, undef, aload, apart, AV.cells, AV.one, aeval, updO, upd, initE, gdst, thenQ, blockQ, srcOk, Array.isEmpty, List.isEmpty, bytesV, reduceCtorEq, ↓reduceIte, Nat.reduceLT, Nat.reduceLeDiff, Nat.reduceEqDiff, Nat.reduceAdd, Nat.reduceMul, Nat.reducePow, Nat.reduceSub, Int.reduceLT, Int.reduceLE, Int.reduceToNat, RKdf131, Tryd.ntmps31, hr8, g2, hrl, decide_eq_false (show ¬ ((32 * Kdf.rounds m : Nat) : Int) < (m : Int) by omega)]
          refine hK _ _ ?_
          clear hK K
          refine awp_cond_k ?_
          intro X Y hX hY
          simp only [↓DN, UP, implies_true, forall_eq', ne_eq, if_true, if_false, aval, abin, aint, ashift, abool, astr, anil, aun, aconv, aindexAddr, aindex, optInt, aslice, abuiltin, asrc, afill, placeOf, asetAll, undef, aload, apart, AV.cells, AV.one, aeval, updO, upd, initE, gdst, thenQ, blockQ, srcOk, Array.isEmpty, List.isEmpty, bytesV, reduceCtorEq, ↓reduceIte, Nat.reduceLT, Nat.reduceLeDiff, Nat.reduceEqDiff, Nat.reduceAdd, Nat.reduceMul, Nat.reducePow, Nat.reduceSub, Int.reduceLT, Int.reduceLE, Int.reduceToNat, RKdf131, Tryd.ntmps31, Bool.not_true, Bool.not_false, Bool.false_eq_true, Bool.true_eq_false, false_imp_iff, true_imp_iff, decide_eq_true_eq, decide_eq_false_iff_not]
          refine hY ?_
          clear hX hY X Y
          refine awp_exit ?_
          simp only [thenQ, blockQ, if_true]
          clear hK2 K2
          refine hK _ _ ?_
          clear hK K
          refine awp_reg_seq ?_
          intro K hK
          simp only [↓DN, UP, implies_true, forall_eq', ne_eq, if_true, if_false, aval, abin, aint, ashift, abool, astr, anil, aun, aconv, aindexAddr, aindex, optInt, aslice, abuiltin, asrc, afill, placeOf, asetAll, undef, aload, apart, AV.cells, AV.one, aeval, updO, upd, initE, gdst, thenQ, blockQ, srcOk, Array.isEmpty, List.isEmpty, bytesV, reduceCtorEq, ↓reduceIte, Nat.reduceLT, Nat.reduceLeDiff, Nat.reduceEqDiff, Nat.reduceAdd, Nat.reduceMul, Nat.reducePow, Nat.reduceSub, Int.reduceLT, Int.reduceLE, Int.reduceToNat, RKdf131, Tryd.ntmps31, hr8, g2, hrl, hm0, show (m : Int) ≤ ((32 * Kdf.rounds m : Nat) : Int) by omega]
          refine hK _ _ ?_
          clear hK K
          refine awp_ret ?_
          simp only [retQ, AEnds, aresL, ares, List.toList_toArray, ↓upd_same]; try simp only [↓DN, UP, implies_true, forall_eq', ne_eq, if_true, if_false, aval, abin, aint, ashift, abool, astr, anil, aun, aconv, aindexAddr, aindex, optInt, aslice, abuiltin, asrc, afill, placeOf, asetAll, undef, aload, apart, AV.cells, AV.one, aeval, updO, upd, initE, gdst, thenQ, blockQ, srcOk, Array.isEmpty, List.isEmpty, bytesV, reduceCtorEq, ↓reduceIte, Nat.reduceLT, Nat.reduceLeDiff, Nat.reduceEqDiff, Nat.reduceAdd, Nat.reduceMul, Nat.reducePow, Nat.reduceSub, Int.reduceLT, Int.reduceLE, Int.reduceToNat, RKdf131, Tryd.ntmps31, atuple_nil, atuple_one, atuple_two, atuple_three, atuple_four, atuple_five]
          refine ⟨_, s, AV.weak_tup2 AV.weak_any (AV.weak.refl _), hs, ?_, rfl⟩
          rw [hok, hget, Kdf.expand_len, Nat.sub_zero]
          rfl

end Go.Proofs.YtpakgjmcaefnmaaDoor


