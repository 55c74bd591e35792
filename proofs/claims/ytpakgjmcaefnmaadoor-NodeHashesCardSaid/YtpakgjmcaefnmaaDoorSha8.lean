/- Contracts of the program's functions, each walked once; the conditions stand in each theorem. -/
import Derived.Test.YtpakgjmcaefnmaaDoorSha7
import Derived.Test.YtpakgjmcaefnmaaDoorAMp6
set_option linter.unusedSimpArgs false
set_option linter.unusedVariables false
set_option autoImplicit false
namespace Go.Proofs.YtpakgjmcaefnmaaDoor
open Go Go.AM Go.Proofs

theorem RSha886 : type_of% (And.intro (And.intro (And.intro (And.intro @Tryd.underlying3 (And.intro T.c3 T.g3)) (And.intro T.b3 (And.intro T.z3 @Tryd.underlying5))) (And.intro (And.intro T.c5 (And.intro T.g5 T.b5)) (And.intro (And.intro T.z5 @Tryd.underlying9) (And.intro T.c9 T.g9)))) (And.intro (And.intro (And.intro T.b9 (And.intro T.z9 @Tryd.underlying22)) (And.intro T.c22 (And.intro T.g22 T.b22))) (And.intro (And.intro T.z22 (And.intro T.s22 @Tryd.underlying63)) (And.intro (And.intro T.c63 T.g63) (And.intro T.b63 T.z63))))) :=
  (And.intro (And.intro (And.intro (And.intro @Tryd.underlying3 (And.intro T.c3 T.g3)) (And.intro T.b3 (And.intro T.z3 @Tryd.underlying5))) (And.intro (And.intro T.c5 (And.intro T.g5 T.b5)) (And.intro (And.intro T.z5 @Tryd.underlying9) (And.intro T.c9 T.g9)))) (And.intro (And.intro (And.intro T.b9 (And.intro T.z9 @Tryd.underlying22)) (And.intro T.c22 (And.intro T.g22 T.b22))) (And.intro (And.intro T.z22 (And.intro T.s22 @Tryd.underlying63)) (And.intro (And.intro T.c63 T.g63) (And.intro T.b63 T.z63)))))

variable {Γ : Nat → List AV}

theorem oct_len (n : Nat) (h : n ≤ 2 ^ 45) : imul .u64 (iconv .u64 (n : Int)) 8 = ((8 * n * 2 ^ (8 * 0) % 18446744073709551616 : Nat) : Int) := by
  rw [iconv_u rfl, show (8 : Int) = ((8 : Nat) : Int) from rfl, imul_u rfl]
  simp only [IntKind.bits]
  congr 1
  omega
theorem oct_byte (n j : Nat) (hj : j < 8) : iconv .u8 (ishr .u64 ((8 * n * 2 ^ (8 * j) % 18446744073709551616 : Nat) : Int) 56) = iconv .u8 ((8 * n / 2 ^ (8 * (7 - j)) : Nat) : Int) := by
  rw [show (56 : Int) = ((56 : Nat) : Int) from rfl, ishr_u, iconv_u rfl, iconv_u rfl]
  simp only [IntKind.bits]
  congr 1
  rw [show min 56 64 = 56 from rfl]
  have : j = 0 ∨ j = 1 ∨ j = 2 ∨ j = 3 ∨ j = 4 ∨ j = 5 ∨ j = 6 ∨ j = 7 := by omega
  rcases this with rfl | rfl | rfl | rfl | rfl | rfl | rfl | rfl <;> simp only [Nat.reduceMul, Nat.reduceSub, Nat.reducePow] <;> omega
theorem oct_shl (n j : Nat) (hj : j < 8) : ishl .u64 ((8 * n * 2 ^ (8 * j) % 18446744073709551616 : Nat) : Int) 8 = ((8 * n * 2 ^ (8 * (j + 1)) % 18446744073709551616 : Nat) : Int) := by
  rw [show (8 : Int) = ((8 : Nat) : Int) from rfl, ishl_u rfl]
  simp only [IntKind.bits]
  congr 1
  rw [show min 8 64 = 8 from rfl]
  have : j = 0 ∨ j = 1 ∨ j = 2 ∨ j = 3 ∨ j = 4 ∨ j = 5 ∨ j = 6 ∨ j = 7 := by omega
  rcases this with rfl | rfl | rfl | rfl | rfl | rfl | rfl | rfl <;> simp only [Nat.reduceMul, Nat.reduceAdd, Nat.reducePow] <;> omega

set_option maxHeartbeats 2000000 in
set_option maxRecDepth 100000 in
theorem octets_calls (l : List UInt8) (hl : l.length ≤ 2 ^ 44) (s : AS) :
    ACalls Tryd.prog Γ 86 [.v (.string ⟨l.toArray⟩)] s (fun r s' => OutS s (Sha.pad l) r s') := by
  refine acalls_body Tryd.func86 rfl Tryd.ntmps86 Tryd.results86 (by simp) ?_
  refine awp_reg_seq ?_
  intro K hK
  simp only [↓DN, UP, implies_true, forall_eq', ne_eq, if_true, if_false, aval, abin, aint, ashift, abool, astr, anil, aun, aconv, aindexAddr, aindex, optInt, aslice, abuiltin, asrc, afill, placeOf, asetAll, undef, aload, apart, AV.cells, AV.one, aeval, updO, upd, initE, gdst, thenQ, blockQ, srcOk, Array.isEmpty, List.isEmpty, bytesV, reduceCtorEq, ↓reduceIte, Nat.reduceLT, Nat.reduceLeDiff, Nat.reduceEqDiff, Nat.reduceAdd, Nat.reduceMul, Nat.reducePow, Nat.reduceSub, Int.reduceLT, Int.reduceLE, Int.reduceToNat, RSha886, Tryd.ntmps86]
  refine hK _ _ ?_
  clear hK K
  refine awp_reg_mid1 rfl (by decide) ?_
  intro ops
  simp only [↓AXq_nil, ↓AXq_cons, pval, List.contains_cons, List.contains_nil, Nat.reduceBEq, Bool.or_false, Bool.or_true, Bool.or_self, Bool.false_eq_true, Bool.false_or, ↓DN, UP, implies_true, forall_eq', ne_eq, if_true, if_false, aval, abin, aint, ashift, abool, astr, anil, aun, aconv, aindexAddr, aindex, optInt, aslice, abuiltin, asrc, afill, placeOf, asetAll, undef, aload, apart, AV.cells, AV.one, aeval, updO, upd, initE, gdst, thenQ, blockQ, srcOk, Array.isEmpty, List.isEmpty, bytesV, reduceCtorEq, ↓reduceIte, Nat.reduceLT, Nat.reduceLeDiff, Nat.reduceEqDiff, Nat.reduceAdd, Nat.reduceMul, Nat.reducePow, Nat.reduceSub, Int.reduceLT, Int.reduceLE, Int.reduceToNat, RSha886, Tryd.ntmps86]
  refine ⟨fun r s' => OutS s l r s', fun G a w hr => ?_, ?_⟩
  · exact conv_own_res (l := l) (src := 9) (dst := 22) (e := 5) (x := .tmp 6) rfl Tryd.underlying9 Tryd.underlying22 Tryd.underlying5 (by simp only [aeval, upd, ↓reduceIte]) hr.eval hr.st
  intro r s1 h1
  simp only [↓DN, UP, implies_true, forall_eq', ne_eq, if_true, if_false, aval, abin, aint, ashift, abool, astr, anil, aun, aconv, aindexAddr, aindex, optInt, aslice, abuiltin, asrc, afill, placeOf, asetAll, undef, aload, apart, AV.cells, AV.one, aeval, updO, upd, initE, gdst, thenQ, blockQ, srcOk, Array.isEmpty, List.isEmpty, bytesV, reduceCtorEq, ↓reduceIte, Nat.reduceLT, Nat.reduceLeDiff, Nat.reduceEqDiff, Nat.reduceAdd, Nat.reduceMul, Nat.reducePow, Nat.reduceSub, Int.reduceLT, Int.reduceLE, Int.reduceToNat, RSha886, Tryd.ntmps86, List.replicate_one, Nat.lt_irrefl]
  refine aappend_out (ds := [128]) h1 rfl rfl T.c5 T.b5 (by simp; omega) ?_
  intro r2 s2 h2
  refine awp_seq_k ?_
  intro K hK
  refine awp_block ?_
  refine awp_loop (fun E s2 => ∃ k : Nat, k ≤ Sha.zeros l.length ∧ E 0 = .v (.string ⟨l.toArray⟩) ∧ OutS s (l ++ [128] ++ List.replicate k 0) (E 3) s2)
    (fun E s2 => match E 3 with | .sl _ n _ _ => l.length + 1 + Sha.zeros l.length - n | _ => 0) ?_ ?_
  · exact ⟨0, Nat.zero_le _, by simp only [upd, initE, Nat.reduceEqDiff, ↓reduceIte, List.getD_cons_zero], by simpa only [upd, ↓reduceIte, List.replicate_zero, List.append_nil] using h2⟩
  · rintro E2 s3 ⟨k, hk, g0', gout⟩ -
    refine awp_seq_k ?_
    intro K2 hK2
    obtain ⟨t, e, g0⟩ := outS_own gout (by simp)
    have hlen : (l ++ [128] ++ List.replicate k 0).length = l.length + 1 + k := by simp; omega
    generalize hL : l ++ [128] ++ List.replicate k 0 = L at *
    have hLn : L ≠ [] := by intro e'; rw [e'] at hlen; simp only [List.length_nil] at hlen; omega
    by_cases hk' : k = Sha.zeros l.length
    · have h56 : L.length % 64 = 56 := by rw [hlen, hk', Sha.zeros]; omega
      have hb := bne_f (show ((L.length % 64 : Nat) : Int) = 56 by omega)
      refine awp_reg_seq ?_
      intro K hK
      simp only [↓DN, UP, implies_true, forall_eq', ne_eq, if_true, if_false, aval, abin, aint, ashift, abool, astr, anil, aun, aconv, aindexAddr, aindex, optInt, aslice, abuiltin, asrc, afill, placeOf, asetAll, undef, aload, apart, AV.cells, AV.one, aeval, updO, upd, initE, gdst, thenQ, blockQ, srcOk, Array.isEmpty, List.isEmpty, bytesV, reduceCtorEq, ↓reduceIte, Nat.reduceLT, Nat.reduceLeDiff, Nat.reduceEqDiff, Nat.reduceAdd, Nat.reduceMul, Nat.reducePow, Nat.reduceSub, Int.reduceLT, Int.reduceLE, Int.reduceToNat, RSha886, Tryd.ntmps86, g0, rem64, hb]
      refine hK _ _ ?_
      clear hK K
      refine awp_cond_k ?_
      intro X Y hX hY
      simp only [↓DN, UP, implies_true, forall_eq', ne_eq, if_true, if_false, aval, abin, aint, ashift, abool, astr, anil, aun, aconv, aindexAddr, aindex, optInt, aslice, abuiltin, asrc, afill, placeOf, asetAll, undef, aload, apart, AV.cells, AV.one, aeval, updO, upd, initE, gdst, thenQ, blockQ, srcOk, Array.isEmpty, List.isEmpty, bytesV, reduceCtorEq, ↓reduceIte, Nat.reduceLT, Nat.reduceLeDiff, Nat.reduceEqDiff, Nat.reduceAdd, Nat.reduceMul, Nat.reducePow, Nat.reduceSub, Int.reduceLT, Int.reduceLE, Int.reduceToNat, RSha886, Tryd.ntmps86, Bool.not_true, Bool.not_false, Bool.false_eq_true, Bool.true_eq_false, false_imp_iff, true_imp_iff, decide_eq_true_eq, decide_eq_false_iff_not, hb]
      refine hY ?_
      clear hX hY X Y
      refine awp_exit ?_
      simp only [thenQ, blockQ, if_true]
      clear hK2 K2
      refine hK _ _ ?_
      clear hK K
      rw [← g0]
      have hol := oct_len l.length (by omega)
      refine awp_reg_seq ?_
      intro K hK
      simp only [↓DN, UP, implies_true, forall_eq', ne_eq, if_true, if_false, aval, abin, aint, ashift, abool, astr, anil, aun, aconv, aindexAddr, aindex, optInt, aslice, abuiltin, asrc, afill, placeOf, asetAll, undef, aload, apart, AV.cells, AV.one, aeval, updO, upd, initE, gdst, thenQ, blockQ, srcOk, Array.isEmpty, List.isEmpty, bytesV, reduceCtorEq, ↓reduceIte, Nat.reduceLT, Nat.reduceLeDiff, Nat.reduceEqDiff, Nat.reduceAdd, Nat.reduceMul, Nat.reducePow, Nat.reduceSub, Int.reduceLT, Int.reduceLE, Int.reduceToNat, RSha886, Tryd.ntmps86, g0', bs_size, hol]
      refine hK _ _ ?_
      clear hK K
      refine awp_seq_k ?_
      intro K hK
      refine awp_reg_seq ?_
      intro K hK
      simp only [↓DN, UP, implies_true, forall_eq', ne_eq, if_true, if_false, aval, abin, aint, ashift, abool, astr, anil, aun, aconv, aindexAddr, aindex, optInt, aslice, abuiltin, asrc, afill, placeOf, asetAll, undef, aload, apart, AV.cells, AV.one, aeval, updO, upd, initE, gdst, thenQ, blockQ, srcOk, Array.isEmpty, List.isEmpty, bytesV, reduceCtorEq, ↓reduceIte, Nat.reduceLT, Nat.reduceLeDiff, Nat.reduceEqDiff, Nat.reduceAdd, Nat.reduceMul, Nat.reducePow, Nat.reduceSub, Int.reduceLT, Int.reduceLE, Int.reduceToNat, RSha886, Tryd.ntmps86]
      refine hK _ _ ?_
      clear hK K
      refine awp_block ?_
      refine awp_loop (fun E s2 => ∃ j : Nat, j ≤ 8 ∧ E 4 = .v (.int .u64 ((8 * l.length * 2 ^ (8 * j) % 18446744073709551616 : Nat) : Int)) ∧ E 5 = .v (.int .i64 j) ∧ OutS s (L ++ (Sha.lenB l.length).take j) (E 3) s2)
        (fun E s2 => match E 5 with | .v (.int _ i) => 8 - i.toNat | _ => 0) ?_ ?_
      · exact ⟨0, by omega, by simp only [upd, Nat.reduceEqDiff, ↓reduceIte, Nat.mul_zero, Nat.pow_zero, Nat.mul_one], by simp only [upd, ↓reduceIte]; rfl, by simpa only [upd, Nat.reduceEqDiff, ↓reduceIte, List.take_zero, List.append_nil] using gout⟩
      · rintro E3 s4 ⟨j, hj, f4, f5, fout⟩ -
        refine awp_seq_k ?_
        intro K2 hK2
        by_cases hj' : j < 8
        · have hge : (j : Int) < 8 := by omega
          refine awp_reg_seq ?_
          intro K hK
          simp only [↓DN, UP, implies_true, forall_eq', ne_eq, if_true, if_false, aval, abin, aint, ashift, abool, astr, anil, aun, aconv, aindexAddr, aindex, optInt, aslice, abuiltin, asrc, afill, placeOf, asetAll, undef, aload, apart, AV.cells, AV.one, aeval, updO, upd, initE, gdst, thenQ, blockQ, srcOk, Array.isEmpty, List.isEmpty, bytesV, reduceCtorEq, ↓reduceIte, Nat.reduceLT, Nat.reduceLeDiff, Nat.reduceEqDiff, Nat.reduceAdd, Nat.reduceMul, Nat.reducePow, Nat.reduceSub, Int.reduceLT, Int.reduceLE, Int.reduceToNat, RSha886, Tryd.ntmps86, f5, decide_eq_true hge]
          refine hK _ _ ?_
          clear hK K
          refine awp_cond_k ?_
          intro X Y hX hY
          simp only [↓DN, UP, implies_true, forall_eq', ne_eq, if_true, if_false, aval, abin, aint, ashift, abool, astr, anil, aun, aconv, aindexAddr, aindex, optInt, aslice, abuiltin, asrc, afill, placeOf, asetAll, undef, aload, apart, AV.cells, AV.one, aeval, updO, upd, initE, gdst, thenQ, blockQ, srcOk, Array.isEmpty, List.isEmpty, bytesV, reduceCtorEq, ↓reduceIte, Nat.reduceLT, Nat.reduceLeDiff, Nat.reduceEqDiff, Nat.reduceAdd, Nat.reduceMul, Nat.reducePow, Nat.reduceSub, Int.reduceLT, Int.reduceLE, Int.reduceToNat, RSha886, Tryd.ntmps86, Bool.not_true, Bool.not_false, Bool.false_eq_true, Bool.true_eq_false, false_imp_iff, true_imp_iff, decide_eq_true_eq, decide_eq_false_iff_not]
          refine hX ?_
          clear hX hY X Y
          refine awp_skip ?_
          refine hK2 _ _ ?_
          clear hK2 K2
          refine awp_seq_k ?_
          intro K3 hK3
          refine awp_block ?_
          have hby := oct_byte l.length j hj'
          have hsh := oct_shl l.length j hj'
          generalize 8 * l.length * 2 ^ (8 * j) % 18446744073709551616 = y at *
          generalize hr6 : E3 3 = r6 at fout
          refine awp_reg_seq ?_
          intro K hK
          simp only [↓DN, UP, implies_true, forall_eq', ne_eq, if_true, if_false, aval, abin, aint, ashift, abool, astr, anil, aun, aconv, aindexAddr, aindex, optInt, aslice, abuiltin, asrc, afill, placeOf, asetAll, undef, aload, apart, AV.cells, AV.one, aeval, updO, upd, initE, gdst, thenQ, blockQ, srcOk, Array.isEmpty, List.isEmpty, bytesV, reduceCtorEq, ↓reduceIte, Nat.reduceLT, Nat.reduceLeDiff, Nat.reduceEqDiff, Nat.reduceAdd, Nat.reduceMul, Nat.reducePow, Nat.reduceSub, Int.reduceLT, Int.reduceLE, Int.reduceToNat, RSha886, Tryd.ntmps86, hr6, f4, hby, List.replicate_one, Nat.lt_irrefl]
          refine aappend_out (ds := [UInt8.ofNat (8 * l.length / 2 ^ (8 * (7 - j)))]) fout rfl (by rw [List.map_cons, byte_of]; rfl) T.c5 T.b5 (by rw [List.length_append, List.length_take, hlen]; unfold Sha.zeros at hk; simp only [List.length_cons, List.length_nil]; omega) ?_
          intro r2 s5 h5
          rw [List.append_assoc, ← take_get _ _ _ (lenB_get l.length j hj')] at h5
          refine hK _ _ ?_
          clear hK K
          refine awp_reg_end ?_
          intro K hK
          simp only [↓DN, UP, implies_true, forall_eq', ne_eq, if_true, if_false, aval, abin, aint, ashift, abool, astr, anil, aun, aconv, aindexAddr, aindex, optInt, aslice, abuiltin, asrc, afill, placeOf, asetAll, undef, aload, apart, AV.cells, AV.one, aeval, updO, upd, initE, gdst, thenQ, blockQ, srcOk, Array.isEmpty, List.isEmpty, bytesV, reduceCtorEq, ↓reduceIte, Nat.reduceLT, Nat.reduceLeDiff, Nat.reduceEqDiff, Nat.reduceAdd, Nat.reduceMul, Nat.reducePow, Nat.reduceSub, Int.reduceLT, Int.reduceLE, Int.reduceToNat, RSha886, Tryd.ntmps86, f4, hsh]
          refine hK _ _ ?_
          clear hK K
          simp only [thenQ, blockQ, if_true, if_false]
          refine hK3 _ _ ?_
          clear hK3 K3
          refine awp_reg_end ?_
          intro K hK
          simp only [↓DN, UP, implies_true, forall_eq', ne_eq, if_true, if_false, aval, abin, aint, ashift, abool, astr, anil, aun, aconv, aindexAddr, aindex, optInt, aslice, abuiltin, asrc, afill, placeOf, asetAll, undef, aload, apart, AV.cells, AV.one, aeval, updO, upd, initE, gdst, thenQ, blockQ, srcOk, Array.isEmpty, List.isEmpty, bytesV, reduceCtorEq, ↓reduceIte, Nat.reduceLT, Nat.reduceLeDiff, Nat.reduceEqDiff, Nat.reduceAdd, Nat.reduceMul, Nat.reducePow, Nat.reduceSub, Int.reduceLT, Int.reduceLE, Int.reduceToNat, RSha886, Tryd.ntmps86, f5, w_succ j (by omega)]
          refine hK _ _ ?_
          clear hK K
          refine ⟨⟨j + 1, by omega, by simp only [upd, Nat.reduceEqDiff, ↓reduceIte], by simp only [upd, ↓reduceIte], by simpa only [upd, Nat.reduceEqDiff, ↓reduceIte] using h5⟩, ?_⟩
          simp only [f5, upd, ↓reduceIte]
          omega
        · have hge : ¬ (j : Int) < 8 := by omega
          obtain rfl : j = 8 := by omega
          refine awp_reg_seq ?_
          intro K hK
          simp only [↓DN, UP, implies_true, forall_eq', ne_eq, if_true, if_false, aval, abin, aint, ashift, abool, astr, anil, aun, aconv, aindexAddr, aindex, optInt, aslice, abuiltin, asrc, afill, placeOf, asetAll, undef, aload, apart, AV.cells, AV.one, aeval, updO, upd, initE, gdst, thenQ, blockQ, srcOk, Array.isEmpty, List.isEmpty, bytesV, reduceCtorEq, ↓reduceIte, Nat.reduceLT, Nat.reduceLeDiff, Nat.reduceEqDiff, Nat.reduceAdd, Nat.reduceMul, Nat.reducePow, Nat.reduceSub, Int.reduceLT, Int.reduceLE, Int.reduceToNat, RSha886, Tryd.ntmps86, f5, decide_eq_false hge]
          refine hK _ _ ?_
          clear hK K
          refine awp_cond_k ?_
          intro X Y hX hY
          simp only [↓DN, UP, implies_true, forall_eq', ne_eq, if_true, if_false, aval, abin, aint, ashift, abool, astr, anil, aun, aconv, aindexAddr, aindex, optInt, aslice, abuiltin, asrc, afill, placeOf, asetAll, undef, aload, apart, AV.cells, AV.one, aeval, updO, upd, initE, gdst, thenQ, blockQ, srcOk, Array.isEmpty, List.isEmpty, bytesV, reduceCtorEq, ↓reduceIte, Nat.reduceLT, Nat.reduceLeDiff, Nat.reduceEqDiff, Nat.reduceAdd, Nat.reduceMul, Nat.reducePow, Nat.reduceSub, Int.reduceLT, Int.reduceLE, Int.reduceToNat, RSha886, Tryd.ntmps86, Bool.not_true, Bool.not_false, Bool.false_eq_true, Bool.true_eq_false, false_imp_iff, true_imp_iff, decide_eq_true_eq, decide_eq_false_iff_not]
          refine hY ?_
          clear hX hY X Y
          refine awp_exit ?_
          simp only [thenQ, blockQ, if_true]
          clear hK2 K2
          refine hK _ _ ?_
          clear hK K
          have hfin : L ++ (Sha.lenB l.length).take 8 = Sha.pad l := by
            rw [← hL, hk', Sha.pad, show (Sha.lenB l.length).take 8 = Sha.lenB l.length from rfl]
            simp
          rw [hfin] at fout
          generalize hr6 : E3 3 = r6 at fout
          refine awp_reg_seq ?_
          intro K hK
          simp only [↓DN, UP, implies_true, forall_eq', ne_eq, if_true, if_false, aval, abin, aint, ashift, abool, astr, anil, aun, aconv, aindexAddr, aindex, optInt, aslice, abuiltin, asrc, afill, placeOf, asetAll, undef, aload, apart, AV.cells, AV.one, aeval, updO, upd, initE, gdst, thenQ, blockQ, srcOk, Array.isEmpty, List.isEmpty, bytesV, reduceCtorEq, ↓reduceIte, Nat.reduceLT, Nat.reduceLeDiff, Nat.reduceEqDiff, Nat.reduceAdd, Nat.reduceMul, Nat.reducePow, Nat.reduceSub, Int.reduceLT, Int.reduceLE, Int.reduceToNat, RSha886, Tryd.ntmps86, hr6]
          refine hK _ _ ?_
          clear hK K
          refine awp_ret ?_
          simp only [retQ, AEnds, aresL, ares, List.toList_toArray, ↓upd_same]; try simp only [↓DN, UP, implies_true, forall_eq', ne_eq, if_true, if_false, aval, abin, aint, ashift, abool, astr, anil, aun, aconv, aindexAddr, aindex, optInt, aslice, abuiltin, asrc, afill, placeOf, asetAll, undef, aload, apart, AV.cells, AV.one, aeval, updO, upd, initE, gdst, thenQ, blockQ, srcOk, Array.isEmpty, List.isEmpty, bytesV, reduceCtorEq, ↓reduceIte, Nat.reduceLT, Nat.reduceLeDiff, Nat.reduceEqDiff, Nat.reduceAdd, Nat.reduceMul, Nat.reducePow, Nat.reduceSub, Int.reduceLT, Int.reduceLE, Int.reduceToNat, RSha886, Tryd.ntmps86, atuple_nil, atuple_one, atuple_two, atuple_three, atuple_four, atuple_five]
          exact ⟨_, _, AV.weak.refl _, AS.le.refl _, fout⟩
    · have h56 : L.length % 64 ≠ 56 := by rw [hlen]; unfold Sha.zeros at hk hk'; omega
      have hb := bne_t (show ((L.length % 64 : Nat) : Int) ≠ 56 by omega)
      refine awp_reg_seq ?_
      intro K hK
      simp only [↓DN, UP, implies_true, forall_eq', ne_eq, if_true, if_false, aval, abin, aint, ashift, abool, astr, anil, aun, aconv, aindexAddr, aindex, optInt, aslice, abuiltin, asrc, afill, placeOf, asetAll, undef, aload, apart, AV.cells, AV.one, aeval, updO, upd, initE, gdst, thenQ, blockQ, srcOk, Array.isEmpty, List.isEmpty, bytesV, reduceCtorEq, ↓reduceIte, Nat.reduceLT, Nat.reduceLeDiff, Nat.reduceEqDiff, Nat.reduceAdd, Nat.reduceMul, Nat.reducePow, Nat.reduceSub, Int.reduceLT, Int.reduceLE, Int.reduceToNat, RSha886, Tryd.ntmps86, g0, rem64, hb]
      refine hK _ _ ?_
      clear hK K
      refine awp_cond_k ?_
      intro X Y hX hY
      simp only [↓DN, UP, implies_true, forall_eq', ne_eq, if_true, if_false, aval, abin, aint, ashift, abool, astr, anil, aun, aconv, aindexAddr, aindex, optInt, aslice, abuiltin, asrc, afill, placeOf, asetAll, undef, aload, apart, AV.cells, AV.one, aeval, updO, upd, initE, gdst, thenQ, blockQ, srcOk, Array.isEmpty, List.isEmpty, bytesV, reduceCtorEq, ↓reduceIte, Nat.reduceLT, Nat.reduceLeDiff, Nat.reduceEqDiff, Nat.reduceAdd, Nat.reduceMul, Nat.reducePow, Nat.reduceSub, Int.reduceLT, Int.reduceLE, Int.reduceToNat, RSha886, Tryd.ntmps86, Bool.not_true, Bool.not_false, Bool.false_eq_true, Bool.true_eq_false, false_imp_iff, true_imp_iff, decide_eq_true_eq, decide_eq_false_iff_not, hb]
      refine hX ?_
      clear hX hY X Y
      refine awp_skip ?_
      refine hK2 _ _ ?_
      clear hK2 K2
      refine awp_block ?_
      generalize hr6 : E2 3 = r6 at gout
      refine awp_reg_end ?_
      intro K hK
      simp only [↓DN, UP, implies_true, forall_eq', ne_eq, if_true, if_false, aval, abin, aint, ashift, abool, astr, anil, aun, aconv, aindexAddr, aindex, optInt, aslice, abuiltin, asrc, afill, placeOf, asetAll, undef, aload, apart, AV.cells, AV.one, aeval, updO, upd, initE, gdst, thenQ, blockQ, srcOk, Array.isEmpty, List.isEmpty, bytesV, reduceCtorEq, ↓reduceIte, Nat.reduceLT, Nat.reduceLeDiff, Nat.reduceEqDiff, Nat.reduceAdd, Nat.reduceMul, Nat.reducePow, Nat.reduceSub, Int.reduceLT, Int.reduceLE, Int.reduceToNat, RSha886, Tryd.ntmps86, hr6, List.replicate_one, Nat.lt_irrefl]
      refine aappend_out (ds := [0]) gout rfl rfl T.c5 T.b5 (by rw [hlen]; unfold Sha.zeros at hk; simp; omega) ?_
      intro r2 s2 h2
      have hL2 : L ++ [0] = l ++ [128] ++ List.replicate (k + 1) 0 := by rw [← hL, List.replicate_succ', List.append_assoc _ (List.replicate k 0)]
      rw [hL2] at h2
      refine hK _ _ ?_
      clear hK K
      simp only [thenQ, blockQ, if_true, if_false]
      obtain ⟨t2, e2, q0⟩ := outS_own h2 (by simp)
      refine ⟨⟨k + 1, by omega, by simp only [upd, g0', Nat.reduceEqDiff, ↓reduceIte], by simpa only [upd, ↓reduceIte] using h2⟩, ?_⟩
      rw [hr6] at g0
      simp only [upd, ↓reduceIte, hr6, q0, g0, List.length_append, List.length_replicate, List.length_cons, List.length_nil, hlen]
      omega

end Go.Proofs.YtpakgjmcaefnmaaDoor


