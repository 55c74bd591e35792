/- Contracts of the program's functions, each walked once; the conditions stand in each theorem. -/
import Derived.Test.YtpakgjmcaefnmaaDoorSha4
set_option linter.unusedSimpArgs false
set_option linter.unusedVariables false
set_option autoImplicit false
namespace Go.Proofs.YtpakgjmcaefnmaaDoor
open Go Go.AM Go.Proofs

theorem RSha582 : type_of% (And.intro (And.intro (And.intro (And.intro @Tryd.underlying3 T.c3) (And.intro T.g3 T.b3)) (And.intro (And.intro T.z3 @Tryd.underlying5) (And.intro T.c5 T.g5))) (And.intro (And.intro (And.intro T.b5 T.z5) (And.intro @Tryd.underlying22 T.c22)) (And.intro (And.intro T.g22 T.b22) (And.intro T.z22 T.s22)))) :=
  (And.intro (And.intro (And.intro (And.intro @Tryd.underlying3 T.c3) (And.intro T.g3 T.b3)) (And.intro (And.intro T.z3 @Tryd.underlying5) (And.intro T.c5 T.g5))) (And.intro (And.intro (And.intro T.b5 T.z5) (And.intro @Tryd.underlying22 T.c22)) (And.intro (And.intro T.g22 T.b22) (And.intro T.z22 T.s22))))

variable {Γ : Nat → List AV}

theorem outS_own {s s' : AS} {l : List UInt8} {r : AV} (h : OutS s l r s') (h0 : l ≠ []) : ∃ t e, r = .sl 1 l.length (l.map byteV) (.own t e) := by
  rcases h.2 with ⟨rfl, _⟩ | ⟨t, e, _, _, rfl⟩
  · exact absurd rfl h0
  · exact ⟨t, e, rfl⟩
theorem rem64 (a : Nat) : irem (a : Int) 64 = ((a % 64 : Nat) : Int) := irem_u a 64
theorem lenB_get (n j : Nat) (h : j < 8) : (Sha.lenB n)[j]? = some (UInt8.ofNat (8 * n / 2 ^ (8 * (7 - j)))) := by
  have : j = 0 ∨ j = 1 ∨ j = 2 ∨ j = 3 ∨ j = 4 ∨ j = 5 ∨ j = 6 ∨ j = 7 := by omega
  rcases this with rfl | rfl | rfl | rfl | rfl | rfl | rfl | rfl <;> simp [Sha.lenB]
theorem take_get {α : Type} (l : List α) (j : Nat) (x : α) (h : l[j]? = some x) : l.take (j + 1) = l.take j ++ [x] := by
  obtain ⟨h1, h2⟩ := List.getElem?_eq_some_iff.1 h
  rw [List.take_succ_eq_append_getElem h1, h2]
theorem byte_of (x : Nat) : byteV (UInt8.ofNat x) = .v (.int .u8 (iconv .u8 (x : Int))) := by
  rw [iconv_u rfl]
  simp [byteV, IntKind.bits]
theorem len_shr (n j : Nat) (hj : j < 8) (hn : n ≤ 2 ^ 45) : ishr .i64 (imul .i64 8 (n : Int)) (imul .i64 8 ((7 - j : Nat) : Int)) = ((8 * n / 2 ^ (8 * (7 - j)) : Nat) : Int) := by
  rw [imul_i64 (by omega), imul_i64 (by omega), show (8 : Int) * (n : Int) = ((8 * n : Nat) : Int) from by omega, show (8 : Int) * ((7 - j : Nat) : Int) = ((8 * (7 - j) : Nat) : Int) from by omega, ishr_u]
  simp only [IntKind.bits]
  rw [Nat.min_eq_left (by omega)]
theorem bne_t {a b : Int} (h : a ≠ b) : (a != b) = true := by simpa using h
theorem bne_f {a b : Int} (h : a = b) : (a != b) = false := by simpa using h
theorem pow_len (n : Nat) (hn : n ≤ 2 ^ 45) (j : Nat) (hj : j < 8) : ¬ (imul .i64 8 ((7 - j : Nat) : Int) < 0) := by
  rw [imul_i64 (by omega)]
  omega

set_option maxHeartbeats 2000000 in
theorem padded_calls (l : List UInt8) (hl : l.length ≤ 2 ^ 44) (s s1 : AS) (r0 : AV) (h : OutS s l r0 s1) :
    ACalls Tryd.prog Γ 82 [r0] s1 (fun r s' => OutS s (Sha.pad l) r s') := by
  refine acalls_body Tryd.func82 rfl Tryd.ntmps82 Tryd.results82 (by simp) ?_
  refine awp_reg_seq ?_
  intro K hK
  simp only [↓DN, UP, implies_true, forall_eq', ne_eq, if_true, if_false, aval, abin, aint, ashift, abool, astr, anil, aun, aconv, aindexAddr, aindex, optInt, aslice, abuiltin, asrc, afill, placeOf, asetAll, undef, aload, apart, AV.cells, AV.one, aeval, updO, upd, initE, gdst, thenQ, blockQ, srcOk, Array.isEmpty, List.isEmpty, bytesV, reduceCtorEq, ↓reduceIte, Nat.reduceLT, Nat.reduceLeDiff, Nat.reduceEqDiff, Nat.reduceAdd, Nat.reduceMul, Nat.reducePow, Nat.reduceSub, Int.reduceLT, Int.reduceLE, Int.reduceToNat, RSha582, Tryd.ntmps82]
  refine hK _ _ ?_
  clear hK K
  refine awp_reg_seq ?_
  intro K hK
  have hc : ∀ E : Env, E 0 = r0 → E 3 = .v (.int .i64 l.length) → K E s1 := by
    intro E e0 e3
    refine hK _ _ ?_
    clear hK K
    refine awp_reg_seq ?_
    intro K hK
    simp only [↓DN, UP, implies_true, forall_eq', ne_eq, if_true, if_false, aval, abin, aint, ashift, abool, astr, anil, aun, aconv, aindexAddr, aindex, optInt, aslice, abuiltin, asrc, afill, placeOf, asetAll, undef, aload, apart, AV.cells, AV.one, aeval, updO, upd, initE, gdst, thenQ, blockQ, srcOk, Array.isEmpty, List.isEmpty, bytesV, reduceCtorEq, ↓reduceIte, Nat.reduceLT, Nat.reduceLeDiff, Nat.reduceEqDiff, Nat.reduceAdd, Nat.reduceMul, Nat.reducePow, Nat.reduceSub, Int.reduceLT, Int.reduceLE, Int.reduceToNat, RSha582, Tryd.ntmps82, e0, List.replicate_one, Nat.lt_irrefl]
    refine aappend_out (ds := [128]) h rfl rfl T.c5 T.b5 (by simp; omega) ?_
    intro r2 s2 h2
    refine hK _ _ ?_
    clear hK K
    refine awp_seq_k ?_
    intro K hK
    refine awp_block ?_
    refine awp_loop (fun E s2 => ∃ k : Nat, k ≤ Sha.zeros l.length ∧ E 3 = .v (.int .i64 l.length) ∧ OutS s (l ++ [128] ++ List.replicate k 0) (E 0) s2)
      (fun E s2 => match E 0 with | .sl _ n _ _ => l.length + 1 + Sha.zeros l.length - n | _ => 0) ?_ ?_
    · exact ⟨0, Nat.zero_le _, by simp only [upd, e3, Nat.reduceEqDiff, ↓reduceIte], by simpa only [upd, ↓reduceIte, List.replicate_zero, List.append_nil] using h2⟩
    · rintro E2 s3 ⟨k, hk, g3, gout⟩ -
      refine awp_seq_k ?_
      intro K2 hK2
      obtain ⟨t, e, g0⟩ := outS_own gout (by simp)
      have hlen : (l ++ [128] ++ List.replicate k 0).length = l.length + 1 + k := by simp; omega
      generalize hL : l ++ [128] ++ List.replicate k 0 = L at *
      have hLn : L ≠ [] := by intro e'; rw [e'] at hlen; simp only [List.length_nil] at hlen; omega
      by_cases hk' : k = Sha.zeros l.length
      · have h56 : L.length % 64 = 56 := by rw [hlen, hk', Sha.zeros]; omega
        have hb := bne_f (show ((L.length % 64 : Nat) : Int) = 56 by omega)
        refine awp_reg_seq ?_
        intro K hK
        simp only [↓DN, UP, implies_true, forall_eq', ne_eq, if_true, if_false, aval, abin, aint, ashift, abool, astr, anil, aun, aconv, aindexAddr, aindex, optInt, aslice, abuiltin, asrc, afill, placeOf, asetAll, undef, aload, apart, AV.cells, AV.one, aeval, updO, upd, initE, gdst, thenQ, blockQ, srcOk, Array.isEmpty, List.isEmpty, bytesV, reduceCtorEq, ↓reduceIte, Nat.reduceLT, Nat.reduceLeDiff, Nat.reduceEqDiff, Nat.reduceAdd, Nat.reduceMul, Nat.reducePow, Nat.reduceSub, Int.reduceLT, Int.reduceLE, Int.reduceToNat, RSha582, Tryd.ntmps82, g0, rem64, hb]
        refine hK _ _ ?_
        clear hK K
        refine awp_cond_k ?_
        intro X Y hX hY
        simp only [↓DN, UP, implies_true, forall_eq', ne_eq, if_true, if_false, aval, abin, aint, ashift, abool, astr, anil, aun, aconv, aindexAddr, aindex, optInt, aslice, abuiltin, asrc, afill, placeOf, asetAll, undef, aload, apart, AV.cells, AV.one, aeval, updO, upd, initE, gdst, thenQ, blockQ, srcOk, Array.isEmpty, List.isEmpty, bytesV, reduceCtorEq, ↓reduceIte, Nat.reduceLT, Nat.reduceLeDiff, Nat.reduceEqDiff, Nat.reduceAdd, Nat.reduceMul, Nat.reducePow, Nat.reduceSub, Int.reduceLT, Int.reduceLE, Int.reduceToNat, RSha582, Tryd.ntmps82, Bool.not_true, Bool.not_false, Bool.false_eq_true, Bool.true_eq_false, false_imp_iff, true_imp_iff, decide_eq_true_eq, decide_eq_false_iff_not, hb]
        refine hY ?_
        clear hX hY X Y
        refine awp_exit ?_
        simp only [thenQ, blockQ, if_true]
        clear hK2 K2
        refine hK _ _ ?_
        clear hK K
        rw [← g0]
        refine awp_seq_k ?_
        intro K hK
        refine awp_reg_seq ?_
        intro K hK
        simp only [↓DN, UP, implies_true, forall_eq', ne_eq, if_true, if_false, aval, abin, aint, ashift, abool, astr, anil, aun, aconv, aindexAddr, aindex, optInt, aslice, abuiltin, asrc, afill, placeOf, asetAll, undef, aload, apart, AV.cells, AV.one, aeval, updO, upd, initE, gdst, thenQ, blockQ, srcOk, Array.isEmpty, List.isEmpty, bytesV, reduceCtorEq, ↓reduceIte, Nat.reduceLT, Nat.reduceLeDiff, Nat.reduceEqDiff, Nat.reduceAdd, Nat.reduceMul, Nat.reducePow, Nat.reduceSub, Int.reduceLT, Int.reduceLE, Int.reduceToNat, RSha582, Tryd.ntmps82]
        refine hK _ _ ?_
        clear hK K
        refine awp_block ?_
        refine awp_loop (fun E s2 => ∃ j : Nat, j ≤ 8 ∧ E 3 = .v (.int .i64 l.length) ∧ E 4 = .v (.int .i64 ((7 : Int) - j)) ∧ OutS s (L ++ (Sha.lenB l.length).take j) (E 0) s2)
          (fun E s2 => match E 4 with | .v (.int _ i) => (i + 1).toNat | _ => 0) ?_ ?_
        · exact ⟨0, by omega, by simp only [upd, g3, Nat.reduceEqDiff, ↓reduceIte], by simp only [upd, ↓reduceIte]; rfl, by simpa only [upd, Nat.reduceEqDiff, ↓reduceIte, List.take_zero, List.append_nil] using gout⟩
        · rintro E3 s4 ⟨j, hj, f3, f4, fout⟩ -
          refine awp_seq_k ?_
          intro K2 hK2
          obtain ⟨t', e', f0⟩ := outS_own fout (by simp [hLn])
          by_cases hj' : j < 8
          · have hge : (0 : Int) ≤ (7 : Int) - j := by omega
            refine awp_reg_seq ?_
            intro K hK
            simp only [↓DN, UP, implies_true, forall_eq', ne_eq, if_true, if_false, aval, abin, aint, ashift, abool, astr, anil, aun, aconv, aindexAddr, aindex, optInt, aslice, abuiltin, asrc, afill, placeOf, asetAll, undef, aload, apart, AV.cells, AV.one, aeval, updO, upd, initE, gdst, thenQ, blockQ, srcOk, Array.isEmpty, List.isEmpty, bytesV, reduceCtorEq, ↓reduceIte, Nat.reduceLT, Nat.reduceLeDiff, Nat.reduceEqDiff, Nat.reduceAdd, Nat.reduceMul, Nat.reducePow, Nat.reduceSub, Int.reduceLT, Int.reduceLE, Int.reduceToNat, RSha582, Tryd.ntmps82, f4, decide_eq_true hge]
            refine hK _ _ ?_
            clear hK K
            refine awp_cond_k ?_
            intro X Y hX hY
            simp only [↓DN, UP, implies_true, forall_eq', ne_eq, if_true, if_false, aval, abin, aint, ashift, abool, astr, anil, aun, aconv, aindexAddr, aindex, optInt, aslice, abuiltin, asrc, afill, placeOf, asetAll, undef, aload, apart, AV.cells, AV.one, aeval, updO, upd, initE, gdst, thenQ, blockQ, srcOk, Array.isEmpty, List.isEmpty, bytesV, reduceCtorEq, ↓reduceIte, Nat.reduceLT, Nat.reduceLeDiff, Nat.reduceEqDiff, Nat.reduceAdd, Nat.reduceMul, Nat.reducePow, Nat.reduceSub, Int.reduceLT, Int.reduceLE, Int.reduceToNat, RSha582, Tryd.ntmps82, Bool.not_true, Bool.not_false, Bool.false_eq_true, Bool.true_eq_false, false_imp_iff, true_imp_iff, decide_eq_true_eq, decide_eq_false_iff_not]
            refine hX ?_
            clear hX hY X Y
            refine awp_skip ?_
            refine hK2 _ _ ?_
            clear hK2 K2
            refine awp_seq_k ?_
            intro K3 hK3
            refine awp_block ?_
            have e7 : (7 : Int) - j = ((7 - j : Nat) : Int) := by omega
            rw [e7] at f4
            have hpos := pow_len l.length (by omega) j hj'
            have hsh := len_shr l.length j hj' (by omega)
            generalize hr6 : E3 0 = r6 at fout
            refine awp_reg_end ?_
            intro K hK
            simp only [↓DN, UP, implies_true, forall_eq', ne_eq, if_true, if_false, aval, abin, aint, ashift, abool, astr, anil, aun, aconv, aindexAddr, aindex, optInt, aslice, abuiltin, asrc, afill, placeOf, asetAll, undef, aload, apart, AV.cells, AV.one, aeval, updO, upd, initE, gdst, thenQ, blockQ, srcOk, Array.isEmpty, List.isEmpty, bytesV, reduceCtorEq, ↓reduceIte, Nat.reduceLT, Nat.reduceLeDiff, Nat.reduceEqDiff, Nat.reduceAdd, Nat.reduceMul, Nat.reducePow, Nat.reduceSub, Int.reduceLT, Int.reduceLE, Int.reduceToNat, RSha582, Tryd.ntmps82, hr6, f3, f4, hpos, hsh, List.replicate_one, Nat.lt_irrefl]
            refine aappend_out (ds := [UInt8.ofNat (8 * l.length / 2 ^ (8 * (7 - j)))]) fout rfl (by rw [List.map_cons, byte_of]; rfl) T.c5 T.b5 (by rw [List.length_append, List.length_take, hlen]; unfold Sha.zeros at hk; simp only [List.length_cons, List.length_nil]; omega) ?_
            intro r2 s5 h5
            rw [List.append_assoc, ← take_get _ _ _ (lenB_get l.length j hj')] at h5
            refine hK _ _ ?_
            clear hK K
            simp only [thenQ, blockQ, if_true, if_false]
            refine hK3 _ _ ?_
            clear hK3 K3
            have hdec : isub .i64 ((7 - j : Nat) : Int) 1 = (7 : Int) - ((j + 1 : Nat) : Int) := by
              rw [isub_i64 (by omega)]
              omega
            refine awp_reg_end ?_
            intro K hK
            simp only [↓DN, UP, implies_true, forall_eq', ne_eq, if_true, if_false, aval, abin, aint, ashift, abool, astr, anil, aun, aconv, aindexAddr, aindex, optInt, aslice, abuiltin, asrc, afill, placeOf, asetAll, undef, aload, apart, AV.cells, AV.one, aeval, updO, upd, initE, gdst, thenQ, blockQ, srcOk, Array.isEmpty, List.isEmpty, bytesV, reduceCtorEq, ↓reduceIte, Nat.reduceLT, Nat.reduceLeDiff, Nat.reduceEqDiff, Nat.reduceAdd, Nat.reduceMul, Nat.reducePow, Nat.reduceSub, Int.reduceLT, Int.reduceLE, Int.reduceToNat, RSha582, Tryd.ntmps82, f4, hdec]
            refine hK _ _ ?_
            clear hK K
            refine ⟨⟨j + 1, by omega, by simp only [upd, f3, Nat.reduceEqDiff, ↓reduceIte], by simp only [upd, ↓reduceIte], by simpa only [upd, Nat.reduceEqDiff, ↓reduceIte] using h5⟩, ?_⟩
            simp only [f4, upd, ↓reduceIte]
            omega
          · have hge : ¬ (0 : Int) ≤ (7 : Int) - j := by omega
            obtain rfl : j = 8 := by omega
            refine awp_reg_seq ?_
            intro K hK
            simp only [↓DN, UP, implies_true, forall_eq', ne_eq, if_true, if_false, aval, abin, aint, ashift, abool, astr, anil, aun, aconv, aindexAddr, aindex, optInt, aslice, abuiltin, asrc, afill, placeOf, asetAll, undef, aload, apart, AV.cells, AV.one, aeval, updO, upd, initE, gdst, thenQ, blockQ, srcOk, Array.isEmpty, List.isEmpty, bytesV, reduceCtorEq, ↓reduceIte, Nat.reduceLT, Nat.reduceLeDiff, Nat.reduceEqDiff, Nat.reduceAdd, Nat.reduceMul, Nat.reducePow, Nat.reduceSub, Int.reduceLT, Int.reduceLE, Int.reduceToNat, RSha582, Tryd.ntmps82, f4, decide_eq_false hge]
            refine hK _ _ ?_
            clear hK K
            refine awp_cond_k ?_
            intro X Y hX hY
            simp only [↓DN, UP, implies_true, forall_eq', ne_eq, if_true, if_false, aval, abin, aint, ashift, abool, astr, anil, aun, aconv, aindexAddr, aindex, optInt, aslice, abuiltin, asrc, afill, placeOf, asetAll, undef, aload, apart, AV.cells, AV.one, aeval, updO, upd, initE, gdst, thenQ, blockQ, srcOk, Array.isEmpty, List.isEmpty, bytesV, reduceCtorEq, ↓reduceIte, Nat.reduceLT, Nat.reduceLeDiff, Nat.reduceEqDiff, Nat.reduceAdd, Nat.reduceMul, Nat.reducePow, Nat.reduceSub, Int.reduceLT, Int.reduceLE, Int.reduceToNat, RSha582, Tryd.ntmps82, Bool.not_true, Bool.not_false, Bool.false_eq_true, Bool.true_eq_false, false_imp_iff, true_imp_iff, decide_eq_true_eq, decide_eq_false_iff_not]
            refine hY ?_
            clear hX hY X Y
            refine awp_exit ?_
            simp only [thenQ, blockQ, if_true]
            clear hK2 K2
            refine hK _ _ ?_
            clear hK K
            have hfin : L ++ (Sha.lenB l.length).take 8 = Sha.pad l := by
              rw [← hL, hk', Sha.pad, show (Sha.lenB l.length).take 8 = Sha.lenB l.length from rfl]
              simp
            rw [hfin] at fout
            generalize hr6 : E3 0 = r6 at fout
            refine awp_reg_seq ?_
            intro K hK
            simp only [↓DN, UP, implies_true, forall_eq', ne_eq, if_true, if_false, aval, abin, aint, ashift, abool, astr, anil, aun, aconv, aindexAddr, aindex, optInt, aslice, abuiltin, asrc, afill, placeOf, asetAll, undef, aload, apart, AV.cells, AV.one, aeval, updO, upd, initE, gdst, thenQ, blockQ, srcOk, Array.isEmpty, List.isEmpty, bytesV, reduceCtorEq, ↓reduceIte, Nat.reduceLT, Nat.reduceLeDiff, Nat.reduceEqDiff, Nat.reduceAdd, Nat.reduceMul, Nat.reducePow, Nat.reduceSub, Int.reduceLT, Int.reduceLE, Int.reduceToNat, RSha582, Tryd.ntmps82, hr6]
            refine hK _ _ ?_
            clear hK K
            refine awp_ret ?_
            simp only [retQ, AEnds, aresL, ares, List.toList_toArray, ↓upd_same]; try simp only [↓DN, UP, implies_true, forall_eq', ne_eq, if_true, if_false, aval, abin, aint, ashift, abool, astr, anil, aun, aconv, aindexAddr, aindex, optInt, aslice, abuiltin, asrc, afill, placeOf, asetAll, undef, aload, apart, AV.cells, AV.one, aeval, updO, upd, initE, gdst, thenQ, blockQ, srcOk, Array.isEmpty, List.isEmpty, bytesV, reduceCtorEq, ↓reduceIte, Nat.reduceLT, Nat.reduceLeDiff, Nat.reduceEqDiff, Nat.reduceAdd, Nat.reduceMul, Nat.reducePow, Nat.reduceSub, Int.reduceLT, Int.reduceLE, Int.reduceToNat, RSha582, Tryd.ntmps82, atuple_nil, atuple_one, atuple_two, atuple_three, atuple_four, atuple_five]
            exact ⟨_, _, AV.weak.refl _, AS.le.refl _, fout⟩
      · have h56 : L.length % 64 ≠ 56 := by rw [hlen]; unfold Sha.zeros at hk hk'; omega
        have hb := bne_t (show ((L.length % 64 : Nat) : Int) ≠ 56 by omega)
        refine awp_reg_seq ?_
        intro K hK
        simp only [↓DN, UP, implies_true, forall_eq', ne_eq, if_true, if_false, aval, abin, aint, ashift, abool, astr, anil, aun, aconv, aindexAddr, aindex, optInt, aslice, abuiltin, asrc, afill, placeOf, asetAll, undef, aload, apart, AV.cells, AV.one, aeval, updO, upd, initE, gdst, thenQ, blockQ, srcOk, Array.isEmpty, List.isEmpty, bytesV, reduceCtorEq, ↓reduceIte, Nat.reduceLT, Nat.reduceLeDiff, Nat.reduceEqDiff, Nat.reduceAdd, Nat.reduceMul, Nat.reducePow, Nat.reduceSub, Int.reduceLT, Int.reduceLE, Int.reduceToNat, RSha582, Tryd.ntmps82, g0, rem64, hb]
        refine hK _ _ ?_
        clear hK K
        refine awp_cond_k ?_
        intro X Y hX hY
        simp only [↓DN, UP, implies_true, forall_eq', ne_eq, if_true, if_false, aval, abin, aint, ashift, abool, astr, anil, aun, aconv, aindexAddr, aindex, optInt, aslice, abuiltin, asrc, afill, placeOf, asetAll, undef, aload, apart, AV.cells, AV.one, aeval, updO, upd, initE, gdst, thenQ, blockQ, srcOk, Array.isEmpty, List.isEmpty, bytesV, reduceCtorEq, ↓reduceIte, Nat.reduceLT, Nat.reduceLeDiff, Nat.reduceEqDiff, Nat.reduceAdd, Nat.reduceMul, Nat.reducePow, Nat.reduceSub, Int.reduceLT, Int.reduceLE, Int.reduceToNat, RSha582, Tryd.ntmps82, Bool.not_true, Bool.not_false, Bool.false_eq_true, Bool.true_eq_false, false_imp_iff, true_imp_iff, decide_eq_true_eq, decide_eq_false_iff_not, hb]
        refine hX ?_
        clear hX hY X Y
        refine awp_skip ?_
        refine hK2 _ _ ?_
        clear hK2 K2
        refine awp_block ?_
        generalize hr6 : E2 0 = r6 at gout
        refine awp_reg_end ?_
        intro K hK
        simp only [↓DN, UP, implies_true, forall_eq', ne_eq, if_true, if_false, aval, abin, aint, ashift, abool, astr, anil, aun, aconv, aindexAddr, aindex, optInt, aslice, abuiltin, asrc, afill, placeOf, asetAll, undef, aload, apart, AV.cells, AV.one, aeval, updO, upd, initE, gdst, thenQ, blockQ, srcOk, Array.isEmpty, List.isEmpty, bytesV, reduceCtorEq, ↓reduceIte, Nat.reduceLT, Nat.reduceLeDiff, Nat.reduceEqDiff, Nat.reduceAdd, Nat.reduceMul, Nat.reducePow, Nat.reduceSub, Int.reduceLT, Int.reduceLE, Int.reduceToNat, RSha582, Tryd.ntmps82, hr6, List.replicate_one, Nat.lt_irrefl]
        refine aappend_out (ds := [0]) gout rfl rfl T.c5 T.b5 (by rw [hlen]; unfold Sha.zeros at hk; simp; omega) ?_
        intro r2 s2 h2
        have hL2 : L ++ [0] = l ++ [128] ++ List.replicate (k + 1) 0 := by rw [← hL, List.replicate_succ', List.append_assoc _ (List.replicate k 0)]
        rw [hL2] at h2
        refine hK _ _ ?_
        clear hK K
        simp only [thenQ, blockQ, if_true, if_false]
        obtain ⟨t2, e2, q0⟩ := outS_own h2 (by simp)
        refine ⟨⟨k + 1, by omega, by simp only [upd, g3, Nat.reduceEqDiff, ↓reduceIte], by simpa only [upd, ↓reduceIte] using h2⟩, ?_⟩
        rw [hr6] at g0
        simp only [upd, ↓reduceIte, hr6, q0, g0, List.length_append, List.length_replicate, List.length_cons, List.length_nil, hlen]
        omega
  rcases h.2 with ⟨rfl, rfl⟩ | ⟨t, e, _, _, rfl⟩
  · simp only [↓AXq_nil, ↓AXq_cons, pval, List.contains_cons, List.contains_nil, Nat.reduceBEq, Bool.or_false, Bool.or_true, Bool.or_self, Bool.false_eq_true, Bool.false_or, ↓DN, UP, implies_true, forall_eq', ne_eq, if_true, if_false, aval, abin, aint, ashift, abool, astr, anil, aun, aconv, aindexAddr, aindex, optInt, aslice, abuiltin, asrc, afill, placeOf, asetAll, undef, aload, apart, AV.cells, AV.one, aeval, updO, upd, initE, gdst, thenQ, blockQ, srcOk, Array.isEmpty, List.isEmpty, bytesV, reduceCtorEq, ↓reduceIte, Nat.reduceLT, Nat.reduceLeDiff, Nat.reduceEqDiff, Nat.reduceAdd, Nat.reduceMul, Nat.reducePow, Nat.reduceSub, Int.reduceLT, Int.reduceLE, Int.reduceToNat, RSha582, Tryd.ntmps82]
    exact hc _ (by simp only [upd, initE, Nat.reduceEqDiff, ↓reduceIte]; rfl) (by simp only [upd, ↓reduceIte]; rfl)
  · simp only [↓AXq_nil, ↓AXq_cons, pval, List.contains_cons, List.contains_nil, Nat.reduceBEq, Bool.or_false, Bool.or_true, Bool.or_self, Bool.false_eq_true, Bool.false_or, ↓DN, UP, implies_true, forall_eq', ne_eq, if_true, if_false, aval, abin, aint, ashift, abool, astr, anil, aun, aconv, aindexAddr, aindex, optInt, aslice, abuiltin, asrc, afill, placeOf, asetAll, undef, aload, apart, AV.cells, AV.one, aeval, updO, upd, initE, gdst, thenQ, blockQ, srcOk, Array.isEmpty, List.isEmpty, bytesV, reduceCtorEq, ↓reduceIte, Nat.reduceLT, Nat.reduceLeDiff, Nat.reduceEqDiff, Nat.reduceAdd, Nat.reduceMul, Nat.reducePow, Nat.reduceSub, Int.reduceLT, Int.reduceLE, Int.reduceToNat, RSha582, Tryd.ntmps82]
    exact hc _ (by simp only [upd, initE, Nat.reduceEqDiff, ↓reduceIte]; rfl) (by simp only [upd, ↓reduceIte])

end Go.Proofs.YtpakgjmcaefnmaaDoor


