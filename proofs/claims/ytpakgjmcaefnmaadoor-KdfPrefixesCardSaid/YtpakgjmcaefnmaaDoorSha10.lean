/- Contracts of the program's functions, each walked once; the conditions stand in each theorem. -/
import Derived.Test.YtpakgjmcaefnmaaDoorSha9
set_option linter.unusedSimpArgs false
set_option linter.unusedVariables false
set_option autoImplicit false
namespace Go.Proofs.YtpakgjmcaefnmaaDoor
open Go Go.AM Go.Proofs

theorem RSha1080 : type_of% (And.intro (And.intro (And.intro @Tryd.underlying3 (And.intro T.c3 T.g3)) (And.intro (And.intro T.b3 T.z3) (And.intro @Tryd.underlying5 T.c5))) (And.intro (And.intro (And.intro T.g5 T.b5) (And.intro T.z5 @Tryd.underlying9)) (And.intro (And.intro T.c9 T.g9) (And.intro T.b9 T.z9)))) :=
  (And.intro (And.intro (And.intro @Tryd.underlying3 (And.intro T.c3 T.g3)) (And.intro (And.intro T.b3 T.z3) (And.intro @Tryd.underlying5 T.c5))) (And.intro (And.intro (And.intro T.g5 T.b5) (And.intro T.z5 @Tryd.underlying9)) (And.intro (And.intro T.c9 T.g9) (And.intro T.b9 T.z9))))
variable {Γ : Nat → List AV}

def digits : List UInt8 := [48, 49, 50, 51, 52, 53, 54, 55, 56, 57, 97, 98, 99, 100, 101, 102]
def digit (k : Nat) : List UInt8 := (digits.take (k + 1)).drop k
/-- Octets as digits. -/
def hexB (l : List UInt8) : List UInt8 := l.flatMap fun b => digit (b.toNat / 16) ++ digit (b.toNat % 16)
theorem hexB_snoc (l : List UInt8) (b : UInt8) : hexB (l ++ [b]) = hexB l ++ digit (b.toNat / 16) ++ digit (b.toNat % 16) := by
  simp [hexB, List.flatMap_append]
theorem ba_get' (l : List UInt8) (i : Nat) (h : i < l.length) : (ByteArray.mk l.toArray)[i]? = some l[i] := by
  rw [getElem?_pos (ByteArray.mk l.toArray) i (by simpa [bs_size] using h)]
  rfl
theorem u8_quo (b : UInt8) : iquo .u8 (b.toNat : Int) 16 = ((b.toNat / 16 : Nat) : Int) := iquo_u (k := .u8) rfl b.toNat 16 b.toNat_lt
theorem u8_rem (b : UInt8) : irem (b.toNat : Int) 16 = ((b.toNat % 16 : Nat) : Int) := irem_u b.toNat 16
theorem u8_add1 (k : Nat) (h : k < 16) : iadd .u8 (k : Int) 1 = ((k + 1 : Nat) : Int) := by
  have := iadd_u (k := .u8) rfl k 1
  rw [show (1 : Int) = ((1 : Nat) : Int) from rfl, this]
  congr 1
  simp only [IntKind.bits]
  omega

theorem dig_eq (k : Nat) : List.drop k ((48 : UInt8) :: List.take k [49, 50, 51, 52, 53, 54, 55, 56, 57, 97, 98, 99, 100, 101, 102]) = digit k := rfl
theorem digit_len (k : Nat) (h : k < 16) : (digit k).length = 1 := by
  have : ∀ k < 16, (digit k).length = 1 := by decide
  exact this k h
theorem hexB_len (l : List UInt8) : (hexB l).length = 2 * l.length := by
  induction l with
  | nil => rfl
  | cons b l ih =>
    have hb := b.toNat_lt
    have : hexB (b :: l) = digit (b.toNat / 16) ++ digit (b.toNat % 16) ++ hexB l := by simp [hexB]
    rw [this]
    simp only [List.length_append, ih, digit_len _ (show b.toNat / 16 < 16 by omega), digit_len _ (show b.toNat % 16 < 16 by omega), List.length_cons]
    omega
theorem i16_ne : ((16 : Int) = 0) = False := by simp
set_option maxHeartbeats 2000000 in
theorem hex_calls (l : List UInt8) (hl : l.length ≤ 2 ^ 40) (s : AS) :
    ACalls Tryd.prog Γ 80 [.v (.string ⟨l.toArray⟩)] s (fun r s' => r = .v (.string ⟨(hexB l).toArray⟩) ∧ s' = s) := by
  refine acalls_body Tryd.func80 rfl Tryd.ntmps80 Tryd.results80 (by simp) ?_
  refine awp_reg_seq ?_
  intro K hK
  simp only [↓DN, UP, implies_true, forall_eq', ne_eq, if_true, if_false, aval, abin, aint, ashift, abool, astr, anil, aun, aconv, aindexAddr, aindex, optInt, aslice, abuiltin, asrc, afill, placeOf, asetAll, undef, aload, apart, AV.cells, AV.one, aeval, updO, upd, initE, gdst, thenQ, blockQ, srcOk, Array.isEmpty, List.isEmpty, bytesV, reduceCtorEq, ↓reduceIte, Nat.reduceLT, Nat.reduceLeDiff, Nat.reduceEqDiff, Nat.reduceAdd, Nat.reduceMul, Nat.reducePow, Nat.reduceSub, Int.reduceLT, Int.reduceLE, Int.reduceToNat, RSha1080, Tryd.ntmps80]
  refine hK _ _ ?_
  clear hK K
  refine awp_reg_seq ?_
  intro K hK
  simp only [↓DN, UP, implies_true, forall_eq', ne_eq, if_true, if_false, aval, abin, aint, ashift, abool, astr, anil, aun, aconv, aindexAddr, aindex, optInt, aslice, abuiltin, asrc, afill, placeOf, asetAll, undef, aload, apart, AV.cells, AV.one, aeval, updO, upd, initE, gdst, thenQ, blockQ, srcOk, Array.isEmpty, List.isEmpty, bytesV, reduceCtorEq, ↓reduceIte, Nat.reduceLT, Nat.reduceLeDiff, Nat.reduceEqDiff, Nat.reduceAdd, Nat.reduceMul, Nat.reducePow, Nat.reduceSub, Int.reduceLT, Int.reduceLE, Int.reduceToNat, RSha1080, Tryd.ntmps80]
  refine hK _ _ ?_
  clear hK K
  refine awp_seq_k ?_
  intro K hK
  refine awp_reg_seq ?_
  intro K hK
  simp only [↓DN, UP, implies_true, forall_eq', ne_eq, if_true, if_false, aval, abin, aint, ashift, abool, astr, anil, aun, aconv, aindexAddr, aindex, optInt, aslice, abuiltin, asrc, afill, placeOf, asetAll, undef, aload, apart, AV.cells, AV.one, aeval, updO, upd, initE, gdst, thenQ, blockQ, srcOk, Array.isEmpty, List.isEmpty, bytesV, reduceCtorEq, ↓reduceIte, Nat.reduceLT, Nat.reduceLeDiff, Nat.reduceEqDiff, Nat.reduceAdd, Nat.reduceMul, Nat.reducePow, Nat.reduceSub, Int.reduceLT, Int.reduceLE, Int.reduceToNat, RSha1080, Tryd.ntmps80]
  refine hK _ _ ?_
  clear hK K
  refine awp_block ?_
  refine awp_loop (fun E s1 => ∃ i : Nat, i ≤ l.length ∧ E 0 = .v (.string ⟨l.toArray⟩) ∧ E 3 = .v (.string ⟨(hexB (l.take i)).toArray⟩) ∧ E 4 = .v (.int .i64 i) ∧ s1 = s)
    (fun E _ => match E 4 with | .v (.int _ i) => l.length - i.toNat | _ => 0) ?_ ?_
  · exact ⟨0, Nat.zero_le _, by simp [upd, initE], by simp [upd, hexB], by simp [upd], rfl⟩
  · rintro E1 s1 ⟨i, hi, e0, e3, e4, rfl⟩ -
    refine awp_seq_k ?_
    intro K2 hK2
    by_cases hi' : i < l.length
    · have hlt : (i : Int) < (l.length : Int) := by omega
      have hge : (0 : Int) ≤ (i : Int) := by omega
      refine awp_reg_seq ?_
      intro K hK
      simp only [↓DN, UP, implies_true, forall_eq', ne_eq, if_true, if_false, aval, abin, aint, ashift, abool, astr, anil, aun, aconv, aindexAddr, aindex, optInt, aslice, abuiltin, asrc, afill, placeOf, asetAll, undef, aload, apart, AV.cells, AV.one, aeval, updO, upd, initE, gdst, thenQ, blockQ, srcOk, Array.isEmpty, List.isEmpty, bytesV, reduceCtorEq, ↓reduceIte, Nat.reduceLT, Nat.reduceLeDiff, Nat.reduceEqDiff, Nat.reduceAdd, Nat.reduceMul, Nat.reducePow, Nat.reduceSub, Int.reduceLT, Int.reduceLE, Int.reduceToNat, RSha1080, Tryd.ntmps80, e0, e4, bs_size, decide_eq_true hlt]
      refine hK _ _ ?_
      clear hK K
      refine awp_cond_k ?_
      intro X Y hX hY
      simp only [↓DN, UP, implies_true, forall_eq', ne_eq, if_true, if_false, aval, abin, aint, ashift, abool, astr, anil, aun, aconv, aindexAddr, aindex, optInt, aslice, abuiltin, asrc, afill, placeOf, asetAll, undef, aload, apart, AV.cells, AV.one, aeval, updO, upd, initE, gdst, thenQ, blockQ, srcOk, Array.isEmpty, List.isEmpty, bytesV, reduceCtorEq, ↓reduceIte, Nat.reduceLT, Nat.reduceLeDiff, Nat.reduceEqDiff, Nat.reduceAdd, Nat.reduceMul, Nat.reducePow, Nat.reduceSub, Int.reduceLT, Int.reduceLE, Int.reduceToNat, RSha1080, Tryd.ntmps80, Bool.not_true, Bool.not_false, Bool.false_eq_true, Bool.true_eq_false, false_imp_iff, true_imp_iff, decide_eq_true_eq, decide_eq_false_iff_not]
      refine hX ?_
      clear hX hY X Y
      refine awp_skip ?_
      refine hK2 _ _ ?_
      clear hK2 K2
      refine awp_seq_k ?_
      intro K3 hK3
      refine awp_block ?_
      have hget := ba_get' l i hi'
      have hsn : hexB (l.take (i + 1)) = hexB (l.take i) ++ digit (l[i].toNat / 16) ++ digit (l[i].toNat % 16) := by
        rw [List.take_succ_eq_append_getElem hi', hexB_snoc]
      generalize l[i] = b at *
      have hb := b.toNat_lt
      have q1 : (0 : Int) ≤ ((b.toNat / 16 : Nat) : Int) := by omega
      have q2 : ((b.toNat / 16 : Nat) : Int) ≤ ((b.toNat / 16 + 1 : Nat) : Int) := by omega
      have q3 : ((b.toNat / 16 + 1 : Nat) : Int) ≤ ((16 : Nat) : Int) := by omega
      have r1 : (0 : Int) ≤ ((b.toNat % 16 : Nat) : Int) := by omega
      have r2 : ((b.toNat % 16 : Nat) : Int) ≤ ((b.toNat % 16 + 1 : Nat) : Int) := by omega
      have r3 : ((b.toNat % 16 + 1 : Nat) : Int) ≤ ((16 : Nat) : Int) := by omega
      have hd1 := digit_len (b.toNat / 16) (by omega)
      have hd2 := digit_len (b.toNat % 16) (by omega)
      have hhl := hexB_len (l.take i)
      rw [List.length_take] at hhl
      have room1 := i64_room (n := (hexB (l.take i)).length + (digit (b.toNat / 16)).length) (by omega)
      have room2 := i64_room (n := (hexB (l.take i)).length + (digit (b.toNat / 16)).length + (digit (b.toNat % 16)).length) (by omega)
      refine awp_drw_end T.mixed [] (by kernel_rfl) ?_
      intro K hK
      simp only [↓AXq_nil, ↓AXq_cons, pval, List.contains_cons, List.contains_nil, Nat.reduceBEq, Bool.or_false, Bool.or_true, Bool.or_self, Bool.false_eq_true, Bool.false_or, ↓DN, UP, implies_true, forall_eq', ne_eq, if_true, if_false, aval, abin, aint, ashift, abool, astr, anil, aun, aconv, aindexAddr, aindex, optInt, aslice, abuiltin, asrc, afill, placeOf, asetAll, undef, aload, apart, AV.cells, AV.one, aeval, updO, upd, initE, gdst, thenQ, blockQ, srcOk, Array.isEmpty, List.isEmpty, bytesV, reduceCtorEq, ↓reduceIte, Nat.reduceLT, Nat.reduceLeDiff, Nat.reduceEqDiff, Nat.reduceAdd, Nat.reduceMul, Nat.reducePow, Nat.reduceSub, Int.reduceLT, Int.reduceLE, Int.reduceToNat, RSha1080, Tryd.ntmps80, e0, e3, e4, hge, hget, byteV, u8_quo b, u8_rem b, u8_add1 (b.toNat / 16) (by omega), u8_add1 (b.toNat % 16) (by omega), q1, q2, q3, r1, r2, r3, bs_size, i16_ne, dig_eq, room1, room2]
      refine hK _ _ ?_
      clear hK
      simp only [thenQ, blockQ, if_true, if_false]
      refine hK3 _ _ ?_
      clear hK3 K3
      refine awp_reg_end ?_
      intro K hK
      simp only [↓DN, UP, implies_true, forall_eq', ne_eq, if_true, if_false, aval, abin, aint, ashift, abool, astr, anil, aun, aconv, aindexAddr, aindex, optInt, aslice, abuiltin, asrc, afill, placeOf, asetAll, undef, aload, apart, AV.cells, AV.one, aeval, updO, upd, initE, gdst, thenQ, blockQ, srcOk, Array.isEmpty, List.isEmpty, bytesV, reduceCtorEq, ↓reduceIte, Nat.reduceLT, Nat.reduceLeDiff, Nat.reduceEqDiff, Nat.reduceAdd, Nat.reduceMul, Nat.reducePow, Nat.reduceSub, Int.reduceLT, Int.reduceLE, Int.reduceToNat, RSha1080, Tryd.ntmps80, e4, w_succ i (by omega)]
      refine hK _ _ ?_
      clear hK K
      refine ⟨⟨i + 1, by omega, by simp only [upd, e0, Nat.reduceEqDiff, ↓reduceIte], by simp only [upd, Nat.reduceEqDiff, ↓reduceIte]; rw [hsn, List.append_assoc], by simp only [upd, ↓reduceIte], rfl⟩, ?_⟩
      simp only [e4, upd, ↓reduceIte]
      omega
    · have hlt : ¬ (i : Int) < (l.length : Int) := by omega
      obtain rfl : i = l.length := by omega
      rw [List.take_of_length_le (Nat.le_refl _)] at e3
      refine awp_reg_seq ?_
      intro K hK
      simp only [↓DN, UP, implies_true, forall_eq', ne_eq, if_true, if_false, aval, abin, aint, ashift, abool, astr, anil, aun, aconv, aindexAddr, aindex, optInt, aslice, abuiltin, asrc, afill, placeOf, asetAll, undef, aload, apart, AV.cells, AV.one, aeval, updO, upd, initE, gdst, thenQ, blockQ, srcOk, Array.isEmpty, List.isEmpty, bytesV, reduceCtorEq, ↓reduceIte, Nat.reduceLT, Nat.reduceLeDiff, Nat.reduceEqDiff, Nat.reduceAdd, Nat.reduceMul, Nat.reducePow, Nat.reduceSub, Int.reduceLT, Int.reduceLE, Int.reduceToNat, RSha1080, Tryd.ntmps80, e0, e4, bs_size, decide_eq_false hlt]
      refine hK _ _ ?_
      clear hK K
      refine awp_cond_k ?_
      intro X Y hX hY
      simp only [↓DN, UP, implies_true, forall_eq', ne_eq, if_true, if_false, aval, abin, aint, ashift, abool, astr, anil, aun, aconv, aindexAddr, aindex, optInt, aslice, abuiltin, asrc, afill, placeOf, asetAll, undef, aload, apart, AV.cells, AV.one, aeval, updO, upd, initE, gdst, thenQ, blockQ, srcOk, Array.isEmpty, List.isEmpty, bytesV, reduceCtorEq, ↓reduceIte, Nat.reduceLT, Nat.reduceLeDiff, Nat.reduceEqDiff, Nat.reduceAdd, Nat.reduceMul, Nat.reducePow, Nat.reduceSub, Int.reduceLT, Int.reduceLE, Int.reduceToNat, RSha1080, Tryd.ntmps80, Bool.not_true, Bool.not_false, Bool.false_eq_true, Bool.true_eq_false, false_imp_iff, true_imp_iff, decide_eq_true_eq, decide_eq_false_iff_not]
      refine hY ?_
      clear hX hY X Y
      refine awp_exit ?_
      simp only [thenQ, blockQ, if_true]
      clear hK2 K2
      refine hK _ _ ?_
      clear hK K
      refine awp_reg_seq ?_
      intro K hK
      simp only [↓DN, UP, implies_true, forall_eq', ne_eq, if_true, if_false, aval, abin, aint, ashift, abool, astr, anil, aun, aconv, aindexAddr, aindex, optInt, aslice, abuiltin, asrc, afill, placeOf, asetAll, undef, aload, apart, AV.cells, AV.one, aeval, updO, upd, initE, gdst, thenQ, blockQ, srcOk, Array.isEmpty, List.isEmpty, bytesV, reduceCtorEq, ↓reduceIte, Nat.reduceLT, Nat.reduceLeDiff, Nat.reduceEqDiff, Nat.reduceAdd, Nat.reduceMul, Nat.reducePow, Nat.reduceSub, Int.reduceLT, Int.reduceLE, Int.reduceToNat, RSha1080, Tryd.ntmps80, e3]
      refine hK _ _ ?_
      clear hK K
      refine awp_ret ?_
      simp only [retQ, AEnds, aresL, ares, List.toList_toArray, ↓upd_same]; try simp only [↓DN, UP, implies_true, forall_eq', ne_eq, if_true, if_false, aval, abin, aint, ashift, abool, astr, anil, aun, aconv, aindexAddr, aindex, optInt, aslice, abuiltin, asrc, afill, placeOf, asetAll, undef, aload, apart, AV.cells, AV.one, aeval, updO, upd, initE, gdst, thenQ, blockQ, srcOk, Array.isEmpty, List.isEmpty, bytesV, reduceCtorEq, ↓reduceIte, Nat.reduceLT, Nat.reduceLeDiff, Nat.reduceEqDiff, Nat.reduceAdd, Nat.reduceMul, Nat.reducePow, Nat.reduceSub, Int.reduceLT, Int.reduceLE, Int.reduceToNat, RSha1080, Tryd.ntmps80, atuple_nil, atuple_one, atuple_two, atuple_three, atuple_four, atuple_five]
      exact ⟨_, _, AV.weak.refl _, AS.le.refl _, rfl, rfl⟩

end Go.Proofs.YtpakgjmcaefnmaaDoor


