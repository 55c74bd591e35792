/- Contracts of the program's functions, each walked once; the conditions stand in each theorem. -/
import Derived.Test.YtpakgjmcaefnmaaDoorYFacts
import Derived.Test.YtpakgjmcaefnmaaDoorAMp6
import Derived.Test.YtpakgjmcaefnmaaDoorPlSha
set_option linter.unusedSimpArgs false
set_option linter.unusedVariables false
set_option autoImplicit false
namespace Go.Proofs.YtpakgjmcaefnmaaDoor
open Go Go.AM Go.Proofs

theorem RSha1153 : type_of% (And.intro (And.intro (And.intro @Tryd.underlying3 (And.intro T.c3 T.g3)) (And.intro (And.intro T.b3 T.z3) (And.intro @Tryd.underlying99 T.c99))) (And.intro (And.intro (And.intro T.g99 T.b99) (And.intro T.z99 @Tryd.underlying106)) (And.intro (And.intro T.c106 T.g106) (And.intro T.b106 T.z106)))) :=
  (And.intro (And.intro (And.intro @Tryd.underlying3 (And.intro T.c3 T.g3)) (And.intro (And.intro T.b3 T.z3) (And.intro @Tryd.underlying99 T.c99))) (And.intro (And.intro (And.intro T.g99 T.b99) (And.intro T.z99 @Tryd.underlying106)) (And.intro (And.intro T.c106 T.g106) (And.intro T.b106 T.z106))))
theorem RSha1127 : type_of% (And.intro (And.intro (And.intro @Tryd.underlying3 T.c3) (And.intro T.g3 (And.intro T.b3 T.z3))) (And.intro (And.intro @Tryd.underlying99 (And.intro T.c99 T.g99)) (And.intro T.b99 (And.intro T.z99 T.k153)))) :=
  (And.intro (And.intro (And.intro @Tryd.underlying3 T.c3) (And.intro T.g3 (And.intro T.b3 T.z3))) (And.intro (And.intro @Tryd.underlying99 (And.intro T.c99 T.g99)) (And.intro T.b99 (And.intro T.z99 T.k153))))
theorem RSha1152 : type_of% (And.intro (And.intro (And.intro @Tryd.underlying3 T.c3) (And.intro T.g3 (And.intro T.b3 T.z3))) (And.intro (And.intro @Tryd.underlying99 (And.intro T.c99 T.g99)) (And.intro T.b99 (And.intro T.z99 T.k153)))) :=
  (And.intro (And.intro (And.intro @Tryd.underlying3 T.c3) (And.intro T.g3 (And.intro T.b3 T.z3))) (And.intro (And.intro @Tryd.underlying99 (And.intro T.c99 T.g99)) (And.intro T.b99 (And.intro T.z99 T.k153))))
theorem RSha187 : type_of% (And.intro (And.intro (And.intro @Tryd.underlying3 T.c3) (And.intro T.g3 (And.intro T.b3 T.z3))) (And.intro (And.intro @Tryd.underlying99 T.c99) (And.intro T.g99 (And.intro T.b99 T.z99)))) :=
  (And.intro (And.intro (And.intro @Tryd.underlying3 T.c3) (And.intro T.g3 (And.intro T.b3 T.z3))) (And.intro (And.intro @Tryd.underlying99 T.c99) (And.intro T.g99 (And.intro T.b99 T.z99))))
theorem RSha185 : type_of% (And.intro (And.intro (And.intro @Tryd.underlying99 T.c99) (And.intro T.g99 (And.intro T.b99 T.z99))) (And.intro (And.intro @Tryd.underlying107 (And.intro T.c107 T.g107)) (And.intro T.b107 (And.intro T.z107 T.s107)))) :=
  (And.intro (And.intro (And.intro @Tryd.underlying99 T.c99) (And.intro T.g99 (And.intro T.b99 T.z99))) (And.intro (And.intro @Tryd.underlying107 (And.intro T.c107 T.g107)) (And.intro T.b107 (And.intro T.z107 T.s107))))

variable {Γ : Nat → List AV}

/-- A word. -/
abbrev wV (x : Nat) : AV := .v (.int .u32 (x : Int))

theorem neg_i64 (a : Nat) (h : a < 32) : ineg .i64 (a : Int) = -(a : Int) := by
  rw [ineg, IntWalk.i64_in _ (by omega)]
  omega
theorem rot_count (a : Nat) (h0 : 0 < a) (h : a < 32) : iand .u64 (iconv .u64 (-(a : Int))) 31 = ((32 - a : Nat) : Int) := by
  have e : iconv .u64 (-(a : Int)) = ((18446744073709551616 - a : Nat) : Int) := by
    rw [iconv, wrap_u rfl]
    simp only [IntKind.bits]
    omega
  rw [e, show (31 : Int) = ((31 : Nat) : Int) from rfl, iand_u rfl _ _ (by simp only [IntKind.bits]; omega) (by decide)]
  congr 1
  have : (18446744073709551616 - a) &&& 31 = (18446744073709551616 - a) % 2 ^ 5 := Nat.and_two_pow_sub_one_eq_mod _ 5
  rw [this]
  omega

theorem nat_not_neg (a : Nat) : ¬ ((a : Nat) : Int) < 0 := by omega
theorem rot_sub (a : Nat) (h0 : 0 < a) (h : a < 32) : isub .u64 32 ((32 - a : Nat) : Int) = ((a : Nat) : Int) := by
  have := isub_u_le (k := .u64) rfl 32 (32 - a) (by omega) (by decide)
  rw [show (32 : Int) = ((32 : Nat) : Int) from rfl, this]
  congr 1
  omega
theorem rot_val (x a : Nat) (hx : x < 4294967296) (h0 : 0 < a) (h : a < 32) : ior .u32 (ishl .u32 (x : Int) ((32 - a : Nat) : Int)) (ishr .u32 (x : Int) ((a : Nat) : Int)) = ((Sha.rotr x a : Nat) : Int) := by
  rw [ishl_u rfl, ishr_u]
  rw [ior_u rfl _ _ (Nat.mod_lt _ (by decide)) (by simp only [IntKind.bits]; exact Nat.lt_of_le_of_lt (Nat.div_le_self _ _) hx)]
  rw [Sha.rotr, Nat.or_comm]
  simp only [IntKind.bits]
  rw [Nat.min_eq_left (by omega), Nat.min_eq_left (by omega)]
theorem wxor (a b : Nat) (ha : a < 4294967296) (hb : b < 4294967296) : ixor .u32 (a : Int) (b : Int) = ((a ^^^ b : Nat) : Int) := ixor_u rfl a b ha hb
theorem wand (a b : Nat) (ha : a < 4294967296) (hb : b < 4294967296) : iand .u32 (a : Int) (b : Int) = ((a &&& b : Nat) : Int) := iand_u rfl a b ha hb
theorem wor (a b : Nat) (ha : a < 4294967296) (hb : b < 4294967296) : ior .u32 (a : Int) (b : Int) = ((a ||| b : Nat) : Int) := ior_u rfl a b ha hb
theorem wadd (a b : Nat) : iadd .u32 (a : Int) (b : Int) = ((Sha.add32 a b : Nat) : Int) := iadd_u rfl a b
theorem wnot (a : Nat) (ha : a < 4294967296) : inot .u32 (a : Int) = ((4294967295 - a : Nat) : Int) := inot_u rfl a ha
theorem wshr (a c : Nat) (hc : c < 32) : ishr .u32 (a : Int) ((c : Nat) : Int) = ((a / 2 ^ c : Nat) : Int) := by
  rw [ishr_u]
  simp only [IntKind.bits]
  rw [Nat.min_eq_left (by omega)]
theorem wshl (a c : Nat) (hc : c < 32) : ishl .u32 (a : Int) ((c : Nat) : Int) = (((a * 2 ^ c) % 4294967296 : Nat) : Int) := by
  rw [ishl_u rfl]
  simp only [IntKind.bits]
  rw [Nat.min_eq_left (by omega)]

set_option maxHeartbeats 1000000 in
theorem rotl_calls (x a : Nat) (hx : x < 4294967296) (h0 : 0 < a) (h : a < 32) (s : AS) :
    ACalls Tryd.prog Γ 153 [wV x, .v (.int .i64 (-(a : Int)))] s (fun r s' => r = wV (Sha.rotr x a) ∧ s' = s) := by
  refine acalls_body Tryd.func153 rfl Tryd.ntmps153 Tryd.results153 (by simp) ?_
  refine awp_reg_seq ?_
  intro K hK
  simp only [↓DN, UP, implies_true, forall_eq', ne_eq, if_true, if_false, aval, abin, aint, ashift, abool, astr, anil, aun, aconv, aindexAddr, aindex, optInt, aslice, abuiltin, asrc, afill, placeOf, asetAll, undef, aload, apart, AV.cells, AV.one, aeval, updO, upd, initE, gdst, thenQ, blockQ, srcOk, Array.isEmpty, List.isEmpty, bytesV, reduceCtorEq, ↓reduceIte, Nat.reduceLT, Nat.reduceLeDiff, Nat.reduceEqDiff, Nat.reduceAdd, Nat.reduceMul, Nat.reducePow, Nat.reduceSub, Int.reduceLT, Int.reduceLE, Int.reduceToNat, RSha1153, Tryd.ntmps153]
  refine hK _ _ ?_
  clear hK K
  refine awp_reg_seq ?_
  intro K hK
  simp only [↓DN, UP, implies_true, forall_eq', ne_eq, if_true, if_false, aval, abin, aint, ashift, abool, astr, anil, aun, aconv, aindexAddr, aindex, optInt, aslice, abuiltin, asrc, afill, placeOf, asetAll, undef, aload, apart, AV.cells, AV.one, aeval, updO, upd, initE, gdst, thenQ, blockQ, srcOk, Array.isEmpty, List.isEmpty, bytesV, reduceCtorEq, ↓reduceIte, Nat.reduceLT, Nat.reduceLeDiff, Nat.reduceEqDiff, Nat.reduceAdd, Nat.reduceMul, Nat.reducePow, Nat.reduceSub, Int.reduceLT, Int.reduceLE, Int.reduceToNat, RSha1153, Tryd.ntmps153, rot_count a h0 h]
  refine hK _ _ ?_
  clear hK K
  refine awp_reg_seq ?_
  intro K hK
  simp only [↓DN, UP, implies_true, forall_eq', ne_eq, if_true, if_false, aval, abin, aint, ashift, abool, astr, anil, aun, aconv, aindexAddr, aindex, optInt, aslice, abuiltin, asrc, afill, placeOf, asetAll, undef, aload, apart, AV.cells, AV.one, aeval, updO, upd, initE, gdst, thenQ, blockQ, srcOk, Array.isEmpty, List.isEmpty, bytesV, reduceCtorEq, ↓reduceIte, Nat.reduceLT, Nat.reduceLeDiff, Nat.reduceEqDiff, Nat.reduceAdd, Nat.reduceMul, Nat.reducePow, Nat.reduceSub, Int.reduceLT, Int.reduceLE, Int.reduceToNat, RSha1153, Tryd.ntmps153, nat_not_neg, rot_sub a h0 h, rot_val x a hx h0 h]
  refine hK _ _ ?_
  clear hK K
  refine awp_ret ?_
  simp only [retQ, AEnds, aresL, ares, List.toList_toArray, ↓upd_same]; try simp only [↓DN, UP, implies_true, forall_eq', ne_eq, if_true, if_false, aval, abin, aint, ashift, abool, astr, anil, aun, aconv, aindexAddr, aindex, optInt, aslice, abuiltin, asrc, afill, placeOf, asetAll, undef, aload, apart, AV.cells, AV.one, aeval, updO, upd, initE, gdst, thenQ, blockQ, srcOk, Array.isEmpty, List.isEmpty, bytesV, reduceCtorEq, ↓reduceIte, Nat.reduceLT, Nat.reduceLeDiff, Nat.reduceEqDiff, Nat.reduceAdd, Nat.reduceMul, Nat.reducePow, Nat.reduceSub, Int.reduceLT, Int.reduceLE, Int.reduceToNat, RSha1153, Tryd.ntmps153, atuple_nil, atuple_one, atuple_two, atuple_three, atuple_four, atuple_five]
  exact ⟨_, s, AV.weak.refl _, AS.le.refl s, rfl, rfl⟩

set_option maxHeartbeats 1000000 in
theorem turned_calls (x a b c : Nat) (hx : x < 4294967296) (ha0 : 0 < a) (ha : a < 32) (hb0 : 0 < b) (hb : b < 32) (hc0 : 0 < c) (hc : c < 32) (s : AS) :
    ACalls Tryd.prog Γ 127 [wV x, .v (.int .i64 (a : Int)), .v (.int .i64 (b : Int)), .v (.int .i64 (c : Int))] s (fun r s' => r = wV (Sha.sig3 x a b c) ∧ s' = s) := by
  refine acalls_body Tryd.func127 rfl Tryd.ntmps127 Tryd.results127 (by simp) ?_
  refine awp_reg_seq ?_
  intro K hK
  simp only [↓DN, UP, implies_true, forall_eq', ne_eq, if_true, if_false, aval, abin, aint, ashift, abool, astr, anil, aun, aconv, aindexAddr, aindex, optInt, aslice, abuiltin, asrc, afill, placeOf, asetAll, undef, aload, apart, AV.cells, AV.one, aeval, updO, upd, initE, gdst, thenQ, blockQ, srcOk, Array.isEmpty, List.isEmpty, bytesV, reduceCtorEq, ↓reduceIte, Nat.reduceLT, Nat.reduceLeDiff, Nat.reduceEqDiff, Nat.reduceAdd, Nat.reduceMul, Nat.reducePow, Nat.reduceSub, Int.reduceLT, Int.reduceLE, Int.reduceToNat, RSha1127, Tryd.ntmps127]
  refine hK _ _ ?_
  clear hK K
  refine awp_reg_seq ?_
  intro K hK
  simp only [↓DN, UP, implies_true, forall_eq', ne_eq, if_true, if_false, aval, abin, aint, ashift, abool, astr, anil, aun, aconv, aindexAddr, aindex, optInt, aslice, abuiltin, asrc, afill, placeOf, asetAll, undef, aload, apart, AV.cells, AV.one, aeval, updO, upd, initE, gdst, thenQ, blockQ, srcOk, Array.isEmpty, List.isEmpty, bytesV, reduceCtorEq, ↓reduceIte, Nat.reduceLT, Nat.reduceLeDiff, Nat.reduceEqDiff, Nat.reduceAdd, Nat.reduceMul, Nat.reducePow, Nat.reduceSub, Int.reduceLT, Int.reduceLE, Int.reduceToNat, RSha1127, Tryd.ntmps127, neg_i64 a ha]
  refine acallk (rotl_calls x a hx ha0 ha _) ?_
  rintro r s1 ⟨rfl, rfl⟩
  simp only [↓AXq_nil, ↓AXq_cons, pval, List.contains_cons, List.contains_nil, Nat.reduceBEq, Bool.or_false, Bool.or_true, Bool.or_self, Bool.false_eq_true, Bool.false_or, ↓DN, UP, implies_true, forall_eq', ne_eq, if_true, if_false, aval, abin, aint, ashift, abool, astr, anil, aun, aconv, aindexAddr, aindex, optInt, aslice, abuiltin, asrc, afill, placeOf, asetAll, undef, aload, apart, AV.cells, AV.one, aeval, updO, upd, initE, gdst, thenQ, blockQ, srcOk, Array.isEmpty, List.isEmpty, bytesV, reduceCtorEq, ↓reduceIte, Nat.reduceLT, Nat.reduceLeDiff, Nat.reduceEqDiff, Nat.reduceAdd, Nat.reduceMul, Nat.reducePow, Nat.reduceSub, Int.reduceLT, Int.reduceLE, Int.reduceToNat, RSha1127, Tryd.ntmps127, neg_i64 b hb]
  refine acallk (rotl_calls x b hx hb0 hb _) ?_
  rintro r s2 ⟨rfl, rfl⟩
  simp only [↓AXq_nil, ↓AXq_cons, pval, List.contains_cons, List.contains_nil, Nat.reduceBEq, Bool.or_false, Bool.or_true, Bool.or_self, Bool.false_eq_true, Bool.false_or, ↓DN, UP, implies_true, forall_eq', ne_eq, if_true, if_false, aval, abin, aint, ashift, abool, astr, anil, aun, aconv, aindexAddr, aindex, optInt, aslice, abuiltin, asrc, afill, placeOf, asetAll, undef, aload, apart, AV.cells, AV.one, aeval, updO, upd, initE, gdst, thenQ, blockQ, srcOk, Array.isEmpty, List.isEmpty, bytesV, reduceCtorEq, ↓reduceIte, Nat.reduceLT, Nat.reduceLeDiff, Nat.reduceEqDiff, Nat.reduceAdd, Nat.reduceMul, Nat.reducePow, Nat.reduceSub, Int.reduceLT, Int.reduceLE, Int.reduceToNat, RSha1127, Tryd.ntmps127, neg_i64 c hc, wxor _ _ (Sha.rotr_lt a hx) (Sha.rotr_lt b hx)]
  refine acallk (rotl_calls x c hx hc0 hc _) ?_
  rintro r s3 ⟨rfl, rfl⟩
  simp only [↓AXq_nil, ↓AXq_cons, pval, List.contains_cons, List.contains_nil, Nat.reduceBEq, Bool.or_false, Bool.or_true, Bool.or_self, Bool.false_eq_true, Bool.false_or, ↓DN, UP, implies_true, forall_eq', ne_eq, if_true, if_false, aval, abin, aint, ashift, abool, astr, anil, aun, aconv, aindexAddr, aindex, optInt, aslice, abuiltin, asrc, afill, placeOf, asetAll, undef, aload, apart, AV.cells, AV.one, aeval, updO, upd, initE, gdst, thenQ, blockQ, srcOk, Array.isEmpty, List.isEmpty, bytesV, reduceCtorEq, ↓reduceIte, Nat.reduceLT, Nat.reduceLeDiff, Nat.reduceEqDiff, Nat.reduceAdd, Nat.reduceMul, Nat.reducePow, Nat.reduceSub, Int.reduceLT, Int.reduceLE, Int.reduceToNat, RSha1127, Tryd.ntmps127, wxor _ _ (Nat.xor_lt_two_pow (n := 32) (Sha.rotr_lt a hx) (Sha.rotr_lt b hx)) (Sha.rotr_lt c hx)]
  refine hK _ _ ?_
  clear hK K
  refine awp_ret ?_
  simp only [retQ, AEnds, aresL, ares, List.toList_toArray, ↓upd_same]; try simp only [↓DN, UP, implies_true, forall_eq', ne_eq, if_true, if_false, aval, abin, aint, ashift, abool, astr, anil, aun, aconv, aindexAddr, aindex, optInt, aslice, abuiltin, asrc, afill, placeOf, asetAll, undef, aload, apart, AV.cells, AV.one, aeval, updO, upd, initE, gdst, thenQ, blockQ, srcOk, Array.isEmpty, List.isEmpty, bytesV, reduceCtorEq, ↓reduceIte, Nat.reduceLT, Nat.reduceLeDiff, Nat.reduceEqDiff, Nat.reduceAdd, Nat.reduceMul, Nat.reducePow, Nat.reduceSub, Int.reduceLT, Int.reduceLE, Int.reduceToNat, RSha1127, Tryd.ntmps127, atuple_nil, atuple_one, atuple_two, atuple_three, atuple_four, atuple_five]
  exact ⟨_, _, AV.weak.refl _, AS.le.refl _, rfl, rfl⟩

set_option maxHeartbeats 1000000 in
theorem shifted_calls (x a b c : Nat) (hx : x < 4294967296) (ha0 : 0 < a) (ha : a < 32) (hb0 : 0 < b) (hb : b < 32) (hc0 : 0 < c) (hc : c < 32) (s : AS) :
    ACalls Tryd.prog Γ 152 [wV x, .v (.int .i64 (a : Int)), .v (.int .i64 (b : Int)), .v (.int .i64 (c : Int))] s (fun r s' => r = wV (Sha.sig2 x a b c) ∧ s' = s) := by
  refine acalls_body Tryd.func152 rfl Tryd.ntmps152 Tryd.results152 (by simp) ?_
  refine awp_reg_seq ?_
  intro K hK
  simp only [↓DN, UP, implies_true, forall_eq', ne_eq, if_true, if_false, aval, abin, aint, ashift, abool, astr, anil, aun, aconv, aindexAddr, aindex, optInt, aslice, abuiltin, asrc, afill, placeOf, asetAll, undef, aload, apart, AV.cells, AV.one, aeval, updO, upd, initE, gdst, thenQ, blockQ, srcOk, Array.isEmpty, List.isEmpty, bytesV, reduceCtorEq, ↓reduceIte, Nat.reduceLT, Nat.reduceLeDiff, Nat.reduceEqDiff, Nat.reduceAdd, Nat.reduceMul, Nat.reducePow, Nat.reduceSub, Int.reduceLT, Int.reduceLE, Int.reduceToNat, RSha1152, Tryd.ntmps152]
  refine hK _ _ ?_
  clear hK K
  refine awp_drw_seq T.mixed [3, 7] (by kernel_rfl) ?_
  intro K hK
  simp only [↓AXq_nil, ↓AXq_cons, pval, List.contains_cons, List.contains_nil, Nat.reduceBEq, Bool.or_false, Bool.or_true, Bool.or_self, Bool.false_eq_true, Bool.false_or, ↓DN, UP, implies_true, forall_eq', ne_eq, if_true, if_false, aval, abin, aint, ashift, abool, astr, anil, aun, aconv, aindexAddr, aindex, optInt, aslice, abuiltin, asrc, afill, placeOf, asetAll, undef, aload, apart, AV.cells, AV.one, aeval, updO, upd, initE, gdst, thenQ, blockQ, srcOk, Array.isEmpty, List.isEmpty, bytesV, reduceCtorEq, ↓reduceIte, Nat.reduceLT, Nat.reduceLeDiff, Nat.reduceEqDiff, Nat.reduceAdd, Nat.reduceMul, Nat.reducePow, Nat.reduceSub, Int.reduceLT, Int.reduceLE, Int.reduceToNat, RSha1152, Tryd.ntmps152, neg_i64 a ha]
  refine acallk (rotl_calls x a hx ha0 ha _) ?_
  rintro r s1 ⟨rfl, rfl⟩
  simp only [↓AXq_nil, ↓AXq_cons, pval, List.contains_cons, List.contains_nil, Nat.reduceBEq, Bool.or_false, Bool.or_true, Bool.or_self, Bool.false_eq_true, Bool.false_or, ↓DN, UP, implies_true, forall_eq', ne_eq, if_true, if_false, aval, abin, aint, ashift, abool, astr, anil, aun, aconv, aindexAddr, aindex, optInt, aslice, abuiltin, asrc, afill, placeOf, asetAll, undef, aload, apart, AV.cells, AV.one, aeval, updO, upd, initE, gdst, thenQ, blockQ, srcOk, Array.isEmpty, List.isEmpty, bytesV, reduceCtorEq, ↓reduceIte, Nat.reduceLT, Nat.reduceLeDiff, Nat.reduceEqDiff, Nat.reduceAdd, Nat.reduceMul, Nat.reducePow, Nat.reduceSub, Int.reduceLT, Int.reduceLE, Int.reduceToNat, RSha1152, Tryd.ntmps152, neg_i64 b hb]
  refine acallk (rotl_calls x b hx hb0 hb _) ?_
  rintro r s2 ⟨rfl, rfl⟩
  simp only [↓AXq_nil, ↓AXq_cons, pval, List.contains_cons, List.contains_nil, Nat.reduceBEq, Bool.or_false, Bool.or_true, Bool.or_self, Bool.false_eq_true, Bool.false_or, ↓DN, UP, implies_true, forall_eq', ne_eq, if_true, if_false, aval, abin, aint, ashift, abool, astr, anil, aun, aconv, aindexAddr, aindex, optInt, aslice, abuiltin, asrc, afill, placeOf, asetAll, undef, aload, apart, AV.cells, AV.one, aeval, updO, upd, initE, gdst, thenQ, blockQ, srcOk, Array.isEmpty, List.isEmpty, bytesV, reduceCtorEq, ↓reduceIte, Nat.reduceLT, Nat.reduceLeDiff, Nat.reduceEqDiff, Nat.reduceAdd, Nat.reduceMul, Nat.reducePow, Nat.reduceSub, Int.reduceLT, Int.reduceLE, Int.reduceToNat, RSha1152, Tryd.ntmps152, wxor _ _ (Sha.rotr_lt a hx) (Sha.rotr_lt b hx), nat_not_neg, wshr x c hc, wxor _ _ (Nat.xor_lt_two_pow (n := 32) (Sha.rotr_lt a hx) (Sha.rotr_lt b hx)) (Nat.lt_of_le_of_lt (Nat.div_le_self x (2 ^ c)) hx)]
  refine hK _ _ ?_
  clear hK K
  refine awp_ret ?_
  simp only [retQ, AEnds, aresL, ares, List.toList_toArray, ↓upd_same]; try simp only [↓DN, UP, implies_true, forall_eq', ne_eq, if_true, if_false, aval, abin, aint, ashift, abool, astr, anil, aun, aconv, aindexAddr, aindex, optInt, aslice, abuiltin, asrc, afill, placeOf, asetAll, undef, aload, apart, AV.cells, AV.one, aeval, updO, upd, initE, gdst, thenQ, blockQ, srcOk, Array.isEmpty, List.isEmpty, bytesV, reduceCtorEq, ↓reduceIte, Nat.reduceLT, Nat.reduceLeDiff, Nat.reduceEqDiff, Nat.reduceAdd, Nat.reduceMul, Nat.reducePow, Nat.reduceSub, Int.reduceLT, Int.reduceLE, Int.reduceToNat, RSha1152, Tryd.ntmps152, atuple_nil, atuple_one, atuple_two, atuple_three, atuple_four, atuple_five]
  exact ⟨_, _, AV.weak.refl _, AS.le.refl _, rfl, rfl⟩

theorem right_sub (a : Nat) (h : a < 32) : isub .i64 32 ((a : Nat) : Int) = ((32 - a : Nat) : Int) := by
  rw [isub_i64 (by omega)]
  omega
theorem right_val (x a : Nat) (hx : x < 4294967296) (h0 : 0 < a) (h : a < 32) : ior .u32 (ishr .u32 (x : Int) ((a : Nat) : Int)) (ishl .u32 (x : Int) ((32 - a : Nat) : Int)) = ((Sha.rotr x a : Nat) : Int) := by
  rw [wshl x (32 - a) (by omega), wshr x a h, wor _ _ (Nat.lt_of_le_of_lt (Nat.div_le_self _ _) hx) (Nat.mod_lt _ (by decide)), Sha.rotr]

set_option maxHeartbeats 1000000 in
theorem right_calls (x a : Nat) (hx : x < 4294967296) (h0 : 0 < a) (h : a < 32) (s : AS) :
    ACalls Tryd.prog Γ 87 [wV x, .v (.int .i64 (a : Int))] s (fun r s' => r = wV (Sha.rotr x a) ∧ s' = s) := by
  refine acalls_body Tryd.func87 rfl Tryd.ntmps87 Tryd.results87 (by simp) ?_
  refine awp_reg_seq ?_
  intro K hK
  simp only [↓DN, UP, implies_true, forall_eq', ne_eq, if_true, if_false, aval, abin, aint, ashift, abool, astr, anil, aun, aconv, aindexAddr, aindex, optInt, aslice, abuiltin, asrc, afill, placeOf, asetAll, undef, aload, apart, AV.cells, AV.one, aeval, updO, upd, initE, gdst, thenQ, blockQ, srcOk, Array.isEmpty, List.isEmpty, bytesV, reduceCtorEq, ↓reduceIte, Nat.reduceLT, Nat.reduceLeDiff, Nat.reduceEqDiff, Nat.reduceAdd, Nat.reduceMul, Nat.reducePow, Nat.reduceSub, Int.reduceLT, Int.reduceLE, Int.reduceToNat, RSha187, Tryd.ntmps87]
  refine hK _ _ ?_
  clear hK K
  refine awp_drw_seq T.mixed [] (by kernel_rfl) ?_
  intro K hK
  simp only [↓AXq_nil, ↓AXq_cons, pval, List.contains_cons, List.contains_nil, Nat.reduceBEq, Bool.or_false, Bool.or_true, Bool.or_self, Bool.false_eq_true, Bool.false_or, ↓DN, UP, implies_true, forall_eq', ne_eq, if_true, if_false, aval, abin, aint, ashift, abool, astr, anil, aun, aconv, aindexAddr, aindex, optInt, aslice, abuiltin, asrc, afill, placeOf, asetAll, undef, aload, apart, AV.cells, AV.one, aeval, updO, upd, initE, gdst, thenQ, blockQ, srcOk, Array.isEmpty, List.isEmpty, bytesV, reduceCtorEq, ↓reduceIte, Nat.reduceLT, Nat.reduceLeDiff, Nat.reduceEqDiff, Nat.reduceAdd, Nat.reduceMul, Nat.reducePow, Nat.reduceSub, Int.reduceLT, Int.reduceLE, Int.reduceToNat, RSha187, Tryd.ntmps87, nat_not_neg, right_sub a h, right_val x a hx h0 h]
  refine hK _ _ ?_
  clear hK K
  refine awp_ret ?_
  simp only [retQ, AEnds, aresL, ares, List.toList_toArray, ↓upd_same]; try simp only [↓DN, UP, implies_true, forall_eq', ne_eq, if_true, if_false, aval, abin, aint, ashift, abool, astr, anil, aun, aconv, aindexAddr, aindex, optInt, aslice, abuiltin, asrc, afill, placeOf, asetAll, undef, aload, apart, AV.cells, AV.one, aeval, updO, upd, initE, gdst, thenQ, blockQ, srcOk, Array.isEmpty, List.isEmpty, bytesV, reduceCtorEq, ↓reduceIte, Nat.reduceLT, Nat.reduceLeDiff, Nat.reduceEqDiff, Nat.reduceAdd, Nat.reduceMul, Nat.reducePow, Nat.reduceSub, Int.reduceLT, Int.reduceLE, Int.reduceToNat, RSha187, Tryd.ntmps87, atuple_nil, atuple_one, atuple_two, atuple_three, atuple_four, atuple_five]
  exact ⟨_, s, AV.weak.refl _, AS.le.refl s, rfl, rfl⟩

set_option maxHeartbeats 1000000 in
set_option maxRecDepth 100000 in
theorem refK_calls (s : AS) :
    ACalls Tryd.prog Γ 85 [] s (fun r s' => r = .sl 1 64 (Sha.K.map wV) .no ∧ s' = s) := by
  refine acalls_body Tryd.func85 rfl Tryd.ntmps85 Tryd.results85 (by simp) ?_
  refine awp_reg_seq ?_
  intro K hK
  simp only [↓DN, UP, implies_true, forall_eq', ne_eq, if_true, if_false, aval, abin, aint, ashift, abool, astr, anil, aun, aconv, aindexAddr, aindex, optInt, aslice, abuiltin, asrc, afill, placeOf, asetAll, undef, aload, apart, AV.cells, AV.one, aeval, updO, upd, initE, gdst, thenQ, blockQ, srcOk, Array.isEmpty, List.isEmpty, bytesV, reduceCtorEq, ↓reduceIte, Nat.reduceLT, Nat.reduceLeDiff, Nat.reduceEqDiff, Nat.reduceAdd, Nat.reduceMul, Nat.reducePow, Nat.reduceSub, Int.reduceLT, Int.reduceLE, Int.reduceToNat, RSha185, Tryd.ntmps85]
  refine hK _ _ ?_
  clear hK K
  refine awp_reg_seq ?_
  intro K hK
  simp only [↓DN, UP, implies_true, forall_eq', ne_eq, if_true, if_false, aval, abin, aint, ashift, abool, astr, anil, aun, aconv, aindexAddr, aindex, optInt, aslice, abuiltin, asrc, afill, placeOf, asetAll, undef, aload, apart, AV.cells, AV.one, aeval, updO, upd, initE, gdst, thenQ, blockQ, srcOk, Array.isEmpty, List.isEmpty, bytesV, reduceCtorEq, ↓reduceIte, Nat.reduceLT, Nat.reduceLeDiff, Nat.reduceEqDiff, Nat.reduceAdd, Nat.reduceMul, Nat.reducePow, Nat.reduceSub, Int.reduceLT, Int.reduceLE, Int.reduceToNat, RSha185, Tryd.ntmps85]
  refine hK _ _ ?_
  clear hK K
  refine awp_ret ?_
  simp only [retQ, AEnds, aresL, ares, List.toList_toArray, ↓upd_same]; try simp only [↓DN, UP, implies_true, forall_eq', ne_eq, if_true, if_false, aval, abin, aint, ashift, abool, astr, anil, aun, aconv, aindexAddr, aindex, optInt, aslice, abuiltin, asrc, afill, placeOf, asetAll, undef, aload, apart, AV.cells, AV.one, aeval, updO, upd, initE, gdst, thenQ, blockQ, srcOk, Array.isEmpty, List.isEmpty, bytesV, reduceCtorEq, ↓reduceIte, Nat.reduceLT, Nat.reduceLeDiff, Nat.reduceEqDiff, Nat.reduceAdd, Nat.reduceMul, Nat.reducePow, Nat.reduceSub, Int.reduceLT, Int.reduceLE, Int.reduceToNat, RSha185, Tryd.ntmps85, atuple_nil, atuple_one, atuple_two, atuple_three, atuple_four, atuple_five]
  exact ⟨_, s, AV.weak_sl rfl, AS.le.refl s, rfl, rfl⟩

end Go.Proofs.YtpakgjmcaefnmaaDoor


