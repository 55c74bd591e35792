/- Contracts of the program's functions, each walked once; the conditions stand in each theorem. -/
import Derived.Test.YtpakgjmcaefnmaaDoorMac1
set_option linter.unusedSimpArgs false
set_option linter.unusedVariables false
set_option autoImplicit false
namespace Go.Proofs.YtpakgjmcaefnmaaDoor
open Go Go.AM Go.Proofs

theorem RMac227 : type_of% (And.intro (And.intro (And.intro (And.intro @Tryd.underlying3 (And.intro T.c3 T.g3)) (And.intro (And.intro T.b3 T.z3) (And.intro @Tryd.underlying5 T.c5))) (And.intro (And.intro T.g5 (And.intro T.b5 T.z5)) (And.intro (And.intro @Tryd.underlying22 T.c22) (And.intro T.g22 T.b22)))) (And.intro (And.intro (And.intro T.z22 (And.intro T.s22 @Tryd.underlying98)) (And.intro (And.intro T.c98 T.g98) (And.intro T.b98 T.z98))) (And.intro (And.intro (And.intro T.s98 @Tryd.underlying111) (And.intro T.c111 T.g111)) (And.intro (And.intro T.b111 T.k83) (And.intro T.k88 T.k23))))) :=
  (And.intro (And.intro (And.intro (And.intro @Tryd.underlying3 (And.intro T.c3 T.g3)) (And.intro (And.intro T.b3 T.z3) (And.intro @Tryd.underlying5 T.c5))) (And.intro (And.intro T.g5 (And.intro T.b5 T.z5)) (And.intro (And.intro @Tryd.underlying22 T.c22) (And.intro T.g22 T.b22)))) (And.intro (And.intro (And.intro T.z22 (And.intro T.s22 @Tryd.underlying98)) (And.intro (And.intro T.c98 T.g98) (And.intro T.b98 T.z98))) (And.intro (And.intro (And.intro T.s98 @Tryd.underlying111) (And.intro T.c111 T.g111)) (And.intro (And.intro T.b111 T.k83) (And.intro T.k88 T.k23)))))

variable {Γ : Nat → List AV}

theorem _root_.Go.AM.OutS.under {s s1 s2 : AS} {l : List UInt8} {r : AV} (h : OutS s1 l r s2) (hle : s.le s1) : OutS s l r s2 := by
  refine ⟨AS.le.trans hle h.1, ?_⟩
  rcases h.2 with h | ⟨t, e, h1, h2, h3⟩
  · exact .inl h
  · refine .inr ⟨t, e, ?_, h2, h3⟩
    cases hs : s.own t with
    | none => rfl
    | some g => rw [hle.own t g hs] at h1; cases h1

theorem z111 : zcells Tryd.prog 111 = some (List.replicate 64 (.v (.int .u8 0))) := by kernel_rfl

set_option maxHeartbeats 2000000 in
set_option maxRecDepth 100000 in
theorem macTag_calls (hG0 : Γ 0 = stC Sha.H0) (hG : Γ 1 = Sha.K.map wV) (key : List UInt8) (ls : List (List UInt8)) (sp : Sp) (hk : key.length ≤ 2 ^ 38) (hn : ls.length ≤ 2 ^ 38) (hl : ls.flatten.length ≤ 2 ^ 38) (s : AS) :
    ACalls Tryd.prog Γ 27 [bytesV key .any, .sl 1 ls.length (PartsB ls) sp] s (fun r s' => OutS s (Mac.tag key ls.flatten) r s') := by
  refine acalls_body Tryd.func27 rfl Tryd.ntmps27 Tryd.results27 (by simp) ?_
  refine awp_reg_seq ?_
  intro K hK
  simp only [↓DN, UP, implies_true, forall_eq', ne_eq, if_true, if_false, aval, abin, aint, ashift, abool, astr, anil, aun, aconv, aindexAddr, aindex, optInt, aslice, abuiltin, asrc, afill, placeOf, asetAll, undef, aload, apart, AV.cells, AV.one, aeval, updO, upd, initE, gdst, thenQ, blockQ, srcOk, Array.isEmpty, List.isEmpty, bytesV, reduceCtorEq, ↓reduceIte, Nat.reduceLT, Nat.reduceLeDiff, Nat.reduceEqDiff, Nat.reduceAdd, Nat.reduceMul, Nat.reducePow, Nat.reduceSub, Int.reduceLT, Int.reduceLE, Int.reduceToNat, RMac227, Tryd.ntmps27]
  refine hK _ _ ?_
  clear hK K
  refine awp_seq_k ?_
  intro K hK
  have hgo : ∀ (E1 : Env) (s1 : AS) (sp1 : Sp), E1 0 = .sl 1 (Mac.key key).length ((Mac.key key).map byteV) sp1 → E1 1 = .sl 1 ls.length (PartsB ls) sp → s.le s1 → K E1 s1 := by
    intro E1 s1 sp1 e0 e1 hle
    refine hK _ _ ?_
    clear hK K
    have hkl := Mac.key_le key
    generalize hkk : Mac.key key = kk at *
    refine awp_reg_seq ?_
    intro K hK
    simp only [↓DN, UP, implies_true, forall_eq', ne_eq, if_true, if_false, aval, abin, aint, ashift, abool, astr, anil, aun, aconv, aindexAddr, aindex, optInt, aslice, abuiltin, asrc, afill, placeOf, asetAll, undef, aload, apart, AV.cells, AV.one, aeval, updO, upd, initE, gdst, thenQ, blockQ, srcOk, Array.isEmpty, List.isEmpty, bytesV, reduceCtorEq, ↓reduceIte, Nat.reduceLT, Nat.reduceLeDiff, Nat.reduceEqDiff, Nat.reduceAdd, Nat.reduceMul, Nat.reducePow, Nat.reduceSub, Int.reduceLT, Int.reduceLE, Int.reduceToNat, RMac227, Tryd.ntmps27, z111]
    intro o ho
    refine hK _ _ ?_
    clear hK K
    have h0 : (0 : Int) ≤ ((64 : Nat) : Int) := by decide
    have htk : (kk.map byteV).take kk.length = kk.map byteV := List.take_of_length_le (by simp)
    have hmin : min kk.length 64 = kk.length := Nat.min_eq_left hkl
    have hfr : asetAll (List.replicate 64 (.v (.int .u8 0))) 0 (kk.map byteV) = (Mac.fill kk).map byteV := Mac.fill_front kk hkl
    refine awp_reg_seq ?_
    intro K hK
    simp only [↓DN, UP, implies_true, forall_eq', ne_eq, if_true, if_false, aval, abin, aint, ashift, abool, astr, anil, aun, aconv, aindexAddr, aindex, optInt, aslice, abuiltin, asrc, afill, placeOf, asetAll, undef, aload, apart, AV.cells, AV.one, aeval, updO, upd, initE, gdst, thenQ, blockQ, srcOk, Array.isEmpty, List.isEmpty, bytesV, reduceCtorEq, ↓reduceIte, Nat.reduceLT, Nat.reduceLeDiff, Nat.reduceEqDiff, Nat.reduceAdd, Nat.reduceMul, Nat.reducePow, Nat.reduceSub, Int.reduceLT, Int.reduceLE, Int.reduceToNat, RMac227, Tryd.ntmps27, e0, h0, Int.le_refl, ite_self, hmin, htk, hfr, List.length_replicate, hkl]
    refine hK _ _ ?_
    clear hK K
    have hfl := Mac.fill_len kk hkl
    have hfl0 : ((Mac.fill kk).map byteV).length = 64 := by rw [List.length_map, hfl]
    have htf : ((Mac.fill kk).map byteV).take 64 = (Mac.fill kk).map byteV := List.take_of_length_le (by omega)
    have rep2 : ∀ x : AV, List.replicate 2 x = [x, x] := fun _ => rfl
    generalize hb : Mac.fill kk = bl at *
    have ht1 := macTurned_calls (Γ := Γ) bl hfl 54
    have ht2 := macTurned_calls (Γ := Γ) bl hfl 92
    have tl1 : (Mac.turn 54 bl).length = 64 := by rw [Mac.turn_len, hfl]
    have tl2 : (Mac.turn 92 bl).length = 64 := by rw [Mac.turn_len, hfl]
    rw [show byteV 54 = .v (.int .u8 54) from rfl] at ht1
    rw [show byteV 92 = .v (.int .u8 92) from rfl] at ht2
    refine awp_reg_seq ?_
    intro K hK
    simp only [↓DN, UP, implies_true, forall_eq', ne_eq, if_true, if_false, aval, abin, aint, ashift, abool, astr, anil, aun, aconv, aindexAddr, aindex, optInt, aslice, abuiltin, asrc, afill, placeOf, asetAll, undef, aload, apart, AV.cells, AV.one, aeval, updO, upd, initE, gdst, thenQ, blockQ, srcOk, Array.isEmpty, List.isEmpty, bytesV, reduceCtorEq, ↓reduceIte, Nat.reduceLT, Nat.reduceLeDiff, Nat.reduceEqDiff, Nat.reduceAdd, Nat.reduceMul, Nat.reducePow, Nat.reduceSub, Int.reduceLT, Int.reduceLE, Int.reduceToNat, RMac227, Tryd.ntmps27, htf, hfl0, Nat.le_refl]
    refine acallk (ht1 _) ?_
    intro r s2 hout
    have hle2 : s.le s2 := (AS.le.trans hle (AS.le_set (AS.le.refl s1) ho _)).trans hout.1
    have ho2 : s2.objs o = some (bl.map byteV) := hout.1.objs _ _ (AS.set_objs_same _ _ _)
    have hw1 := hout.weak
    obtain ⟨t1, g1, rfl⟩ := outS_own hout (by rw [← List.length_pos_iff, tl1]; decide)
    clear hout
    simp only [↓AXq_nil, ↓AXq_cons, pval, List.contains_cons, List.contains_nil, Nat.reduceBEq, Bool.or_false, Bool.or_true, Bool.or_self, Bool.false_eq_true, Bool.false_or, ↓DN, UP, implies_true, forall_eq', ne_eq, if_true, if_false, aval, abin, aint, ashift, abool, astr, anil, aun, aconv, aindexAddr, aindex, optInt, aslice, abuiltin, asrc, afill, placeOf, asetAll, undef, aload, apart, AV.cells, AV.one, aeval, updO, upd, initE, gdst, thenQ, blockQ, srcOk, Array.isEmpty, List.isEmpty, bytesV, reduceCtorEq, ↓reduceIte, Nat.reduceLT, Nat.reduceLeDiff, Nat.reduceEqDiff, Nat.reduceAdd, Nat.reduceMul, Nat.reducePow, Nat.reduceSub, Int.reduceLT, Int.reduceLE, Int.reduceToNat, RMac227, Tryd.ntmps27, e1]
    refine acallk (concat_calls ls sp (by omega) (by omega) _) ?_
    intro r s3 hout
    have hle3 : s.le s3 := AS.le.trans hle2 hout.1
    have ho3 : s3.objs o = some (bl.map byteV) := hout.1.objs _ _ ho2
    have hw2 := hout.weak
    have hs1 := sum_calls (Γ := Γ) hG0 hG [Mac.turn 54 bl, ls.flatten] .new (by simp) (by simp only [List.flatten_cons, List.flatten_nil, List.append_nil, List.length_append, tl1]; omega) s3
    rw [show [Mac.turn 54 bl, ls.flatten].flatten = Mac.turn 54 bl ++ ls.flatten from by simp] at hs1
    have hin : Sha.sum (Mac.turn 54 bl ++ ls.flatten) = Mac.inner key ls.flatten := by rw [Mac.inner, hkk, hb]
    have htag : Sha.sum (Mac.turn 92 bl ++ Mac.inner key ls.flatten) = Mac.tag key ls.flatten := by rw [Mac.tag, hkk, hb]
    rw [hin] at hs1
    have hpost : ∀ (E2 : Env) (s4 : AS) (r : AV), E2 5 = .ptr o 0 → E2 6 = r → OutS s3 (Mac.inner key ls.flatten) r s4 → K E2 s4 := by
      intro E2 s4 r g5 g6 hout
      refine hK _ _ ?_
      clear hK K
      have hle4 : s.le s4 := AS.le.trans hle3 hout.1
      have ho4 : s4.objs o = some (bl.map byteV) := hout.1.objs _ _ ho3
      have hw3 := hout.weak
      have hil := Mac.inner_len key ls.flatten
      obtain ⟨t3, g3, rfl⟩ := outS_own hout (by rw [← List.length_pos_iff, hil]; decide)
      clear hout
      refine awp_reg_seq ?_
      intro K hK
      simp only [↓DN, UP, implies_true, forall_eq', ne_eq, if_true, if_false, aval, abin, aint, ashift, abool, astr, anil, aun, aconv, aindexAddr, aindex, optInt, aslice, abuiltin, asrc, afill, placeOf, asetAll, undef, aload, apart, AV.cells, AV.one, aeval, updO, upd, initE, gdst, thenQ, blockQ, srcOk, Array.isEmpty, List.isEmpty, bytesV, reduceCtorEq, ↓reduceIte, Nat.reduceLT, Nat.reduceLeDiff, Nat.reduceEqDiff, Nat.reduceAdd, Nat.reduceMul, Nat.reducePow, Nat.reduceSub, Int.reduceLT, Int.reduceLE, Int.reduceToNat, RMac227, Tryd.ntmps27, g5, ho4, htf, hfl0, Nat.le_refl]
      refine acallk (ht2 _) ?_
      intro r s5 hout
      have hw4 := hout.weak
      have hle5 : s.le s5 := AS.le.trans hle4 hout.1
      obtain ⟨t4, g4, rfl⟩ := outS_own hout (by rw [← List.length_pos_iff, tl2]; decide)
      clear hout
      have hs2 := sum_calls (Γ := Γ) hG0 hG [Mac.turn 92 bl, Mac.inner key ls.flatten] .new (by simp) (by simp only [List.flatten_cons, List.flatten_nil, List.append_nil, List.length_append, tl2, hil]; omega) s5
      rw [show [Mac.turn 92 bl, Mac.inner key ls.flatten].flatten = Mac.turn 92 bl ++ Mac.inner key ls.flatten from by simp, htag] at hs2
      simp only [↓AXq_nil, ↓AXq_cons, pval, List.contains_cons, List.contains_nil, Nat.reduceBEq, Bool.or_false, Bool.or_true, Bool.or_self, Bool.false_eq_true, Bool.false_or, ↓DN, UP, implies_true, forall_eq', ne_eq, if_true, if_false, aval, abin, aint, ashift, abool, astr, anil, aun, aconv, aindexAddr, aindex, optInt, aslice, abuiltin, asrc, afill, placeOf, asetAll, undef, aload, apart, AV.cells, AV.one, aeval, updO, upd, initE, gdst, thenQ, blockQ, srcOk, Array.isEmpty, List.isEmpty, bytesV, reduceCtorEq, ↓reduceIte, Nat.reduceLT, Nat.reduceLeDiff, Nat.reduceEqDiff, Nat.reduceAdd, Nat.reduceMul, Nat.reducePow, Nat.reduceSub, Int.reduceLT, Int.reduceLE, Int.reduceToNat, RMac227, Tryd.ntmps27, g6, rep2]
      refine acallk (ACalls.weaks (AVs.weak.cons (AV.weak_slc (AVs.weak.cons hw4 (AVs.weak.cons hw3 AVs.weak.nil))) AVs.weak.nil) hs2) ?_
      intro r s6 hout
      simp only [↓AXq_nil, ↓AXq_cons, pval, List.contains_cons, List.contains_nil, Nat.reduceBEq, Bool.or_false, Bool.or_true, Bool.or_self, Bool.false_eq_true, Bool.false_or, ↓DN, UP, implies_true, forall_eq', ne_eq, if_true, if_false, aval, abin, aint, ashift, abool, astr, anil, aun, aconv, aindexAddr, aindex, optInt, aslice, abuiltin, asrc, afill, placeOf, asetAll, undef, aload, apart, AV.cells, AV.one, aeval, updO, upd, initE, gdst, thenQ, blockQ, srcOk, Array.isEmpty, List.isEmpty, bytesV, reduceCtorEq, ↓reduceIte, Nat.reduceLT, Nat.reduceLeDiff, Nat.reduceEqDiff, Nat.reduceAdd, Nat.reduceMul, Nat.reducePow, Nat.reduceSub, Int.reduceLT, Int.reduceLE, Int.reduceToNat, RMac227, Tryd.ntmps27]
      refine hK _ _ ?_
      clear hK K
      refine awp_ret ?_
      simp only [retQ, AEnds, aresL, ares, List.toList_toArray, ↓upd_same]; try simp only [↓DN, UP, implies_true, forall_eq', ne_eq, if_true, if_false, aval, abin, aint, ashift, abool, astr, anil, aun, aconv, aindexAddr, aindex, optInt, aslice, abuiltin, asrc, afill, placeOf, asetAll, undef, aload, apart, AV.cells, AV.one, aeval, updO, upd, initE, gdst, thenQ, blockQ, srcOk, Array.isEmpty, List.isEmpty, bytesV, reduceCtorEq, ↓reduceIte, Nat.reduceLT, Nat.reduceLeDiff, Nat.reduceEqDiff, Nat.reduceAdd, Nat.reduceMul, Nat.reducePow, Nat.reduceSub, Int.reduceLT, Int.reduceLE, Int.reduceToNat, RMac227, Tryd.ntmps27, atuple_nil, atuple_one, atuple_two, atuple_three, atuple_four, atuple_five]
      exact ⟨_, _, AV.weak.refl _, AS.le.refl _, hout.under hle5⟩
    rcases hout.2 with ⟨_, rfl⟩ | ⟨t2, g2, _, _, rfl⟩
    all_goals
      simp only [↓AXq_nil, ↓AXq_cons, pval, List.contains_cons, List.contains_nil, Nat.reduceBEq, Bool.or_false, Bool.or_true, Bool.or_self, Bool.false_eq_true, Bool.false_or, ↓DN, UP, implies_true, forall_eq', ne_eq, if_true, if_false, aval, abin, aint, ashift, abool, astr, anil, aun, aconv, aindexAddr, aindex, optInt, aslice, abuiltin, asrc, afill, placeOf, asetAll, undef, aload, apart, AV.cells, AV.one, aeval, updO, upd, initE, gdst, thenQ, blockQ, srcOk, Array.isEmpty, List.isEmpty, bytesV, reduceCtorEq, ↓reduceIte, Nat.reduceLT, Nat.reduceLeDiff, Nat.reduceEqDiff, Nat.reduceAdd, Nat.reduceMul, Nat.reducePow, Nat.reduceSub, Int.reduceLT, Int.reduceLE, Int.reduceToNat, RMac227, Tryd.ntmps27, rep2]
      refine acallk (ACalls.weaks (AVs.weak.cons (AV.weak_slc (AVs.weak.cons hw1 (AVs.weak.cons hw2 AVs.weak.nil))) AVs.weak.nil) hs1) ?_
      intro r s4 hout
      simp only [↓AXq_nil, ↓AXq_cons, pval, List.contains_cons, List.contains_nil, Nat.reduceBEq, Bool.or_false, Bool.or_true, Bool.or_self, Bool.false_eq_true, Bool.false_or, ↓DN, UP, implies_true, forall_eq', ne_eq, if_true, if_false, aval, abin, aint, ashift, abool, astr, anil, aun, aconv, aindexAddr, aindex, optInt, aslice, abuiltin, asrc, afill, placeOf, asetAll, undef, aload, apart, AV.cells, AV.one, aeval, updO, upd, initE, gdst, thenQ, blockQ, srcOk, Array.isEmpty, List.isEmpty, bytesV, reduceCtorEq, ↓reduceIte, Nat.reduceLT, Nat.reduceLeDiff, Nat.reduceEqDiff, Nat.reduceAdd, Nat.reduceMul, Nat.reducePow, Nat.reduceSub, Int.reduceLT, Int.reduceLE, Int.reduceToNat, RMac227, Tryd.ntmps27]
      refine hpost _ _ r ?_ ?_ hout
      · simp only [upd, Nat.reduceEqDiff, ↓reduceIte]
      · simp only [upd, ↓reduceIte]
  by_cases hlong : 64 < key.length
  · have hkey : Mac.key key = Sha.sum key := by rw [Mac.key, if_pos hlong]
    rw [hkey] at hgo
    refine awp_reg_seq ?_
    intro K hK
    simp only [↓DN, UP, implies_true, forall_eq', ne_eq, if_true, if_false, aval, abin, aint, ashift, abool, astr, anil, aun, aconv, aindexAddr, aindex, optInt, aslice, abuiltin, asrc, afill, placeOf, asetAll, undef, aload, apart, AV.cells, AV.one, aeval, updO, upd, initE, gdst, thenQ, blockQ, srcOk, Array.isEmpty, List.isEmpty, bytesV, reduceCtorEq, ↓reduceIte, Nat.reduceLT, Nat.reduceLeDiff, Nat.reduceEqDiff, Nat.reduceAdd, Nat.reduceMul, Nat.reducePow, Nat.reduceSub, Int.reduceLT, Int.reduceLE, Int.reduceToNat, RMac227, Tryd.ntmps27, decide_eq_true (show (64 : Int) < (key.length : Int) by omega)]
    refine hK _ _ ?_
    clear hK K
    refine awp_cond_k ?_
    intro X Y hX hY
    simp only [↓DN, UP, implies_true, forall_eq', ne_eq, if_true, if_false, aval, abin, aint, ashift, abool, astr, anil, aun, aconv, aindexAddr, aindex, optInt, aslice, abuiltin, asrc, afill, placeOf, asetAll, undef, aload, apart, AV.cells, AV.one, aeval, updO, upd, initE, gdst, thenQ, blockQ, srcOk, Array.isEmpty, List.isEmpty, bytesV, reduceCtorEq, ↓reduceIte, Nat.reduceLT, Nat.reduceLeDiff, Nat.reduceEqDiff, Nat.reduceAdd, Nat.reduceMul, Nat.reducePow, Nat.reduceSub, Int.reduceLT, Int.reduceLE, Int.reduceToNat, RMac227, Tryd.ntmps27, Bool.not_true, Bool.not_false, Bool.false_eq_true, Bool.true_eq_false, false_imp_iff, true_imp_iff, decide_eq_true_eq, decide_eq_false_iff_not]
    refine hX ?_
    clear hX hY X Y
    refine awp_reg_end ?_
    intro K hK
    simp only [↓DN, UP, implies_true, forall_eq', ne_eq, if_true, if_false, aval, abin, aint, ashift, abool, astr, anil, aun, aconv, aindexAddr, aindex, optInt, aslice, abuiltin, asrc, afill, placeOf, asetAll, undef, aload, apart, AV.cells, AV.one, aeval, updO, upd, initE, gdst, thenQ, blockQ, srcOk, Array.isEmpty, List.isEmpty, bytesV, reduceCtorEq, ↓reduceIte, Nat.reduceLT, Nat.reduceLeDiff, Nat.reduceEqDiff, Nat.reduceAdd, Nat.reduceMul, Nat.reducePow, Nat.reduceSub, Int.reduceLT, Int.reduceLE, Int.reduceToNat, RMac227, Tryd.ntmps27, List.replicate_one]
    have hs0 := sum_calls (Γ := Γ) hG0 hG [key] .new (by simp) (by simp; omega) s
    rw [show [key].flatten = key from by simp] at hs0
    refine acallk hs0 ?_
    intro r s1 hout
    obtain ⟨t, g, rfl⟩ := outS_own hout (by rw [← List.length_pos_iff, Sha.sum_length]; decide)
    simp only [↓AXq_nil, ↓AXq_cons, pval, List.contains_cons, List.contains_nil, Nat.reduceBEq, Bool.or_false, Bool.or_true, Bool.or_self, Bool.false_eq_true, Bool.false_or, ↓DN, UP, implies_true, forall_eq', ne_eq, if_true, if_false, aval, abin, aint, ashift, abool, astr, anil, aun, aconv, aindexAddr, aindex, optInt, aslice, abuiltin, asrc, afill, placeOf, asetAll, undef, aload, apart, AV.cells, AV.one, aeval, updO, upd, initE, gdst, thenQ, blockQ, srcOk, Array.isEmpty, List.isEmpty, bytesV, reduceCtorEq, ↓reduceIte, Nat.reduceLT, Nat.reduceLeDiff, Nat.reduceEqDiff, Nat.reduceAdd, Nat.reduceMul, Nat.reducePow, Nat.reduceSub, Int.reduceLT, Int.reduceLE, Int.reduceToNat, RMac227, Tryd.ntmps27]
    refine hK _ _ ?_
    clear hK K
    simp only [thenQ]
    refine hgo _ _ (.own t g) ?_ ?_ hout.1
    · simp only [upd, ↓reduceIte]
    · simp only [upd, initE, Nat.reduceEqDiff, ↓reduceIte, List.getD_cons_succ, List.getD_cons_zero]
  · have hkey : Mac.key key = key := by rw [Mac.key, if_neg hlong]
    rw [hkey] at hgo
    refine awp_reg_seq ?_
    intro K hK
    simp only [↓DN, UP, implies_true, forall_eq', ne_eq, if_true, if_false, aval, abin, aint, ashift, abool, astr, anil, aun, aconv, aindexAddr, aindex, optInt, aslice, abuiltin, asrc, afill, placeOf, asetAll, undef, aload, apart, AV.cells, AV.one, aeval, updO, upd, initE, gdst, thenQ, blockQ, srcOk, Array.isEmpty, List.isEmpty, bytesV, reduceCtorEq, ↓reduceIte, Nat.reduceLT, Nat.reduceLeDiff, Nat.reduceEqDiff, Nat.reduceAdd, Nat.reduceMul, Nat.reducePow, Nat.reduceSub, Int.reduceLT, Int.reduceLE, Int.reduceToNat, RMac227, Tryd.ntmps27, decide_eq_false (show ¬ (64 : Int) < (key.length : Int) by omega)]
    refine hK _ _ ?_
    clear hK K
    refine awp_cond_k ?_
    intro X Y hX hY
    simp only [↓DN, UP, implies_true, forall_eq', ne_eq, if_true, if_false, aval, abin, aint, ashift, abool, astr, anil, aun, aconv, aindexAddr, aindex, optInt, aslice, abuiltin, asrc, afill, placeOf, asetAll, undef, aload, apart, AV.cells, AV.one, aeval, updO, upd, initE, gdst, thenQ, blockQ, srcOk, Array.isEmpty, List.isEmpty, bytesV, reduceCtorEq, ↓reduceIte, Nat.reduceLT, Nat.reduceLeDiff, Nat.reduceEqDiff, Nat.reduceAdd, Nat.reduceMul, Nat.reducePow, Nat.reduceSub, Int.reduceLT, Int.reduceLE, Int.reduceToNat, RMac227, Tryd.ntmps27, Bool.not_true, Bool.not_false, Bool.false_eq_true, Bool.true_eq_false, false_imp_iff, true_imp_iff, decide_eq_true_eq, decide_eq_false_iff_not]
    refine hY ?_
    clear hX hY X Y
    refine awp_skip ?_
    simp only [thenQ]
    refine hgo _ _ .any ?_ ?_ (AS.le.refl s)
    · simp only [upd, initE, Nat.reduceEqDiff, ↓reduceIte, List.getD_cons_succ, List.getD_cons_zero, bytesV]
    · simp only [upd, initE, Nat.reduceEqDiff, ↓reduceIte, List.getD_cons_succ, List.getD_cons_zero]

end Go.Proofs.YtpakgjmcaefnmaaDoor


