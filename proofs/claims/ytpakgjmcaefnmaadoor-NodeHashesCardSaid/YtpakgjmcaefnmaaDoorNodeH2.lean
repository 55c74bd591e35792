/- Contracts of the program's functions, each walked once; the conditions stand in each theorem. -/
import Derived.Test.YtpakgjmcaefnmaaDoorNodeH1
set_option linter.unusedSimpArgs false
set_option linter.unusedVariables false
set_option autoImplicit false
namespace Go.Proofs.YtpakgjmcaefnmaaDoor
open Go Go.AM Go.Proofs

theorem RNodeH250 : type_of% (And.intro (And.intro (And.intro (And.intro (And.intro @Tryd.underlying3 T.c3) (And.intro T.g3 (And.intro T.b3 T.z3))) (And.intro (And.intro @Tryd.underlying4 (And.intro T.c4 T.g4)) (And.intro T.b4 (And.intro T.z4 @Tryd.underlying5)))) (And.intro (And.intro (And.intro T.c5 (And.intro T.g5 T.b5)) (And.intro T.z5 (And.intro @Tryd.underlying22 T.c22))) (And.intro (And.intro T.g22 (And.intro T.b22 T.z22)) (And.intro T.s22 (And.intro @Tryd.underlying63 T.c63))))) (And.intro (And.intro (And.intro (And.intro T.g63 T.b63) (And.intro T.z63 (And.intro @Tryd.underlying64 T.c64))) (And.intro (And.intro T.g64 (And.intro T.b64 T.z64)) (And.intro T.s64 (And.intro @Tryd.underlying66 T.c66)))) (And.intro (And.intro (And.intro T.g66 (And.intro T.b66 T.z66)) (And.intro T.h66 (And.intro @Tryd.underlying98 T.c98))) (And.intro (And.intro T.g98 (And.intro T.b98 T.z98)) (And.intro T.s98 (And.intro T.k23 T.k101)))))) :=
  (And.intro (And.intro (And.intro (And.intro (And.intro @Tryd.underlying3 T.c3) (And.intro T.g3 (And.intro T.b3 T.z3))) (And.intro (And.intro @Tryd.underlying4 (And.intro T.c4 T.g4)) (And.intro T.b4 (And.intro T.z4 @Tryd.underlying5)))) (And.intro (And.intro (And.intro T.c5 (And.intro T.g5 T.b5)) (And.intro T.z5 (And.intro @Tryd.underlying22 T.c22))) (And.intro (And.intro T.g22 (And.intro T.b22 T.z22)) (And.intro T.s22 (And.intro @Tryd.underlying63 T.c63))))) (And.intro (And.intro (And.intro (And.intro T.g63 T.b63) (And.intro T.z63 (And.intro @Tryd.underlying64 T.c64))) (And.intro (And.intro T.g64 (And.intro T.b64 T.z64)) (And.intro T.s64 (And.intro @Tryd.underlying66 T.c66)))) (And.intro (And.intro (And.intro T.g66 (And.intro T.b66 T.z66)) (And.intro T.h66 (And.intro @Tryd.underlying98 T.c98))) (And.intro (And.intro T.g98 (And.intro T.b98 T.z98)) (And.intro T.s98 (And.intro T.k23 T.k101))))))
theorem RNodeH251 : type_of% (And.intro (And.intro (And.intro (And.intro (And.intro @Tryd.underlying3 T.c3) (And.intro T.g3 (And.intro T.b3 T.z3))) (And.intro (And.intro @Tryd.underlying4 (And.intro T.c4 T.g4)) (And.intro T.b4 (And.intro T.z4 @Tryd.underlying5)))) (And.intro (And.intro (And.intro T.c5 (And.intro T.g5 T.b5)) (And.intro T.z5 (And.intro @Tryd.underlying22 T.c22))) (And.intro (And.intro T.g22 (And.intro T.b22 T.z22)) (And.intro T.s22 (And.intro @Tryd.underlying63 T.c63))))) (And.intro (And.intro (And.intro (And.intro T.g63 T.b63) (And.intro T.z63 (And.intro @Tryd.underlying64 T.c64))) (And.intro (And.intro T.g64 (And.intro T.b64 T.z64)) (And.intro T.s64 (And.intro @Tryd.underlying66 T.c66)))) (And.intro (And.intro (And.intro T.g66 (And.intro T.b66 T.z66)) (And.intro T.h66 (And.intro @Tryd.underlying98 T.c98))) (And.intro (And.intro T.g98 (And.intro T.b98 T.z98)) (And.intro T.s98 (And.intro T.k23 T.k101)))))) :=
  (And.intro (And.intro (And.intro (And.intro (And.intro @Tryd.underlying3 T.c3) (And.intro T.g3 (And.intro T.b3 T.z3))) (And.intro (And.intro @Tryd.underlying4 (And.intro T.c4 T.g4)) (And.intro T.b4 (And.intro T.z4 @Tryd.underlying5)))) (And.intro (And.intro (And.intro T.c5 (And.intro T.g5 T.b5)) (And.intro T.z5 (And.intro @Tryd.underlying22 T.c22))) (And.intro (And.intro T.g22 (And.intro T.b22 T.z22)) (And.intro T.s22 (And.intro @Tryd.underlying63 T.c63))))) (And.intro (And.intro (And.intro (And.intro T.g63 T.b63) (And.intro T.z63 (And.intro @Tryd.underlying64 T.c64))) (And.intro (And.intro T.g64 (And.intro T.b64 T.z64)) (And.intro T.s64 (And.intro @Tryd.underlying66 T.c66)))) (And.intro (And.intro (And.intro T.g66 (And.intro T.b66 T.z66)) (And.intro T.h66 (And.intro @Tryd.underlying98 T.c98))) (And.intro (And.intro T.g98 (And.intro T.b98 T.z98)) (And.intro T.s98 (And.intro T.k23 T.k101))))))
theorem RNodeH252 : type_of% (And.intro (And.intro (And.intro (And.intro (And.intro @Tryd.underlying3 (And.intro T.c3 T.g3)) (And.intro T.b3 (And.intro T.z3 @Tryd.underlying4))) (And.intro (And.intro T.c4 (And.intro T.g4 T.b4)) (And.intro T.z4 (And.intro @Tryd.underlying5 T.c5)))) (And.intro (And.intro (And.intro T.g5 (And.intro T.b5 T.z5)) (And.intro @Tryd.underlying22 (And.intro T.c22 T.g22))) (And.intro (And.intro T.b22 (And.intro T.z22 T.s22)) (And.intro @Tryd.underlying63 (And.intro T.c63 T.g63))))) (And.intro (And.intro (And.intro (And.intro T.b63 (And.intro T.z63 @Tryd.underlying64)) (And.intro T.c64 (And.intro T.g64 T.b64))) (And.intro (And.intro T.z64 (And.intro T.s64 @Tryd.underlying66)) (And.intro T.c66 (And.intro T.g66 T.b66)))) (And.intro (And.intro (And.intro T.z66 (And.intro T.h66 @Tryd.underlying98)) (And.intro T.c98 (And.intro T.g98 T.b98))) (And.intro (And.intro T.z98 (And.intro T.s98 T.f66_0)) (And.intro T.k23 (And.intro T.k101 T.k106)))))) :=
  (And.intro (And.intro (And.intro (And.intro (And.intro @Tryd.underlying3 (And.intro T.c3 T.g3)) (And.intro T.b3 (And.intro T.z3 @Tryd.underlying4))) (And.intro (And.intro T.c4 (And.intro T.g4 T.b4)) (And.intro T.z4 (And.intro @Tryd.underlying5 T.c5)))) (And.intro (And.intro (And.intro T.g5 (And.intro T.b5 T.z5)) (And.intro @Tryd.underlying22 (And.intro T.c22 T.g22))) (And.intro (And.intro T.b22 (And.intro T.z22 T.s22)) (And.intro @Tryd.underlying63 (And.intro T.c63 T.g63))))) (And.intro (And.intro (And.intro (And.intro T.b63 (And.intro T.z63 @Tryd.underlying64)) (And.intro T.c64 (And.intro T.g64 T.b64))) (And.intro (And.intro T.z64 (And.intro T.s64 @Tryd.underlying66)) (And.intro T.c66 (And.intro T.g66 T.b66)))) (And.intro (And.intro (And.intro T.z66 (And.intro T.h66 @Tryd.underlying98)) (And.intro T.c98 (And.intro T.g98 T.b98))) (And.intro (And.intro T.z98 (And.intro T.s98 T.f66_0)) (And.intro T.k23 (And.intro T.k101 T.k106))))))

variable {Γ : Nat → List AV}

def leafB (number : Int) (N : NodeV) : List UInt8 := 1 :: (be 4 number.toNat ++ N.text)
def branchB (N : NodeV) (l r : List UInt8) : List UInt8 := 2 :: (N.text ++ (l ++ r))
def parentB (N : NodeV) (b : List UInt8) : List UInt8 := 3 :: (be 8 N.key ++ ((be 1 N.parent.length ++ N.parent) ++ b))
def leafD (number : Int) (N : NodeV) : List UInt8 := if N.right ∧ 0 ≤ number ∧ number < 32 then Sha.sum (leafB number N) else []
def branchD (N : NodeV) (l r : List UInt8) : List UInt8 := if N.right then Sha.sum (branchB N l r) else []
def parentD (N : NodeV) (b : List UInt8) : List UInt8 := if N.right ∧ N.kind = 2 then Sha.sum (parentB N b) else []

theorem leaf_pen_good (number : Int) (N : NodeV) (hr : N.right) (h0 : 0 ≤ number) (h1 : number < 4294967296) : nodePen N (penSmall 4 number ([1], false)) = (leafB number N, false) := by
  unfold nodePen penSmall
  rw [if_pos hr, if_pos ⟨h0, by omega⟩]
  simp [penNum, penRaw, leafB]
theorem leaf_pen_bad (number : Int) (N : NodeV) (h : ¬ (N.right ∧ 0 ≤ number ∧ number < 4294967296)) : (nodePen N (penSmall 4 number ([1], false))).2 = true := by
  unfold nodePen
  by_cases hr : N.right
  · rw [if_pos hr]
    have : ¬ (0 ≤ number ∧ number < 2 ^ (8 * 4)) := fun e => h ⟨hr, e.1, by have := e.2; omega⟩
    unfold penSmall
    rw [if_neg this]
    rfl
  · rw [if_neg hr]
theorem nodePen_len (N : NodeV) (st : List UInt8 × Bool) : (nodePen N st).1.length ≤ st.1.length + 100 := by
  unfold nodePen
  split
  · rename_i hr
    have := NodeV.text_len hr
    have := penRaw_len N.text st
    omega
  · simp only; omega

set_option maxHeartbeats 2000000 in
set_option maxRecDepth 100000 in
theorem leafHash_calls (hG0 : Γ 0 = stC Sha.H0) (hG : Γ 1 = Sha.K.map wV) (number : Int) (hn : -9223372036854775808 ≤ number ∧ number ≤ 9223372036854775807) (N : NodeV) (hl : N.unm.length ≤ 2 ^ 61) (s : AS) :
    ACalls Tryd.prog Γ 50 [.v (.int .i64 number), .agg N.cells] s (fun r s' => r = bytesV (leafD number N) .any ∧ s' = s) := by
  refine acalls_body Tryd.func50 rfl Tryd.ntmps50 Tryd.results50 (by simp) ?_
  have hcl := fun s0 s p hp => leafClo_calls (Γ := Γ) number hn N hl s0 s p ([1], false) (by decide) hp
  have hlen : (nodePen N (penSmall 4 number ([1], false))).1.length ≤ 2 ^ 45 := by
    have h1 := nodePen_len N (penSmall 4 number ([1], false))
    have h2 := penSmall_len 4 number ([1], false)
    simp only [List.length_cons, List.length_nil] at h2
    omega
  have hoc := fun s => octets19_calls (Γ := Γ) 1 (by decide) _ _ k102 _ hcl hlen s
  have hgood := leaf_pen_good number N
  have hbad := leaf_pen_bad number N
  have hD : leafD number N = if N.right ∧ 0 ≤ number ∧ number < 32 then Sha.sum (leafB number N) else [] := rfl
  have hBl : N.right → (leafB number N).length ≤ 105 := fun hr => by have := NodeV.text_len hr; simp [leafB]; omega
  clear hcl
  generalize nodePen N (penSmall 4 number ([1], false)) = F at *
  generalize leafD number N = D at *
  generalize leafB number N = B at *
  unfold NodeV.cells at *
  refine awp_reg_frz2 2 3 (by decide) (by decide) (by decide) ?_
  intro K hK
  simp only [↓AXq_nil, ↓AXq_cons, pval, List.contains_cons, List.contains_nil, Nat.reduceBEq, Bool.or_false, Bool.or_true, Bool.or_self, Bool.false_eq_true, Bool.false_or, ↓DN, UP, implies_true, forall_eq', ne_eq, if_true, if_false, aval, abin, aint, ashift, abool, astr, anil, aun, aconv, aindexAddr, aindex, optInt, aslice, abuiltin, asrc, afill, placeOf, asetAll, undef, aload, apart, AV.cells, AV.one, aeval, updO, upd, initE, gdst, thenQ, blockQ, srcOk, Array.isEmpty, List.isEmpty, bytesV, reduceCtorEq, ↓reduceIte, Nat.reduceLT, Nat.reduceLeDiff, Nat.reduceEqDiff, Nat.reduceAdd, Nat.reduceMul, Nat.reducePow, Nat.reduceSub, Int.reduceLT, Int.reduceLE, Int.reduceToNat, RNodeH250, Tryd.ntmps50, intsV]
  intro o1 h1 o2 h2
  refine hK _ _ o1 o2 _ _ (by simp only [upd, Nat.reduceEqDiff, ↓reduceIte]) (by simp only [upd, Nat.reduceEqDiff, ↓reduceIte]) h1 (by rw [AS.set_objs_eq]; exact h2) ?_
  clear hK K h1 h2
  refine awp_reg_seq ?_
  intro K hK
  simp only [↓DN, UP, implies_true, forall_eq', ne_eq, if_true, if_false, aval, abin, aint, ashift, abool, astr, anil, aun, aconv, aindexAddr, aindex, optInt, aslice, abuiltin, asrc, afill, placeOf, asetAll, undef, aload, apart, AV.cells, AV.one, aeval, updO, upd, initE, gdst, thenQ, blockQ, srcOk, Array.isEmpty, List.isEmpty, bytesV, reduceCtorEq, ↓reduceIte, Nat.reduceLT, Nat.reduceLeDiff, Nat.reduceEqDiff, Nat.reduceAdd, Nat.reduceMul, Nat.reducePow, Nat.reduceSub, Int.reduceLT, Int.reduceLE, Int.reduceToNat, RNodeH250, Tryd.ntmps50, intsV]
  refine acallk (hoc _) ?_
  rintro r s1 ⟨rfl, rfl⟩
  by_cases hg : N.right ∧ 0 ≤ number ∧ number < 4294967296
  · have hF := hgood hg.1 hg.2.1 hg.2.2
    rw [hF]
    simp only [↓AXq_nil, ↓AXq_cons, pval, List.contains_cons, List.contains_nil, Nat.reduceBEq, Bool.or_false, Bool.or_true, Bool.or_self, Bool.false_eq_true, Bool.false_or, ↓DN, UP, implies_true, forall_eq', ne_eq, if_true, if_false, aval, abin, aint, ashift, abool, astr, anil, aun, aconv, aindexAddr, aindex, optInt, aslice, abuiltin, asrc, afill, placeOf, asetAll, undef, aload, apart, AV.cells, AV.one, aeval, updO, upd, initE, gdst, thenQ, blockQ, srcOk, Array.isEmpty, List.isEmpty, bytesV, reduceCtorEq, ↓reduceIte, Nat.reduceLT, Nat.reduceLeDiff, Nat.reduceEqDiff, Nat.reduceAdd, Nat.reduceMul, Nat.reducePow, Nat.reduceSub, Int.reduceLT, Int.reduceLE, Int.reduceToNat, RNodeH250, Tryd.ntmps50]
    refine hK _ _ ?_
    clear hK K
    refine awp_seq_k ?_
    intro K hK
    by_cases h32 : number < 32
    · refine awp_reg_seq ?_
      intro K hK
      simp only [↓DN, UP, implies_true, forall_eq', ne_eq, if_true, if_false, aval, abin, aint, ashift, abool, astr, anil, aun, aconv, aindexAddr, aindex, optInt, aslice, abuiltin, asrc, afill, placeOf, asetAll, undef, aload, apart, AV.cells, AV.one, aeval, updO, upd, initE, gdst, thenQ, blockQ, srcOk, Array.isEmpty, List.isEmpty, bytesV, reduceCtorEq, ↓reduceIte, Nat.reduceLT, Nat.reduceLeDiff, Nat.reduceEqDiff, Nat.reduceAdd, Nat.reduceMul, Nat.reducePow, Nat.reduceSub, Int.reduceLT, Int.reduceLE, Int.reduceToNat, RNodeH250, Tryd.ntmps50, decide_eq_false (show ¬ (32 : Int) ≤ number by omega)]
      refine hK _ _ ?_
      clear hK K
      refine awp_cond_k ?_
      intro X Y hX hY
      simp only [↓DN, UP, implies_true, forall_eq', ne_eq, if_true, if_false, aval, abin, aint, ashift, abool, astr, anil, aun, aconv, aindexAddr, aindex, optInt, aslice, abuiltin, asrc, afill, placeOf, asetAll, undef, aload, apart, AV.cells, AV.one, aeval, updO, upd, initE, gdst, thenQ, blockQ, srcOk, Array.isEmpty, List.isEmpty, bytesV, reduceCtorEq, ↓reduceIte, Nat.reduceLT, Nat.reduceLeDiff, Nat.reduceEqDiff, Nat.reduceAdd, Nat.reduceMul, Nat.reducePow, Nat.reduceSub, Int.reduceLT, Int.reduceLE, Int.reduceToNat, RNodeH250, Tryd.ntmps50, Bool.not_true, Bool.not_false, Bool.false_eq_true, Bool.true_eq_false, false_imp_iff, true_imp_iff, decide_eq_true_eq, decide_eq_false_iff_not]
      refine hY ?_
      clear hX hY X Y
      refine awp_skip ?_
      refine hK _ _ ?_
      clear hK K
      have hDD : D = Sha.sum B := by rw [hD, if_pos ⟨hg.1, hg.2.1, h32⟩]
      have hbl := hBl hg.1
      have hsm := sum_calls (Γ := Γ) hG0 hG [B] .new (by simp) (by simp; omega) s1
      rw [show [B].flatten = B from by simp, ← hDD] at hsm
      refine awp_reg_seq ?_
      intro K hK
      simp only [↓DN, UP, implies_true, forall_eq', ne_eq, if_true, if_false, aval, abin, aint, ashift, abool, astr, anil, aun, aconv, aindexAddr, aindex, optInt, aslice, abuiltin, asrc, afill, placeOf, asetAll, undef, aload, apart, AV.cells, AV.one, aeval, updO, upd, initE, gdst, thenQ, blockQ, srcOk, Array.isEmpty, List.isEmpty, bytesV, reduceCtorEq, ↓reduceIte, Nat.reduceLT, Nat.reduceLeDiff, Nat.reduceEqDiff, Nat.reduceAdd, Nat.reduceMul, Nat.reducePow, Nat.reduceSub, Int.reduceLT, Int.reduceLE, Int.reduceToNat, RNodeH250, Tryd.ntmps50, List.replicate_one]
      refine acallk hsm ?_
      intro r s2 hout
      have hsl : D.length = 32 := by rw [hDD]; exact Sha.sum_length B
      have hw := hout.weak
      have hle := hout.1
      obtain ⟨t, e, rfl⟩ := outS_own hout (by rw [← List.length_pos_iff, hsl]; decide)
      simp only [↓AXq_nil, ↓AXq_cons, pval, List.contains_cons, List.contains_nil, Nat.reduceBEq, Bool.or_false, Bool.or_true, Bool.or_self, Bool.false_eq_true, Bool.false_or, ↓DN, UP, implies_true, forall_eq', ne_eq, if_true, if_false, aval, abin, aint, ashift, abool, astr, anil, aun, aconv, aindexAddr, aindex, optInt, aslice, abuiltin, asrc, afill, placeOf, asetAll, undef, aload, apart, AV.cells, AV.one, aeval, updO, upd, initE, gdst, thenQ, blockQ, srcOk, Array.isEmpty, List.isEmpty, bytesV, reduceCtorEq, ↓reduceIte, Nat.reduceLT, Nat.reduceLeDiff, Nat.reduceEqDiff, Nat.reduceAdd, Nat.reduceMul, Nat.reducePow, Nat.reduceSub, Int.reduceLT, Int.reduceLE, Int.reduceToNat, RNodeH250, Tryd.ntmps50]
      refine hK _ _ ?_
      clear hK K
      refine awp_ret ?_
      simp only [retQ, AEnds, aresL, ares, List.toList_toArray, ↓upd_same]; try simp only [↓DN, UP, implies_true, forall_eq', ne_eq, if_true, if_false, aval, abin, aint, ashift, abool, astr, anil, aun, aconv, aindexAddr, aindex, optInt, aslice, abuiltin, asrc, afill, placeOf, asetAll, undef, aload, apart, AV.cells, AV.one, aeval, updO, upd, initE, gdst, thenQ, blockQ, srcOk, Array.isEmpty, List.isEmpty, bytesV, reduceCtorEq, ↓reduceIte, Nat.reduceLT, Nat.reduceLeDiff, Nat.reduceEqDiff, Nat.reduceAdd, Nat.reduceMul, Nat.reducePow, Nat.reduceSub, Int.reduceLT, Int.reduceLE, Int.reduceToNat, RNodeH250, Tryd.ntmps50, atuple_nil, atuple_one, atuple_two, atuple_three, atuple_four, atuple_five]
      exact ⟨_, s1, hw, hle, rfl, rfl⟩
    · refine awp_reg_seq ?_
      intro K hK
      simp only [↓DN, UP, implies_true, forall_eq', ne_eq, if_true, if_false, aval, abin, aint, ashift, abool, astr, anil, aun, aconv, aindexAddr, aindex, optInt, aslice, abuiltin, asrc, afill, placeOf, asetAll, undef, aload, apart, AV.cells, AV.one, aeval, updO, upd, initE, gdst, thenQ, blockQ, srcOk, Array.isEmpty, List.isEmpty, bytesV, reduceCtorEq, ↓reduceIte, Nat.reduceLT, Nat.reduceLeDiff, Nat.reduceEqDiff, Nat.reduceAdd, Nat.reduceMul, Nat.reducePow, Nat.reduceSub, Int.reduceLT, Int.reduceLE, Int.reduceToNat, RNodeH250, Tryd.ntmps50, decide_eq_true (show (32 : Int) ≤ number by omega)]
      refine hK _ _ ?_
      clear hK K
      refine awp_cond_k ?_
      intro X Y hX hY
      simp only [↓DN, UP, implies_true, forall_eq', ne_eq, if_true, if_false, aval, abin, aint, ashift, abool, astr, anil, aun, aconv, aindexAddr, aindex, optInt, aslice, abuiltin, asrc, afill, placeOf, asetAll, undef, aload, apart, AV.cells, AV.one, aeval, updO, upd, initE, gdst, thenQ, blockQ, srcOk, Array.isEmpty, List.isEmpty, bytesV, reduceCtorEq, ↓reduceIte, Nat.reduceLT, Nat.reduceLeDiff, Nat.reduceEqDiff, Nat.reduceAdd, Nat.reduceMul, Nat.reducePow, Nat.reduceSub, Int.reduceLT, Int.reduceLE, Int.reduceToNat, RNodeH250, Tryd.ntmps50, Bool.not_true, Bool.not_false, Bool.false_eq_true, Bool.true_eq_false, false_imp_iff, true_imp_iff, decide_eq_true_eq, decide_eq_false_iff_not]
      refine hX ?_
      clear hX hY X Y
      refine awp_reg_seq ?_
      intro K hK
      simp only [↓DN, UP, implies_true, forall_eq', ne_eq, if_true, if_false, aval, abin, aint, ashift, abool, astr, anil, aun, aconv, aindexAddr, aindex, optInt, aslice, abuiltin, asrc, afill, placeOf, asetAll, undef, aload, apart, AV.cells, AV.one, aeval, updO, upd, initE, gdst, thenQ, blockQ, srcOk, Array.isEmpty, List.isEmpty, bytesV, reduceCtorEq, ↓reduceIte, Nat.reduceLT, Nat.reduceLeDiff, Nat.reduceEqDiff, Nat.reduceAdd, Nat.reduceMul, Nat.reducePow, Nat.reduceSub, Int.reduceLT, Int.reduceLE, Int.reduceToNat, RNodeH250, Tryd.ntmps50]
      refine hK _ _ ?_
      clear hK K
      refine awp_ret ?_
      simp only [retQ, AEnds, aresL, ares, List.toList_toArray, ↓upd_same]; try simp only [↓DN, UP, implies_true, forall_eq', ne_eq, if_true, if_false, aval, abin, aint, ashift, abool, astr, anil, aun, aconv, aindexAddr, aindex, optInt, aslice, abuiltin, asrc, afill, placeOf, asetAll, undef, aload, apart, AV.cells, AV.one, aeval, updO, upd, initE, gdst, thenQ, blockQ, srcOk, Array.isEmpty, List.isEmpty, bytesV, reduceCtorEq, ↓reduceIte, Nat.reduceLT, Nat.reduceLeDiff, Nat.reduceEqDiff, Nat.reduceAdd, Nat.reduceMul, Nat.reducePow, Nat.reduceSub, Int.reduceLT, Int.reduceLE, Int.reduceToNat, RNodeH250, Tryd.ntmps50, atuple_nil, atuple_one, atuple_two, atuple_three, atuple_four, atuple_five]
      refine ⟨bytesV [] .any, _, AV.weak_nil, AS.le.refl _, ?_, rfl⟩
      rw [hD, if_neg (fun h => h32 h.2.2)]
      rfl
  · have hF := hbad hg
    rw [hF]
    simp only [↓AXq_nil, ↓AXq_cons, pval, List.contains_cons, List.contains_nil, Nat.reduceBEq, Bool.or_false, Bool.or_true, Bool.or_self, Bool.false_eq_true, Bool.false_or, ↓DN, UP, implies_true, forall_eq', ne_eq, if_true, if_false, aval, abin, aint, ashift, abool, astr, anil, aun, aconv, aindexAddr, aindex, optInt, aslice, abuiltin, asrc, afill, placeOf, asetAll, undef, aload, apart, AV.cells, AV.one, aeval, updO, upd, initE, gdst, thenQ, blockQ, srcOk, Array.isEmpty, List.isEmpty, bytesV, reduceCtorEq, ↓reduceIte, Nat.reduceLT, Nat.reduceLeDiff, Nat.reduceEqDiff, Nat.reduceAdd, Nat.reduceMul, Nat.reducePow, Nat.reduceSub, Int.reduceLT, Int.reduceLE, Int.reduceToNat, RNodeH250, Tryd.ntmps50]
    refine hK _ _ ?_
    clear hK K
    refine awp_seq_k ?_
    intro K hK
    refine awp_reg_seq ?_
    intro K hK
    simp only [↓DN, UP, implies_true, forall_eq', ne_eq, if_true, if_false, aval, abin, aint, ashift, abool, astr, anil, aun, aconv, aindexAddr, aindex, optInt, aslice, abuiltin, asrc, afill, placeOf, asetAll, undef, aload, apart, AV.cells, AV.one, aeval, updO, upd, initE, gdst, thenQ, blockQ, srcOk, Array.isEmpty, List.isEmpty, bytesV, reduceCtorEq, ↓reduceIte, Nat.reduceLT, Nat.reduceLeDiff, Nat.reduceEqDiff, Nat.reduceAdd, Nat.reduceMul, Nat.reducePow, Nat.reduceSub, Int.reduceLT, Int.reduceLE, Int.reduceToNat, RNodeH250, Tryd.ntmps50]
    refine hK _ _ ?_
    clear hK K
    refine awp_cond_k ?_
    intro X Y hX hY
    simp only [↓DN, UP, implies_true, forall_eq', ne_eq, if_true, if_false, aval, abin, aint, ashift, abool, astr, anil, aun, aconv, aindexAddr, aindex, optInt, aslice, abuiltin, asrc, afill, placeOf, asetAll, undef, aload, apart, AV.cells, AV.one, aeval, updO, upd, initE, gdst, thenQ, blockQ, srcOk, Array.isEmpty, List.isEmpty, bytesV, reduceCtorEq, ↓reduceIte, Nat.reduceLT, Nat.reduceLeDiff, Nat.reduceEqDiff, Nat.reduceAdd, Nat.reduceMul, Nat.reducePow, Nat.reduceSub, Int.reduceLT, Int.reduceLE, Int.reduceToNat, RNodeH250, Tryd.ntmps50, Bool.not_true, Bool.not_false, Bool.false_eq_true, Bool.true_eq_false, false_imp_iff, true_imp_iff, decide_eq_true_eq, decide_eq_false_iff_not]
    refine hX ?_
    clear hX hY X Y
    refine awp_reg_seq ?_
    intro K hK
    simp only [↓DN, UP, implies_true, forall_eq', ne_eq, if_true, if_false, aval, abin, aint, ashift, abool, astr, anil, aun, aconv, aindexAddr, aindex, optInt, aslice, abuiltin, asrc, afill, placeOf, asetAll, undef, aload, apart, AV.cells, AV.one, aeval, updO, upd, initE, gdst, thenQ, blockQ, srcOk, Array.isEmpty, List.isEmpty, bytesV, reduceCtorEq, ↓reduceIte, Nat.reduceLT, Nat.reduceLeDiff, Nat.reduceEqDiff, Nat.reduceAdd, Nat.reduceMul, Nat.reducePow, Nat.reduceSub, Int.reduceLT, Int.reduceLE, Int.reduceToNat, RNodeH250, Tryd.ntmps50]
    refine hK _ _ ?_
    clear hK K
    refine awp_ret ?_
    simp only [retQ, AEnds, aresL, ares, List.toList_toArray, ↓upd_same]; try simp only [↓DN, UP, implies_true, forall_eq', ne_eq, if_true, if_false, aval, abin, aint, ashift, abool, astr, anil, aun, aconv, aindexAddr, aindex, optInt, aslice, abuiltin, asrc, afill, placeOf, asetAll, undef, aload, apart, AV.cells, AV.one, aeval, updO, upd, initE, gdst, thenQ, blockQ, srcOk, Array.isEmpty, List.isEmpty, bytesV, reduceCtorEq, ↓reduceIte, Nat.reduceLT, Nat.reduceLeDiff, Nat.reduceEqDiff, Nat.reduceAdd, Nat.reduceMul, Nat.reducePow, Nat.reduceSub, Int.reduceLT, Int.reduceLE, Int.reduceToNat, RNodeH250, Tryd.ntmps50, atuple_nil, atuple_one, atuple_two, atuple_three, atuple_four, atuple_five]
    refine ⟨bytesV [] .any, _, AV.weak_nil, AS.le.refl _, ?_, rfl⟩
    rw [hD, if_neg (fun h => hg ⟨h.1, h.2.1, by omega⟩)]
    rfl

theorem partsB_tri (a b c : List UInt8) : PartsB [a, b, c] = [bytesV a .any, bytesV b .any, bytesV c .any] := rfl
theorem partsB_duo (a b : List UInt8) : PartsB [a, b] = [bytesV a .any, bytesV b .any] := rfl

set_option maxHeartbeats 2000000 in
set_option maxRecDepth 100000 in
theorem branchHash_calls (hG0 : Γ 0 = stC Sha.H0) (hG : Γ 1 = Sha.K.map wV) (N : NodeV) (hl : N.unm.length ≤ 2 ^ 61) (x y : List UInt8) (hxy : x.length + y.length ≤ 2 ^ 30) (s : AS) :
    ACalls Tryd.prog Γ 51 [.agg N.cells, bytesV x .any, bytesV y .any] s (fun r s' => r = bytesV (branchD N x y) .any ∧ s' = s) := by
  refine acalls_body Tryd.func51 rfl Tryd.ntmps51 Tryd.results51 (by simp) ?_
  have hcl := fun s0 s p hp => branchClo_calls (Γ := Γ) N hl s0 s p ([2], false) (by decide) hp
  have hlen : (nodePen N ([2], false)).1.length ≤ 2 ^ 45 := by
    have h1 := nodePen_len N ([2], false)
    simp only [List.length_cons, List.length_nil] at h1
    omega
  have hoc := fun s => octets19_calls (Γ := Γ) 2 (by decide) _ _ k105 _ hcl hlen s
  have hD : branchD N x y = if N.right then Sha.sum (branchB N x y) else [] := rfl
  have hB : branchB N x y = (2 :: N.text) ++ (x ++ y) := rfl
  have hT := fun hr => NodeV.text_len (N := N) hr
  have hgood : N.right → nodePen N ([2], false) = (2 :: N.text, false) := fun hr => by unfold nodePen; rw [if_pos hr]; rfl
  have hbad : ¬ N.right → (nodePen N ([2], false)).2 = true := fun hr => by unfold nodePen; rw [if_neg hr]
  clear hcl
  generalize nodePen N ([2], false) = F at *
  generalize branchD N x y = D at *
  generalize branchB N x y = B at *
  have hpre : N.right → (2 :: N.text).length ≤ 101 := fun hr => by have := hT hr; simp; omega
  generalize (2 :: N.text) = pre at *
  unfold NodeV.cells at *
  refine awp_reg_frz 3 (by simp [dsts]) ?_
  intro K hK
  simp only [↓AXq_nil, ↓AXq_cons, pval, List.contains_cons, List.contains_nil, Nat.reduceBEq, Bool.or_false, Bool.or_true, Bool.or_self, Bool.false_eq_true, Bool.false_or, ↓DN, UP, implies_true, forall_eq', ne_eq, if_true, if_false, aval, abin, aint, ashift, abool, astr, anil, aun, aconv, aindexAddr, aindex, optInt, aslice, abuiltin, asrc, afill, placeOf, asetAll, undef, aload, apart, AV.cells, AV.one, aeval, updO, upd, initE, gdst, thenQ, blockQ, srcOk, Array.isEmpty, List.isEmpty, bytesV, reduceCtorEq, ↓reduceIte, Nat.reduceLT, Nat.reduceLeDiff, Nat.reduceEqDiff, Nat.reduceAdd, Nat.reduceMul, Nat.reducePow, Nat.reduceSub, Int.reduceLT, Int.reduceLE, Int.reduceToNat, RNodeH251, Tryd.ntmps51, intsV]
  intro o ho
  refine hK _ _ o _ (by simp only [upd, Nat.reduceEqDiff, ↓reduceIte]) ho ?_
  clear hK K ho
  refine awp_reg_seq ?_
  intro K hK
  simp only [↓DN, UP, implies_true, forall_eq', ne_eq, if_true, if_false, aval, abin, aint, ashift, abool, astr, anil, aun, aconv, aindexAddr, aindex, optInt, aslice, abuiltin, asrc, afill, placeOf, asetAll, undef, aload, apart, AV.cells, AV.one, aeval, updO, upd, initE, gdst, thenQ, blockQ, srcOk, Array.isEmpty, List.isEmpty, bytesV, reduceCtorEq, ↓reduceIte, Nat.reduceLT, Nat.reduceLeDiff, Nat.reduceEqDiff, Nat.reduceAdd, Nat.reduceMul, Nat.reducePow, Nat.reduceSub, Int.reduceLT, Int.reduceLE, Int.reduceToNat, RNodeH251, Tryd.ntmps51, intsV]
  refine acallk (hoc _) ?_
  rintro r s1 ⟨rfl, rfl⟩
  by_cases hg : N.right
  · rw [hgood hg]
    simp only [↓AXq_nil, ↓AXq_cons, pval, List.contains_cons, List.contains_nil, Nat.reduceBEq, Bool.or_false, Bool.or_true, Bool.or_self, Bool.false_eq_true, Bool.false_or, ↓DN, UP, implies_true, forall_eq', ne_eq, if_true, if_false, aval, abin, aint, ashift, abool, astr, anil, aun, aconv, aindexAddr, aindex, optInt, aslice, abuiltin, asrc, afill, placeOf, asetAll, undef, aload, apart, AV.cells, AV.one, aeval, updO, upd, initE, gdst, thenQ, blockQ, srcOk, Array.isEmpty, List.isEmpty, bytesV, reduceCtorEq, ↓reduceIte, Nat.reduceLT, Nat.reduceLeDiff, Nat.reduceEqDiff, Nat.reduceAdd, Nat.reduceMul, Nat.reducePow, Nat.reduceSub, Int.reduceLT, Int.reduceLE, Int.reduceToNat, RNodeH251, Tryd.ntmps51]
    refine hK _ _ ?_
    clear hK K
    refine awp_seq_k ?_
    intro K hK
    refine awp_reg_seq ?_
    intro K hK
    simp only [↓DN, UP, implies_true, forall_eq', ne_eq, if_true, if_false, aval, abin, aint, ashift, abool, astr, anil, aun, aconv, aindexAddr, aindex, optInt, aslice, abuiltin, asrc, afill, placeOf, asetAll, undef, aload, apart, AV.cells, AV.one, aeval, updO, upd, initE, gdst, thenQ, blockQ, srcOk, Array.isEmpty, List.isEmpty, bytesV, reduceCtorEq, ↓reduceIte, Nat.reduceLT, Nat.reduceLeDiff, Nat.reduceEqDiff, Nat.reduceAdd, Nat.reduceMul, Nat.reducePow, Nat.reduceSub, Int.reduceLT, Int.reduceLE, Int.reduceToNat, RNodeH251, Tryd.ntmps51]
    refine hK _ _ ?_
    clear hK K
    refine awp_cond_k ?_
    intro X Y hX hY
    simp only [↓DN, UP, implies_true, forall_eq', ne_eq, if_true, if_false, aval, abin, aint, ashift, abool, astr, anil, aun, aconv, aindexAddr, aindex, optInt, aslice, abuiltin, asrc, afill, placeOf, asetAll, undef, aload, apart, AV.cells, AV.one, aeval, updO, upd, initE, gdst, thenQ, blockQ, srcOk, Array.isEmpty, List.isEmpty, bytesV, reduceCtorEq, ↓reduceIte, Nat.reduceLT, Nat.reduceLeDiff, Nat.reduceEqDiff, Nat.reduceAdd, Nat.reduceMul, Nat.reducePow, Nat.reduceSub, Int.reduceLT, Int.reduceLE, Int.reduceToNat, RNodeH251, Tryd.ntmps51, Bool.not_true, Bool.not_false, Bool.false_eq_true, Bool.true_eq_false, false_imp_iff, true_imp_iff, decide_eq_true_eq, decide_eq_false_iff_not]
    refine hY ?_
    clear hX hY X Y
    refine awp_skip ?_
    refine hK _ _ ?_
    clear hK K
    have hDD : D = Sha.sum B := by rw [hD, if_pos hg]
    have hpl := hpre hg
    have hsm := sum_calls (Γ := Γ) hG0 hG [pre, x, y] .new (by simp) (by simp; omega) s1
    rw [show [pre, x, y].flatten = B from by rw [hB]; simp, ← hDD, partsB_tri] at hsm
    refine awp_reg_seq ?_
    intro K hK
    simp only [↓DN, UP, implies_true, forall_eq', ne_eq, if_true, if_false, aval, abin, aint, ashift, abool, astr, anil, aun, aconv, aindexAddr, aindex, optInt, aslice, abuiltin, asrc, afill, placeOf, asetAll, undef, aload, apart, AV.cells, AV.one, aeval, updO, upd, initE, gdst, thenQ, blockQ, srcOk, Array.isEmpty, List.isEmpty, bytesV, reduceCtorEq, ↓reduceIte, Nat.reduceLT, Nat.reduceLeDiff, Nat.reduceEqDiff, Nat.reduceAdd, Nat.reduceMul, Nat.reducePow, Nat.reduceSub, Int.reduceLT, Int.reduceLE, Int.reduceToNat, RNodeH251, Tryd.ntmps51, List.replicate_succ, List.replicate_zero]
    refine acallk hsm ?_
    intro r s2 hout
    have hsl : D.length = 32 := by rw [hDD]; exact Sha.sum_length B
    have hw := hout.weak
    have hle := hout.1
    obtain ⟨t, e, rfl⟩ := outS_own hout (by rw [← List.length_pos_iff, hsl]; decide)
    simp only [↓AXq_nil, ↓AXq_cons, pval, List.contains_cons, List.contains_nil, Nat.reduceBEq, Bool.or_false, Bool.or_true, Bool.or_self, Bool.false_eq_true, Bool.false_or, ↓DN, UP, implies_true, forall_eq', ne_eq, if_true, if_false, aval, abin, aint, ashift, abool, astr, anil, aun, aconv, aindexAddr, aindex, optInt, aslice, abuiltin, asrc, afill, placeOf, asetAll, undef, aload, apart, AV.cells, AV.one, aeval, updO, upd, initE, gdst, thenQ, blockQ, srcOk, Array.isEmpty, List.isEmpty, bytesV, reduceCtorEq, ↓reduceIte, Nat.reduceLT, Nat.reduceLeDiff, Nat.reduceEqDiff, Nat.reduceAdd, Nat.reduceMul, Nat.reducePow, Nat.reduceSub, Int.reduceLT, Int.reduceLE, Int.reduceToNat, RNodeH251, Tryd.ntmps51]
    refine hK _ _ ?_
    clear hK K
    refine awp_ret ?_
    simp only [retQ, AEnds, aresL, ares, List.toList_toArray, ↓upd_same]; try simp only [↓DN, UP, implies_true, forall_eq', ne_eq, if_true, if_false, aval, abin, aint, ashift, abool, astr, anil, aun, aconv, aindexAddr, aindex, optInt, aslice, abuiltin, asrc, afill, placeOf, asetAll, undef, aload, apart, AV.cells, AV.one, aeval, updO, upd, initE, gdst, thenQ, blockQ, srcOk, Array.isEmpty, List.isEmpty, bytesV, reduceCtorEq, ↓reduceIte, Nat.reduceLT, Nat.reduceLeDiff, Nat.reduceEqDiff, Nat.reduceAdd, Nat.reduceMul, Nat.reducePow, Nat.reduceSub, Int.reduceLT, Int.reduceLE, Int.reduceToNat, RNodeH251, Tryd.ntmps51, atuple_nil, atuple_one, atuple_two, atuple_three, atuple_four, atuple_five]
    exact ⟨_, s1, hw, hle, rfl, rfl⟩
  · rw [hbad hg]
    simp only [↓AXq_nil, ↓AXq_cons, pval, List.contains_cons, List.contains_nil, Nat.reduceBEq, Bool.or_false, Bool.or_true, Bool.or_self, Bool.false_eq_true, Bool.false_or, ↓DN, UP, implies_true, forall_eq', ne_eq, if_true, if_false, aval, abin, aint, ashift, abool, astr, anil, aun, aconv, aindexAddr, aindex, optInt, aslice, abuiltin, asrc, afill, placeOf, asetAll, undef, aload, apart, AV.cells, AV.one, aeval, updO, upd, initE, gdst, thenQ, blockQ, srcOk, Array.isEmpty, List.isEmpty, bytesV, reduceCtorEq, ↓reduceIte, Nat.reduceLT, Nat.reduceLeDiff, Nat.reduceEqDiff, Nat.reduceAdd, Nat.reduceMul, Nat.reducePow, Nat.reduceSub, Int.reduceLT, Int.reduceLE, Int.reduceToNat, RNodeH251, Tryd.ntmps51]
    refine hK _ _ ?_
    clear hK K
    refine awp_seq_k ?_
    intro K hK
    refine awp_reg_seq ?_
    intro K hK
    simp only [↓DN, UP, implies_true, forall_eq', ne_eq, if_true, if_false, aval, abin, aint, ashift, abool, astr, anil, aun, aconv, aindexAddr, aindex, optInt, aslice, abuiltin, asrc, afill, placeOf, asetAll, undef, aload, apart, AV.cells, AV.one, aeval, updO, upd, initE, gdst, thenQ, blockQ, srcOk, Array.isEmpty, List.isEmpty, bytesV, reduceCtorEq, ↓reduceIte, Nat.reduceLT, Nat.reduceLeDiff, Nat.reduceEqDiff, Nat.reduceAdd, Nat.reduceMul, Nat.reducePow, Nat.reduceSub, Int.reduceLT, Int.reduceLE, Int.reduceToNat, RNodeH251, Tryd.ntmps51]
    refine hK _ _ ?_
    clear hK K
    refine awp_cond_k ?_
    intro X Y hX hY
    simp only [↓DN, UP, implies_true, forall_eq', ne_eq, if_true, if_false, aval, abin, aint, ashift, abool, astr, anil, aun, aconv, aindexAddr, aindex, optInt, aslice, abuiltin, asrc, afill, placeOf, asetAll, undef, aload, apart, AV.cells, AV.one, aeval, updO, upd, initE, gdst, thenQ, blockQ, srcOk, Array.isEmpty, List.isEmpty, bytesV, reduceCtorEq, ↓reduceIte, Nat.reduceLT, Nat.reduceLeDiff, Nat.reduceEqDiff, Nat.reduceAdd, Nat.reduceMul, Nat.reducePow, Nat.reduceSub, Int.reduceLT, Int.reduceLE, Int.reduceToNat, RNodeH251, Tryd.ntmps51, Bool.not_true, Bool.not_false, Bool.false_eq_true, Bool.true_eq_false, false_imp_iff, true_imp_iff, decide_eq_true_eq, decide_eq_false_iff_not]
    refine hX ?_
    clear hX hY X Y
    refine awp_reg_seq ?_
    intro K hK
    simp only [↓DN, UP, implies_true, forall_eq', ne_eq, if_true, if_false, aval, abin, aint, ashift, abool, astr, anil, aun, aconv, aindexAddr, aindex, optInt, aslice, abuiltin, asrc, afill, placeOf, asetAll, undef, aload, apart, AV.cells, AV.one, aeval, updO, upd, initE, gdst, thenQ, blockQ, srcOk, Array.isEmpty, List.isEmpty, bytesV, reduceCtorEq, ↓reduceIte, Nat.reduceLT, Nat.reduceLeDiff, Nat.reduceEqDiff, Nat.reduceAdd, Nat.reduceMul, Nat.reducePow, Nat.reduceSub, Int.reduceLT, Int.reduceLE, Int.reduceToNat, RNodeH251, Tryd.ntmps51]
    refine hK _ _ ?_
    clear hK K
    refine awp_ret ?_
    simp only [retQ, AEnds, aresL, ares, List.toList_toArray, ↓upd_same]; try simp only [↓DN, UP, implies_true, forall_eq', ne_eq, if_true, if_false, aval, abin, aint, ashift, abool, astr, anil, aun, aconv, aindexAddr, aindex, optInt, aslice, abuiltin, asrc, afill, placeOf, asetAll, undef, aload, apart, AV.cells, AV.one, aeval, updO, upd, initE, gdst, thenQ, blockQ, srcOk, Array.isEmpty, List.isEmpty, bytesV, reduceCtorEq, ↓reduceIte, Nat.reduceLT, Nat.reduceLeDiff, Nat.reduceEqDiff, Nat.reduceAdd, Nat.reduceMul, Nat.reducePow, Nat.reduceSub, Int.reduceLT, Int.reduceLE, Int.reduceToNat, RNodeH251, Tryd.ntmps51, atuple_nil, atuple_one, atuple_two, atuple_three, atuple_four, atuple_five]
    refine ⟨bytesV [] .any, _, AV.weak_nil, AS.le.refl _, ?_, rfl⟩
    rw [hD, if_neg hg]
    rfl

set_option maxHeartbeats 2000000 in
set_option maxRecDepth 100000 in
theorem parentHash_calls (hG0 : Γ 0 = stC Sha.H0) (hG : Γ 1 = Sha.K.map wV) (N : NodeV) (hl : N.unm.length ≤ 2 ^ 61) (x : List UInt8) (hx : x.length ≤ 2 ^ 30) (s : AS) :
    ACalls Tryd.prog Γ 52 [.agg N.cells, bytesV x .any] s (fun r s' => r = bytesV (parentD N x) .any ∧ s' = s) := by
  refine acalls_body Tryd.func52 rfl Tryd.ntmps52 Tryd.results52 (by simp) ?_
  have hD : parentD N x = if N.right ∧ N.kind = 2 then Sha.sum (parentB N x) else [] := rfl
  have hB : parentB N x = (3 :: (be 8 N.key ++ (be 1 N.parent.length ++ N.parent))) ++ x := by simp [parentB]
  have hright := fun s => nodeRight_calls (Γ := Γ) N hl s
  have hheld : N.right → N.kind = 2 → N.key < 2 ^ 64 ∧ N.parent.length ≤ 32 := by
    intro hr hk
    have : N.held := by
      unfold NodeV.right at hr
      rw [hk] at hr
      simp at hr
      exact hr.2.1
    obtain ⟨_, h2, h3⟩ := this
    exact ⟨by omega, by omega⟩
  have hcl := fun hk hp s0 s p hq => parentClo_calls (Γ := Γ) N hk hp s0 s p ([3], false) (by decide) hq
  have hF : N.right → N.kind = 2 → penText 1 N.parent (penNum 8 N.key ([3], false)) = (3 :: (be 8 N.key ++ (be 1 N.parent.length ++ N.parent)), false) := by
    intro hr hk
    have := (hheld hr hk).2
    unfold penText penSmall
    rw [if_pos ⟨by omega, by omega⟩]
    simp [penNum, penRaw]
  generalize penText 1 N.parent (penNum 8 N.key ([3], false)) = F at *
  have hpre : N.right → N.kind = 2 → (3 :: (be 8 N.key ++ (be 1 N.parent.length ++ N.parent))).length ≤ 100 := fun hr hk => by have := (hheld hr hk).2; simp; omega
  generalize (3 :: (be 8 N.key ++ (be 1 N.parent.length ++ N.parent))) = pre at *
  generalize parentD N x = D at *
  generalize parentB N x = B at *
  unfold NodeV.cells at *
  obtain ⟨k, m, y, pa, u⟩ := N
  simp only at *
  refine awp_reg_frz 2 (by simp [dsts]) ?_
  intro K hK
  simp only [↓AXq_nil, ↓AXq_cons, pval, List.contains_cons, List.contains_nil, Nat.reduceBEq, Bool.or_false, Bool.or_true, Bool.or_self, Bool.false_eq_true, Bool.false_or, ↓DN, UP, implies_true, forall_eq', ne_eq, if_true, if_false, aval, abin, aint, ashift, abool, astr, anil, aun, aconv, aindexAddr, aindex, optInt, aslice, abuiltin, asrc, afill, placeOf, asetAll, undef, aload, apart, AV.cells, AV.one, aeval, updO, upd, initE, gdst, thenQ, blockQ, srcOk, Array.isEmpty, List.isEmpty, bytesV, reduceCtorEq, ↓reduceIte, Nat.reduceLT, Nat.reduceLeDiff, Nat.reduceEqDiff, Nat.reduceAdd, Nat.reduceMul, Nat.reducePow, Nat.reduceSub, Int.reduceLT, Int.reduceLE, Int.reduceToNat, RNodeH252, Tryd.ntmps52, intsV]
  intro o ho
  refine hK _ _ o _ (by simp only [upd, Nat.reduceEqDiff, ↓reduceIte]) ho ?_
  clear hK K ho
  refine awp_seq_k ?_
  intro K hK
  by_cases hk : k = 2
  · refine awp_reg_seq ?_
    intro K hK
    simp only [↓DN, UP, implies_true, forall_eq', ne_eq, if_true, if_false, aval, abin, aint, ashift, abool, astr, anil, aun, aconv, aindexAddr, aindex, optInt, aslice, abuiltin, asrc, afill, placeOf, asetAll, undef, aload, apart, AV.cells, AV.one, aeval, updO, upd, initE, gdst, thenQ, blockQ, srcOk, Array.isEmpty, List.isEmpty, bytesV, reduceCtorEq, ↓reduceIte, Nat.reduceLT, Nat.reduceLeDiff, Nat.reduceEqDiff, Nat.reduceAdd, Nat.reduceMul, Nat.reducePow, Nat.reduceSub, Int.reduceLT, Int.reduceLE, Int.reduceToNat, RNodeH252, Tryd.ntmps52, intsV, int_bne_false hk]
    refine acallk (hright _) ?_
    rintro r s1 ⟨rfl, rfl⟩
    by_cases hg : NodeV.right ⟨k, m, y, pa, u⟩
    · rw [decide_eq_true hg]
      simp only [↓AXq_nil, ↓AXq_cons, pval, List.contains_cons, List.contains_nil, Nat.reduceBEq, Bool.or_false, Bool.or_true, Bool.or_self, Bool.false_eq_true, Bool.false_or, ↓DN, UP, implies_true, forall_eq', ne_eq, if_true, if_false, aval, abin, aint, ashift, abool, astr, anil, aun, aconv, aindexAddr, aindex, optInt, aslice, abuiltin, asrc, afill, placeOf, asetAll, undef, aload, apart, AV.cells, AV.one, aeval, updO, upd, initE, gdst, thenQ, blockQ, srcOk, Array.isEmpty, List.isEmpty, bytesV, reduceCtorEq, ↓reduceIte, Nat.reduceLT, Nat.reduceLeDiff, Nat.reduceEqDiff, Nat.reduceAdd, Nat.reduceMul, Nat.reducePow, Nat.reduceSub, Int.reduceLT, Int.reduceLE, Int.reduceToNat, RNodeH252, Tryd.ntmps52]
      refine hK _ _ ?_
      clear hK K
      refine awp_cond_k ?_
      intro X Y hX hY
      simp only [↓DN, UP, implies_true, forall_eq', ne_eq, if_true, if_false, aval, abin, aint, ashift, abool, astr, anil, aun, aconv, aindexAddr, aindex, optInt, aslice, abuiltin, asrc, afill, placeOf, asetAll, undef, aload, apart, AV.cells, AV.one, aeval, updO, upd, initE, gdst, thenQ, blockQ, srcOk, Array.isEmpty, List.isEmpty, bytesV, reduceCtorEq, ↓reduceIte, Nat.reduceLT, Nat.reduceLeDiff, Nat.reduceEqDiff, Nat.reduceAdd, Nat.reduceMul, Nat.reducePow, Nat.reduceSub, Int.reduceLT, Int.reduceLE, Int.reduceToNat, RNodeH252, Tryd.ntmps52, Bool.not_true, Bool.not_false, Bool.false_eq_true, Bool.true_eq_false, false_imp_iff, true_imp_iff, decide_eq_true_eq, decide_eq_false_iff_not]
      refine hY ?_
      clear hX hY X Y
      refine awp_skip ?_
      refine hK _ _ ?_
      clear hK K
      obtain ⟨q1, q2⟩ := hheld hg hk
      have hFF := hF hg hk
      have hpl := hpre hg hk
      have hoc := fun s => octets19_calls (Γ := Γ) 3 (by decide) _ _ k107 _ (hcl q1 (by omega)) (by rw [hFF]; simp only; omega) s
      rw [hFF] at hoc
      refine awp_reg_seq ?_
      intro K hK
      simp only [↓DN, UP, implies_true, forall_eq', ne_eq, if_true, if_false, aval, abin, aint, ashift, abool, astr, anil, aun, aconv, aindexAddr, aindex, optInt, aslice, abuiltin, asrc, afill, placeOf, asetAll, undef, aload, apart, AV.cells, AV.one, aeval, updO, upd, initE, gdst, thenQ, blockQ, srcOk, Array.isEmpty, List.isEmpty, bytesV, reduceCtorEq, ↓reduceIte, Nat.reduceLT, Nat.reduceLeDiff, Nat.reduceEqDiff, Nat.reduceAdd, Nat.reduceMul, Nat.reducePow, Nat.reduceSub, Int.reduceLT, Int.reduceLE, Int.reduceToNat, RNodeH252, Tryd.ntmps52, intsV]
      refine acallk (hoc _) ?_
      rintro r s2 ⟨rfl, rfl⟩
      simp only [↓AXq_nil, ↓AXq_cons, pval, List.contains_cons, List.contains_nil, Nat.reduceBEq, Bool.or_false, Bool.or_true, Bool.or_self, Bool.false_eq_true, Bool.false_or, ↓DN, UP, implies_true, forall_eq', ne_eq, if_true, if_false, aval, abin, aint, ashift, abool, astr, anil, aun, aconv, aindexAddr, aindex, optInt, aslice, abuiltin, asrc, afill, placeOf, asetAll, undef, aload, apart, AV.cells, AV.one, aeval, updO, upd, initE, gdst, thenQ, blockQ, srcOk, Array.isEmpty, List.isEmpty, bytesV, reduceCtorEq, ↓reduceIte, Nat.reduceLT, Nat.reduceLeDiff, Nat.reduceEqDiff, Nat.reduceAdd, Nat.reduceMul, Nat.reducePow, Nat.reduceSub, Int.reduceLT, Int.reduceLE, Int.reduceToNat, RNodeH252, Tryd.ntmps52]
      refine hK _ _ ?_
      clear hK K
      have hDD : D = Sha.sum B := by rw [hD, if_pos ⟨hg, hk⟩]
      have hsm := sum_calls (Γ := Γ) hG0 hG [pre, x] .new (by simp) (by simp; omega) s2
      rw [show [pre, x].flatten = B from by rw [hB]; simp, ← hDD, partsB_duo] at hsm
      refine awp_reg_seq ?_
      intro K hK
      simp only [↓DN, UP, implies_true, forall_eq', ne_eq, if_true, if_false, aval, abin, aint, ashift, abool, astr, anil, aun, aconv, aindexAddr, aindex, optInt, aslice, abuiltin, asrc, afill, placeOf, asetAll, undef, aload, apart, AV.cells, AV.one, aeval, updO, upd, initE, gdst, thenQ, blockQ, srcOk, Array.isEmpty, List.isEmpty, bytesV, reduceCtorEq, ↓reduceIte, Nat.reduceLT, Nat.reduceLeDiff, Nat.reduceEqDiff, Nat.reduceAdd, Nat.reduceMul, Nat.reducePow, Nat.reduceSub, Int.reduceLT, Int.reduceLE, Int.reduceToNat, RNodeH252, Tryd.ntmps52, List.replicate_succ, List.replicate_zero]
      refine acallk hsm ?_
      intro r s3 hout
      have hsl : D.length = 32 := by rw [hDD]; exact Sha.sum_length B
      have hw := hout.weak
      have hle := hout.1
      obtain ⟨t, e, rfl⟩ := outS_own hout (by rw [← List.length_pos_iff, hsl]; decide)
      simp only [↓AXq_nil, ↓AXq_cons, pval, List.contains_cons, List.contains_nil, Nat.reduceBEq, Bool.or_false, Bool.or_true, Bool.or_self, Bool.false_eq_true, Bool.false_or, ↓DN, UP, implies_true, forall_eq', ne_eq, if_true, if_false, aval, abin, aint, ashift, abool, astr, anil, aun, aconv, aindexAddr, aindex, optInt, aslice, abuiltin, asrc, afill, placeOf, asetAll, undef, aload, apart, AV.cells, AV.one, aeval, updO, upd, initE, gdst, thenQ, blockQ, srcOk, Array.isEmpty, List.isEmpty, bytesV, reduceCtorEq, ↓reduceIte, Nat.reduceLT, Nat.reduceLeDiff, Nat.reduceEqDiff, Nat.reduceAdd, Nat.reduceMul, Nat.reducePow, Nat.reduceSub, Int.reduceLT, Int.reduceLE, Int.reduceToNat, RNodeH252, Tryd.ntmps52]
      refine hK _ _ ?_
      clear hK K
      refine awp_ret ?_
      simp only [retQ, AEnds, aresL, ares, List.toList_toArray, ↓upd_same]; try simp only [↓DN, UP, implies_true, forall_eq', ne_eq, if_true, if_false, aval, abin, aint, ashift, abool, astr, anil, aun, aconv, aindexAddr, aindex, optInt, aslice, abuiltin, asrc, afill, placeOf, asetAll, undef, aload, apart, AV.cells, AV.one, aeval, updO, upd, initE, gdst, thenQ, blockQ, srcOk, Array.isEmpty, List.isEmpty, bytesV, reduceCtorEq, ↓reduceIte, Nat.reduceLT, Nat.reduceLeDiff, Nat.reduceEqDiff, Nat.reduceAdd, Nat.reduceMul, Nat.reducePow, Nat.reduceSub, Int.reduceLT, Int.reduceLE, Int.reduceToNat, RNodeH252, Tryd.ntmps52, atuple_nil, atuple_one, atuple_two, atuple_three, atuple_four, atuple_five]
      exact ⟨_, s2, hw, hle, rfl, rfl⟩
    · rw [decide_eq_false hg]
      simp only [↓AXq_nil, ↓AXq_cons, pval, List.contains_cons, List.contains_nil, Nat.reduceBEq, Bool.or_false, Bool.or_true, Bool.or_self, Bool.false_eq_true, Bool.false_or, ↓DN, UP, implies_true, forall_eq', ne_eq, if_true, if_false, aval, abin, aint, ashift, abool, astr, anil, aun, aconv, aindexAddr, aindex, optInt, aslice, abuiltin, asrc, afill, placeOf, asetAll, undef, aload, apart, AV.cells, AV.one, aeval, updO, upd, initE, gdst, thenQ, blockQ, srcOk, Array.isEmpty, List.isEmpty, bytesV, reduceCtorEq, ↓reduceIte, Nat.reduceLT, Nat.reduceLeDiff, Nat.reduceEqDiff, Nat.reduceAdd, Nat.reduceMul, Nat.reducePow, Nat.reduceSub, Int.reduceLT, Int.reduceLE, Int.reduceToNat, RNodeH252, Tryd.ntmps52]
      refine hK _ _ ?_
      clear hK K
      refine awp_cond_k ?_
      intro X Y hX hY
      simp only [↓DN, UP, implies_true, forall_eq', ne_eq, if_true, if_false, aval, abin, aint, ashift, abool, astr, anil, aun, aconv, aindexAddr, aindex, optInt, aslice, abuiltin, asrc, afill, placeOf, asetAll, undef, aload, apart, AV.cells, AV.one, aeval, updO, upd, initE, gdst, thenQ, blockQ, srcOk, Array.isEmpty, List.isEmpty, bytesV, reduceCtorEq, ↓reduceIte, Nat.reduceLT, Nat.reduceLeDiff, Nat.reduceEqDiff, Nat.reduceAdd, Nat.reduceMul, Nat.reducePow, Nat.reduceSub, Int.reduceLT, Int.reduceLE, Int.reduceToNat, RNodeH252, Tryd.ntmps52, Bool.not_true, Bool.not_false, Bool.false_eq_true, Bool.true_eq_false, false_imp_iff, true_imp_iff, decide_eq_true_eq, decide_eq_false_iff_not]
      refine hX ?_
      clear hX hY X Y
      refine awp_reg_seq ?_
      intro K hK
      simp only [↓DN, UP, implies_true, forall_eq', ne_eq, if_true, if_false, aval, abin, aint, ashift, abool, astr, anil, aun, aconv, aindexAddr, aindex, optInt, aslice, abuiltin, asrc, afill, placeOf, asetAll, undef, aload, apart, AV.cells, AV.one, aeval, updO, upd, initE, gdst, thenQ, blockQ, srcOk, Array.isEmpty, List.isEmpty, bytesV, reduceCtorEq, ↓reduceIte, Nat.reduceLT, Nat.reduceLeDiff, Nat.reduceEqDiff, Nat.reduceAdd, Nat.reduceMul, Nat.reducePow, Nat.reduceSub, Int.reduceLT, Int.reduceLE, Int.reduceToNat, RNodeH252, Tryd.ntmps52]
      refine hK _ _ ?_
      clear hK K
      refine awp_ret ?_
      try simp only [thenQ, blockQ]
      simp only [retQ, AEnds, aresL, ares, List.toList_toArray, ↓upd_same]; try simp only [↓DN, UP, implies_true, forall_eq', ne_eq, if_true, if_false, aval, abin, aint, ashift, abool, astr, anil, aun, aconv, aindexAddr, aindex, optInt, aslice, abuiltin, asrc, afill, placeOf, asetAll, undef, aload, apart, AV.cells, AV.one, aeval, updO, upd, initE, gdst, thenQ, blockQ, srcOk, Array.isEmpty, List.isEmpty, bytesV, reduceCtorEq, ↓reduceIte, Nat.reduceLT, Nat.reduceLeDiff, Nat.reduceEqDiff, Nat.reduceAdd, Nat.reduceMul, Nat.reducePow, Nat.reduceSub, Int.reduceLT, Int.reduceLE, Int.reduceToNat, RNodeH252, Tryd.ntmps52, atuple_nil, atuple_one, atuple_two, atuple_three, atuple_four, atuple_five]
      refine ⟨bytesV [] .any, _, AV.weak_nil, AS.le.refl _, ?_, rfl⟩
      rw [hD, if_neg (fun h => hg h.1)]
      rfl
  · refine awp_reg_seq ?_
    intro K hK
    simp only [↓DN, UP, implies_true, forall_eq', ne_eq, if_true, if_false, aval, abin, aint, ashift, abool, astr, anil, aun, aconv, aindexAddr, aindex, optInt, aslice, abuiltin, asrc, afill, placeOf, asetAll, undef, aload, apart, AV.cells, AV.one, aeval, updO, upd, initE, gdst, thenQ, blockQ, srcOk, Array.isEmpty, List.isEmpty, bytesV, reduceCtorEq, ↓reduceIte, Nat.reduceLT, Nat.reduceLeDiff, Nat.reduceEqDiff, Nat.reduceAdd, Nat.reduceMul, Nat.reducePow, Nat.reduceSub, Int.reduceLT, Int.reduceLE, Int.reduceToNat, RNodeH252, Tryd.ntmps52, intsV, int_bne_true hk]
    refine hK _ _ ?_
    clear hK K
    refine awp_cond_k ?_
    intro X Y hX hY
    simp only [↓DN, UP, implies_true, forall_eq', ne_eq, if_true, if_false, aval, abin, aint, ashift, abool, astr, anil, aun, aconv, aindexAddr, aindex, optInt, aslice, abuiltin, asrc, afill, placeOf, asetAll, undef, aload, apart, AV.cells, AV.one, aeval, updO, upd, initE, gdst, thenQ, blockQ, srcOk, Array.isEmpty, List.isEmpty, bytesV, reduceCtorEq, ↓reduceIte, Nat.reduceLT, Nat.reduceLeDiff, Nat.reduceEqDiff, Nat.reduceAdd, Nat.reduceMul, Nat.reducePow, Nat.reduceSub, Int.reduceLT, Int.reduceLE, Int.reduceToNat, RNodeH252, Tryd.ntmps52, Bool.not_true, Bool.not_false, Bool.false_eq_true, Bool.true_eq_false, false_imp_iff, true_imp_iff, decide_eq_true_eq, decide_eq_false_iff_not]
    refine hX ?_
    clear hX hY X Y
    refine awp_reg_seq ?_
    intro K hK
    simp only [↓DN, UP, implies_true, forall_eq', ne_eq, if_true, if_false, aval, abin, aint, ashift, abool, astr, anil, aun, aconv, aindexAddr, aindex, optInt, aslice, abuiltin, asrc, afill, placeOf, asetAll, undef, aload, apart, AV.cells, AV.one, aeval, updO, upd, initE, gdst, thenQ, blockQ, srcOk, Array.isEmpty, List.isEmpty, bytesV, reduceCtorEq, ↓reduceIte, Nat.reduceLT, Nat.reduceLeDiff, Nat.reduceEqDiff, Nat.reduceAdd, Nat.reduceMul, Nat.reducePow, Nat.reduceSub, Int.reduceLT, Int.reduceLE, Int.reduceToNat, RNodeH252, Tryd.ntmps52]
    refine hK _ _ ?_
    clear hK K
    refine awp_ret ?_
    try simp only [thenQ, blockQ]
    simp only [retQ, AEnds, aresL, ares, List.toList_toArray, ↓upd_same]; try simp only [↓DN, UP, implies_true, forall_eq', ne_eq, if_true, if_false, aval, abin, aint, ashift, abool, astr, anil, aun, aconv, aindexAddr, aindex, optInt, aslice, abuiltin, asrc, afill, placeOf, asetAll, undef, aload, apart, AV.cells, AV.one, aeval, updO, upd, initE, gdst, thenQ, blockQ, srcOk, Array.isEmpty, List.isEmpty, bytesV, reduceCtorEq, ↓reduceIte, Nat.reduceLT, Nat.reduceLeDiff, Nat.reduceEqDiff, Nat.reduceAdd, Nat.reduceMul, Nat.reducePow, Nat.reduceSub, Int.reduceLT, Int.reduceLE, Int.reduceToNat, RNodeH252, Tryd.ntmps52, atuple_nil, atuple_one, atuple_two, atuple_three, atuple_four, atuple_five]
    refine ⟨bytesV [] .any, _, AV.weak_nil, AS.le.refl _, ?_, rfl⟩
    rw [hD, if_neg (fun h => hk h.2)]
    rfl

end Go.Proofs.YtpakgjmcaefnmaaDoor


