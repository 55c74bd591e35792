/- Contracts of the program's functions, each walked once; the conditions stand in each theorem. -/
import Derived.Test.YtpakgjmcaefnmaaDoorSha2
set_option linter.unusedSimpArgs false
set_option linter.unusedVariables false
set_option autoImplicit false
namespace Go.Proofs.YtpakgjmcaefnmaaDoor
open Go Go.AM Go.Proofs

theorem RSha384 : type_of% (And.intro (And.intro (And.intro (And.intro (And.intro @Tryd.underlying3 T.c3) (And.intro T.g3 T.b3)) (And.intro (And.intro T.z3 @Tryd.underlying5) (And.intro T.c5 T.g5))) (And.intro (And.intro (And.intro T.b5 T.z5) (And.intro @Tryd.underlying22 T.c22)) (And.intro (And.intro T.g22 T.b22) (And.intro T.z22 T.s22)))) (And.intro (And.intro (And.intro (And.intro @Tryd.underlying99 T.c99) (And.intro T.g99 T.b99)) (And.intro (And.intro T.z99 @Tryd.underlying100) (And.intro T.c100 T.g100))) (And.intro (And.intro (And.intro T.b100 T.z100) (And.intro @Tryd.underlying138 T.c138)) (And.intro (And.intro T.g138 T.b138) (And.intro T.k126 T.k127))))) :=
  (And.intro (And.intro (And.intro (And.intro (And.intro @Tryd.underlying3 T.c3) (And.intro T.g3 T.b3)) (And.intro (And.intro T.z3 @Tryd.underlying5) (And.intro T.c5 T.g5))) (And.intro (And.intro (And.intro T.b5 T.z5) (And.intro @Tryd.underlying22 T.c22)) (And.intro (And.intro T.g22 T.b22) (And.intro T.z22 T.s22)))) (And.intro (And.intro (And.intro (And.intro @Tryd.underlying99 T.c99) (And.intro T.g99 T.b99)) (And.intro (And.intro T.z99 @Tryd.underlying100) (And.intro T.c100 T.g100))) (And.intro (And.intro (And.intro T.b100 T.z100) (And.intro @Tryd.underlying138 T.c138)) (And.intro (And.intro T.g138 T.b138) (And.intro T.k126 T.k127)))))

variable {Γ : Nat → List AV}

/-- A state's words. -/
abbrev stC (t : Sha.St) : List AV := [wV t.a, wV t.b, wV t.c, wV t.d, wV t.e, wV t.f, wV t.g, wV t.h]
theorem c8 : ((8 : Nat) : Int) = 8 := rfl
theorem map_getD (l : List Nat) (i : Nat) (h : i < l.length) : (l.map wV)[i]? = some (wV (l.getD i 0)) := by
  rw [List.getElem?_map, List.getElem?_eq_getElem h]
  simp [List.getD, List.getElem?_eq_getElem h]

/-- The state's words, i of them added up. -/
def addL (t u : Sha.St) (i : Nat) : List AV := (stC (t.add u)).take i ++ (stC t).drop i
theorem addL_zero (t u : Sha.St) : addL t u 0 = stC t := rfl
theorem addL_full (t u : Sha.St) : addL t u 8 = stC (t.add u) := rfl
theorem addL_len (t u : Sha.St) (i : Nat) (h : i ≤ 8) : (addL t u i).length = 8 := by
  simp [addL]; omega
theorem at8 {i : Nat} (h : i < 8) : i = 0 ∨ i = 1 ∨ i = 2 ∨ i = 3 ∨ i = 4 ∨ i = 5 ∨ i = 6 ∨ i = 7 := by omega
theorem addL_drop (t u : Sha.St) (i : Nat) (h : i < 8) : List.drop i (addL t u i) = wV (t.list.getD i 0) :: (stC t).drop (i + 1) := by
  rcases at8 h with rfl | rfl | rfl | rfl | rfl | rfl | rfl | rfl <;> rfl
theorem addL_set (t u : Sha.St) (i : Nat) (h : i < 8) : (addL t u i).set i (wV (Sha.add32 (t.list.getD i 0) (u.list.getD i 0))) = addL t u (i + 1) := by
  rcases at8 h with rfl | rfl | rfl | rfl | rfl | rfl | rfl | rfl <;> rfl
theorem stC_drop (u : Sha.St) (i : Nat) (h : i < 8) : List.drop i (stC u) = wV (u.list.getD i 0) :: (stC u).drop (i + 1) := by
  rcases at8 h with rfl | rfl | rfl | rfl | rfl | rfl | rfl | rfl <;> rfl
theorem stC_all (u : Sha.St) : (stC u).all AV.one = true := rfl

set_option maxHeartbeats 4000000 in
set_option maxRecDepth 100000 in
theorem mix_calls (hG : Γ 1 = Sha.K.map wV) (t : Sha.St) (ht : t.ok) (c : List UInt8) (hc : c.length = 64) (s : AS) :
    ACalls Tryd.prog Γ 84 [.agg (stC t), bytesV c .any] s (fun r s' => r = .agg (stC (Sha.mix t c)) ∧ s' = s) := by
  refine acalls_body Tryd.func84 rfl Tryd.ntmps84 Tryd.results84 (by simp) ?_
  refine awp_reg_seq ?_
  intro K hK
  simp only [↓DN, UP, implies_true, forall_eq', ne_eq, if_true, if_false, aval, abin, aint, ashift, abool, astr, anil, aun, aconv, aindexAddr, aindex, optInt, aslice, abuiltin, asrc, afill, placeOf, asetAll, undef, aload, apart, AV.cells, AV.one, aeval, updO, upd, initE, gdst, thenQ, blockQ, srcOk, Array.isEmpty, List.isEmpty, bytesV, reduceCtorEq, ↓reduceIte, Nat.reduceLT, Nat.reduceLeDiff, Nat.reduceEqDiff, Nat.reduceAdd, Nat.reduceMul, Nat.reducePow, Nat.reduceSub, Int.reduceLT, Int.reduceLE, Int.reduceToNat, RSha384, Tryd.ntmps84]
  intro o2 ho2 o4 ho4
  refine hK _ _ ?_
  clear hK K
  obtain ⟨h42, ho4'⟩ := AS.fresh_set ho4
  clear ho4
  refine awp_reg_seq ?_
  intro K hK
  simp only [↓DN, UP, implies_true, forall_eq', ne_eq, if_true, if_false, aval, abin, aint, ashift, abool, astr, anil, aun, aconv, aindexAddr, aindex, optInt, aslice, abuiltin, asrc, afill, placeOf, asetAll, undef, aload, apart, AV.cells, AV.one, aeval, updO, upd, initE, gdst, thenQ, blockQ, srcOk, Array.isEmpty, List.isEmpty, bytesV, reduceCtorEq, ↓reduceIte, Nat.reduceLT, Nat.reduceLeDiff, Nat.reduceEqDiff, Nat.reduceAdd, Nat.reduceMul, Nat.reducePow, Nat.reduceSub, Int.reduceLT, Int.reduceLE, Int.reduceToNat, RSha384, Tryd.ntmps84, h42, h42.symm]
  intro o5 ho5
  have h54 : o5 ≠ o4 := by intro e; simp [e] at ho5
  have h52 : o5 ≠ o2 := by intro e; subst e; simp [h54] at ho5
  have ho5' : s.objs o5 = none := by simpa [h54, h52] using ho5
  clear ho5
  refine hK _ _ ?_
  clear hK K
  obtain ⟨Z, hZ⟩ : ∃ Z : List AV, Z = [wV 0, wV 0, wV 0, wV 0, wV 0, wV 0, wV 0, wV 0] := ⟨_, rfl⟩
  have hZl : Z.length = 8 := by rw [hZ]; rfl
  rw [show ([AV.v (.int .u32 0), AV.v (.int .u32 0), AV.v (.int .u32 0), AV.v (.int .u32 0), AV.v (.int .u32 0), AV.v (.int .u32 0), AV.v (.int .u32 0), AV.v (.int .u32 0)] : List AV) = Z from hZ.symm]
  refine awp_seq_k ?_
  intro K hK
  refine awp_reg_seq ?_
  intro K hK
  simp only [↓DN, UP, implies_true, forall_eq', ne_eq, if_true, if_false, aval, abin, aint, ashift, abool, astr, anil, aun, aconv, aindexAddr, aindex, optInt, aslice, abuiltin, asrc, afill, placeOf, asetAll, undef, aload, apart, AV.cells, AV.one, aeval, updO, upd, initE, gdst, thenQ, blockQ, srcOk, Array.isEmpty, List.isEmpty, bytesV, reduceCtorEq, ↓reduceIte, Nat.reduceLT, Nat.reduceLeDiff, Nat.reduceEqDiff, Nat.reduceAdd, Nat.reduceMul, Nat.reducePow, Nat.reduceSub, Int.reduceLT, Int.reduceLE, Int.reduceToNat, RSha384, Tryd.ntmps84]
  rw [show AV.sl 1 c.length (List.map byteV c) .any = bytesV c .any from rfl]
  refine acallk (spread_calls c hc _) ?_
  rintro r sa ⟨rfl, rfl⟩
  simp only [↓AXq_nil, ↓AXq_cons, pval, List.contains_cons, List.contains_nil, Nat.reduceBEq, Bool.or_false, Bool.or_true, Bool.or_self, Bool.false_eq_true, Bool.false_or, ↓DN, UP, implies_true, forall_eq', ne_eq, if_true, if_false, aval, abin, aint, ashift, abool, astr, anil, aun, aconv, aindexAddr, aindex, optInt, aslice, abuiltin, asrc, afill, placeOf, asetAll, undef, aload, apart, AV.cells, AV.one, aeval, updO, upd, initE, gdst, thenQ, blockQ, srcOk, Array.isEmpty, List.isEmpty, bytesV, reduceCtorEq, ↓reduceIte, Nat.reduceLT, Nat.reduceLeDiff, Nat.reduceEqDiff, Nat.reduceAdd, Nat.reduceMul, Nat.reducePow, Nat.reduceSub, Int.reduceLT, Int.reduceLE, Int.reduceToNat, RSha384, Tryd.ntmps84]
  refine hK _ _ ?_
  clear hK K
  obtain ⟨W, hW⟩ : ∃ W, W = Sha.sch c 64 := ⟨_, rfl⟩
  have hWl : W.length = 64 := by rw [hW, Sha.sch_length]
  rw [← hW]
  refine awp_block ?_
  refine awp_loop (fun E s1 => ∃ i : Nat, i ≤ 64 ∧ E 2 = .ptr o2 0 ∧ E 4 = .ptr o4 0 ∧ E 5 = .ptr o5 0 ∧ E 15 = .agg (W.map wV) ∧ E 16 = .v (.int .i64 i) ∧ s1 = ((s.set o2 (stC t)).set o4 Z).set o5 (stC (Sha.rounds W t i)))
    (fun E _ => match E 16 with | .v (.int _ i) => 64 - i.toNat | _ => 0) ?_ ?_
  · exact ⟨0, by omega, by simp [upd], by simp [upd], by simp [upd], by simp [upd], by simp [upd], rfl⟩
  · rintro E1 s1 ⟨i, hi, e2, e4, e5, e15, e16, rfl⟩ -
    by_cases hi' : i < 64
    · have hi2 : (i : Int) < 64 := by omega
      have hi3 : (i : Int) < ((64 : Nat) : Int) := by omega
      have hi0 : (0 : Int) ≤ (i : Int) := by omega
      refine awp_reg_seq ?_
      intro K hK
      simp only [↓DN, UP, implies_true, forall_eq', ne_eq, if_true, if_false, aval, abin, aint, ashift, abool, astr, anil, aun, aconv, aindexAddr, aindex, optInt, aslice, abuiltin, asrc, afill, placeOf, asetAll, undef, aload, apart, AV.cells, AV.one, aeval, updO, upd, initE, gdst, thenQ, blockQ, srcOk, Array.isEmpty, List.isEmpty, bytesV, reduceCtorEq, ↓reduceIte, Nat.reduceLT, Nat.reduceLeDiff, Nat.reduceEqDiff, Nat.reduceAdd, Nat.reduceMul, Nat.reducePow, Nat.reduceSub, Int.reduceLT, Int.reduceLE, Int.reduceToNat, RSha384, Tryd.ntmps84, e16, decide_eq_true hi2]
      refine hK _ _ ?_
      clear hK K
      refine awp_seq_k ?_
      intro K2 hK2
      refine awp_cond_k ?_
      intro X Y hX hY
      simp only [↓DN, UP, implies_true, forall_eq', ne_eq, if_true, if_false, aval, abin, aint, ashift, abool, astr, anil, aun, aconv, aindexAddr, aindex, optInt, aslice, abuiltin, asrc, afill, placeOf, asetAll, undef, aload, apart, AV.cells, AV.one, aeval, updO, upd, initE, gdst, thenQ, blockQ, srcOk, Array.isEmpty, List.isEmpty, bytesV, reduceCtorEq, ↓reduceIte, Nat.reduceLT, Nat.reduceLeDiff, Nat.reduceEqDiff, Nat.reduceAdd, Nat.reduceMul, Nat.reducePow, Nat.reduceSub, Int.reduceLT, Int.reduceLE, Int.reduceToNat, RSha384, Tryd.ntmps84, Bool.not_true, Bool.not_false, Bool.false_eq_true, Bool.true_eq_false, false_imp_iff, true_imp_iff, decide_eq_true_eq, decide_eq_false_iff_not]
      refine hX ?_
      clear hX hY X Y
      refine awp_skip ?_
      refine hK2 _ _ ?_
      clear hK2 K2
      refine awp_seq_k ?_
      intro K3 hK3
      refine awp_block ?_
      have hwi := map_getD W i (by omega)
      have hki := map_getD Sha.K i (by rw [show Sha.K.length = 64 from rfl]; omega)
      have hst := Sha.rounds_ok (w := W) ht i
      have hnx : Sha.rounds W t (i + 1) = (Sha.rounds W t i).step (Sha.K.getD i 0) (W.getD i 0) := rfl
      generalize W.getD i 0 = wi at *
      generalize Sha.K.getD i 0 = ki at *
      generalize hu : Sha.rounds W t i = u at *
      have hkd : List.drop i (Sha.K.map wV) = wV ki :: List.drop (i + 1) (Sha.K.map wV) := drop_cons _ _ _ hki
      refine awp_reg_seq ?_
      intro K hK
      simp only [↓DN, UP, implies_true, forall_eq', ne_eq, if_true, if_false, aval, abin, aint, ashift, abool, astr, anil, aun, aconv, aindexAddr, aindex, optInt, aslice, abuiltin, asrc, afill, placeOf, asetAll, undef, aload, apart, AV.cells, AV.one, aeval, updO, upd, initE, gdst, thenQ, blockQ, srcOk, Array.isEmpty, List.isEmpty, bytesV, reduceCtorEq, ↓reduceIte, Nat.reduceLT, Nat.reduceLeDiff, Nat.reduceEqDiff, Nat.reduceAdd, Nat.reduceMul, Nat.reducePow, Nat.reduceSub, Int.reduceLT, Int.reduceLE, Int.reduceToNat, RSha384, Tryd.ntmps84, e15, e16, hi0, hi2, hi3, hwi]
      refine hK _ _ ?_
      clear hK K
      refine awp_mrk_seq T.mixed [(o5, stC u)] [] [1, 3] [] (by kernel_rfl) (by simp only [Pres_cons, Pres_nil, and_true]; simp [AS.set, upd]) ?_
      intro K hK
      simp only [↓AXr_nil, ↓AXr_cons, gval, lval, fzGet_cons, fzGet_nil, Pres_cons, Pres_nil, List.any_cons, List.any_nil, List.contains_cons, List.contains_nil, Nat.reduceBEq, Bool.or_false, Bool.or_true, Bool.or_self, Bool.false_or, ↓DN, UP, implies_true, forall_eq', ne_eq, if_true, if_false, aval, abin, aint, ashift, abool, astr, anil, aun, aconv, aindexAddr, aindex, optInt, aslice, abuiltin, asrc, afill, placeOf, asetAll, undef, aload, apart, AV.cells, AV.one, aeval, updO, upd, initE, gdst, thenQ, blockQ, srcOk, Array.isEmpty, List.isEmpty, bytesV, reduceCtorEq, ↓reduceIte, Nat.reduceLT, Nat.reduceLeDiff, Nat.reduceEqDiff, Nat.reduceAdd, Nat.reduceMul, Nat.reducePow, Nat.reduceSub, Int.reduceLT, Int.reduceLE, Int.reduceToNat, RSha384, Tryd.ntmps84, e5, c8]
      refine hK _ _ ?_
      clear hK K
      refine awp_mrk_seq T.mixed [(o5, stC u)] [3] [1, 7, 12] [] (by kernel_rfl) (by simp only [Pres_cons, Pres_nil, and_true]; simp [AS.set, upd]) ?_
      intro K hK
      simp only [↓AXr_nil, ↓AXr_cons, gval, lval, fzGet_cons, fzGet_nil, Pres_cons, Pres_nil, List.any_cons, List.any_nil, List.contains_cons, List.contains_nil, Nat.reduceBEq, Bool.or_false, Bool.or_true, Bool.or_self, Bool.false_or, ↓DN, UP, implies_true, forall_eq', ne_eq, if_true, if_false, aval, abin, aint, ashift, abool, astr, anil, aun, aconv, aindexAddr, aindex, optInt, aslice, abuiltin, asrc, afill, placeOf, asetAll, undef, aload, apart, AV.cells, AV.one, aeval, updO, upd, initE, gdst, thenQ, blockQ, srcOk, Array.isEmpty, List.isEmpty, bytesV, reduceCtorEq, ↓reduceIte, Nat.reduceLT, Nat.reduceLeDiff, Nat.reduceEqDiff, Nat.reduceAdd, Nat.reduceMul, Nat.reducePow, Nat.reduceSub, Int.reduceLT, Int.reduceLE, Int.reduceToNat, RSha384, Tryd.ntmps84, e5, e16, c8]
      have lt2 : ∀ {a b : Nat}, a < 4294967296 → b < 4294967296 → a &&& b < 4294967296 := fun {a b} ha hb => Nat.lt_of_le_of_lt Nat.and_le_left ha
      have lx2 : ∀ {a b : Nat}, a < 4294967296 → b < 4294967296 → a ^^^ b < 4294967296 := fun {a b} ha hb => Nat.xor_lt_two_pow (n := 32) ha hb
      have hn : 4294967295 - u.e < 4294967296 := by omega
      refine acallk (turned_calls u.e 6 11 25 hst.e (by omega) (by omega) (by omega) (by omega) (by omega) (by omega) _) ?_
      rintro r sb ⟨rfl, rfl⟩
      simp only [↓AXq_nil, ↓AXq_cons, pval, ↓AXr_nil, ↓AXr_cons, gval, lval, fzGet_cons, fzGet_nil, Pres_cons, Pres_nil, List.any_cons, List.any_nil, List.contains_cons, List.contains_nil, Nat.reduceBEq, Bool.or_false, Bool.or_true, Bool.or_self, Bool.false_or, List.contains_cons, List.contains_nil, Nat.reduceBEq, Bool.or_false, Bool.or_true, Bool.or_self, Bool.false_eq_true, Bool.false_or, ↓DN, UP, implies_true, forall_eq', ne_eq, if_true, if_false, aval, abin, aint, ashift, abool, astr, anil, aun, aconv, aindexAddr, aindex, optInt, aslice, abuiltin, asrc, afill, placeOf, asetAll, undef, aload, apart, AV.cells, AV.one, aeval, updO, upd, initE, gdst, thenQ, blockQ, srcOk, Array.isEmpty, List.isEmpty, bytesV, reduceCtorEq, ↓reduceIte, Nat.reduceLT, Nat.reduceLeDiff, Nat.reduceEqDiff, Nat.reduceAdd, Nat.reduceMul, Nat.reducePow, Nat.reduceSub, Int.reduceLT, Int.reduceLE, Int.reduceToNat, RSha384, Tryd.ntmps84, e5, e16, c8, hG, hkd, hi0, hi3, wadd, wand u.e u.f hst.e hst.f, wnot u.e hst.e, wand (4294967295 - u.e) u.g hn hst.g, wxor (u.e &&& u.f) ((4294967295 - u.e) &&& u.g) (lt2 hst.e hst.f) (lt2 hn hst.g)]
      refine hK _ _ ?_
      clear hK K
      refine awp_mrk_seq T.mixed [(o5, stC u)] [1] [4, 8, 12, 14] [] (by kernel_rfl) (by simp only [Pres_cons, Pres_nil, and_true]; simp [AS.set, upd]) ?_
      intro K hK
      simp only [↓AXr_nil, ↓AXr_cons, gval, lval, fzGet_cons, fzGet_nil, Pres_cons, Pres_nil, List.any_cons, List.any_nil, List.contains_cons, List.contains_nil, Nat.reduceBEq, Bool.or_false, Bool.or_true, Bool.or_self, Bool.false_or, ↓DN, UP, implies_true, forall_eq', ne_eq, if_true, if_false, aval, abin, aint, ashift, abool, astr, anil, aun, aconv, aindexAddr, aindex, optInt, aslice, abuiltin, asrc, afill, placeOf, asetAll, undef, aload, apart, AV.cells, AV.one, aeval, updO, upd, initE, gdst, thenQ, blockQ, srcOk, Array.isEmpty, List.isEmpty, bytesV, reduceCtorEq, ↓reduceIte, Nat.reduceLT, Nat.reduceLeDiff, Nat.reduceEqDiff, Nat.reduceAdd, Nat.reduceMul, Nat.reducePow, Nat.reduceSub, Int.reduceLT, Int.reduceLE, Int.reduceToNat, RSha384, Tryd.ntmps84, e5, c8]
      refine acallk (turned_calls u.a 2 13 22 hst.a (by omega) (by omega) (by omega) (by omega) (by omega) (by omega) _) ?_
      rintro r sb ⟨rfl, rfl⟩
      simp only [↓AXq_nil, ↓AXq_cons, pval, ↓AXr_nil, ↓AXr_cons, gval, lval, fzGet_cons, fzGet_nil, Pres_cons, Pres_nil, List.any_cons, List.any_nil, List.contains_cons, List.contains_nil, Nat.reduceBEq, Bool.or_false, Bool.or_true, Bool.or_self, Bool.false_or, List.contains_cons, List.contains_nil, Nat.reduceBEq, Bool.or_false, Bool.or_true, Bool.or_self, Bool.false_eq_true, Bool.false_or, ↓DN, UP, implies_true, forall_eq', ne_eq, if_true, if_false, aval, abin, aint, ashift, abool, astr, anil, aun, aconv, aindexAddr, aindex, optInt, aslice, abuiltin, asrc, afill, placeOf, asetAll, undef, aload, apart, AV.cells, AV.one, aeval, updO, upd, initE, gdst, thenQ, blockQ, srcOk, Array.isEmpty, List.isEmpty, bytesV, reduceCtorEq, ↓reduceIte, Nat.reduceLT, Nat.reduceLeDiff, Nat.reduceEqDiff, Nat.reduceAdd, Nat.reduceMul, Nat.reducePow, Nat.reduceSub, Int.reduceLT, Int.reduceLE, Int.reduceToNat, RSha384, Tryd.ntmps84, e5, c8, wadd, wand u.a u.b hst.a hst.b, wand u.a u.c hst.a hst.c, wand u.b u.c hst.b hst.c, wxor (u.a &&& u.b) (u.a &&& u.c) (lt2 hst.a hst.b) (lt2 hst.a hst.c), wxor ((u.a &&& u.b) ^^^ (u.a &&& u.c)) (u.b &&& u.c) (lx2 (lt2 hst.a hst.b) (lt2 hst.a hst.c)) (lt2 hst.b hst.c)]
      refine hK _ _ ?_
      clear hK K
      refine awp_reg_end ?_
      intro K hK
      simp only [↓DN, UP, implies_true, forall_eq', ne_eq, if_true, if_false, aval, abin, aint, ashift, abool, astr, anil, aun, aconv, aindexAddr, aindex, optInt, aslice, abuiltin, asrc, afill, placeOf, asetAll, undef, aload, apart, AV.cells, AV.one, aeval, updO, upd, initE, gdst, thenQ, blockQ, srcOk, Array.isEmpty, List.isEmpty, bytesV, reduceCtorEq, ↓reduceIte, Nat.reduceLT, Nat.reduceLeDiff, Nat.reduceEqDiff, Nat.reduceAdd, Nat.reduceMul, Nat.reducePow, Nat.reduceSub, Int.reduceLT, Int.reduceLE, Int.reduceToNat, RSha384, Tryd.ntmps84, e5, c8, wadd]
      refine hK _ _ ?_
      clear hK K
      simp only [blockQ, thenQ, if_true, if_false]
      refine hK3 _ _ ?_
      clear hK3 K3
      refine awp_reg_end ?_
      intro K hK
      simp only [↓DN, UP, implies_true, forall_eq', ne_eq, if_true, if_false, aval, abin, aint, ashift, abool, astr, anil, aun, aconv, aindexAddr, aindex, optInt, aslice, abuiltin, asrc, afill, placeOf, asetAll, undef, aload, apart, AV.cells, AV.one, aeval, updO, upd, initE, gdst, thenQ, blockQ, srcOk, Array.isEmpty, List.isEmpty, bytesV, reduceCtorEq, ↓reduceIte, Nat.reduceLT, Nat.reduceLeDiff, Nat.reduceEqDiff, Nat.reduceAdd, Nat.reduceMul, Nat.reducePow, Nat.reduceSub, Int.reduceLT, Int.reduceLE, Int.reduceToNat, RSha384, Tryd.ntmps84, e16, w_succ i (by omega)]
      refine hK _ _ ?_
      clear hK K
      refine ⟨⟨i + 1, by omega, by simp only [upd, e2, Nat.reduceEqDiff, ↓reduceIte], by simp only [upd, e4, Nat.reduceEqDiff, ↓reduceIte], by simp only [upd, e5, Nat.reduceEqDiff, ↓reduceIte], by simp only [upd, e15, Nat.reduceEqDiff, ↓reduceIte], by simp only [upd, ↓reduceIte], ?_⟩, ?_⟩
      · rw [hnx]
        simp only [stC, Sha.St.step, Sha.t1, Sha.t2]
      · simp only [e16, upd, ↓reduceIte]
        omega
    · have hi2 : ¬ (i : Int) < 64 := by omega
      obtain rfl : i = 64 := by omega
      refine awp_reg_seq ?_
      intro K hK
      simp only [↓DN, UP, implies_true, forall_eq', ne_eq, if_true, if_false, aval, abin, aint, ashift, abool, astr, anil, aun, aconv, aindexAddr, aindex, optInt, aslice, abuiltin, asrc, afill, placeOf, asetAll, undef, aload, apart, AV.cells, AV.one, aeval, updO, upd, initE, gdst, thenQ, blockQ, srcOk, Array.isEmpty, List.isEmpty, bytesV, reduceCtorEq, ↓reduceIte, Nat.reduceLT, Nat.reduceLeDiff, Nat.reduceEqDiff, Nat.reduceAdd, Nat.reduceMul, Nat.reducePow, Nat.reduceSub, Int.reduceLT, Int.reduceLE, Int.reduceToNat, RSha384, Tryd.ntmps84, e16, decide_eq_false hi2]
      refine hK _ _ ?_
      clear hK K
      refine awp_seq_k ?_
      intro K2 hK2
      refine awp_cond_k ?_
      intro X Y hX hY
      simp only [↓DN, UP, implies_true, forall_eq', ne_eq, if_true, if_false, aval, abin, aint, ashift, abool, astr, anil, aun, aconv, aindexAddr, aindex, optInt, aslice, abuiltin, asrc, afill, placeOf, asetAll, undef, aload, apart, AV.cells, AV.one, aeval, updO, upd, initE, gdst, thenQ, blockQ, srcOk, Array.isEmpty, List.isEmpty, bytesV, reduceCtorEq, ↓reduceIte, Nat.reduceLT, Nat.reduceLeDiff, Nat.reduceEqDiff, Nat.reduceAdd, Nat.reduceMul, Nat.reducePow, Nat.reduceSub, Int.reduceLT, Int.reduceLE, Int.reduceToNat, RSha384, Tryd.ntmps84, Bool.not_true, Bool.not_false, Bool.false_eq_true, Bool.true_eq_false, false_imp_iff, true_imp_iff, decide_eq_true_eq, decide_eq_false_iff_not]
      refine hY ?_
      clear hX hY X Y
      refine awp_exit ?_
      simp only [thenQ, blockQ, if_true]
      clear hK2 K2
      refine hK _ _ ?_
      clear hK K
      have hmix : Sha.mix t c = t.add (Sha.rounds W t 64) := by rw [hW]; rfl
      rw [hmix]
      generalize Sha.rounds W t 64 = u
      rw [← addL_zero t u]
      refine awp_seq_k ?_
      intro K hK
      refine awp_reg_seq ?_
      intro K hK
      simp only [↓DN, UP, implies_true, forall_eq', ne_eq, if_true, if_false, aval, abin, aint, ashift, abool, astr, anil, aun, aconv, aindexAddr, aindex, optInt, aslice, abuiltin, asrc, afill, placeOf, asetAll, undef, aload, apart, AV.cells, AV.one, aeval, updO, upd, initE, gdst, thenQ, blockQ, srcOk, Array.isEmpty, List.isEmpty, bytesV, reduceCtorEq, ↓reduceIte, Nat.reduceLT, Nat.reduceLeDiff, Nat.reduceEqDiff, Nat.reduceAdd, Nat.reduceMul, Nat.reducePow, Nat.reduceSub, Int.reduceLT, Int.reduceLE, Int.reduceToNat, RSha384, Tryd.ntmps84]
      refine hK _ _ ?_
      clear hK K
      refine awp_block ?_
      refine awp_loop (fun E s1 => ∃ i : Nat, i ≤ 8 ∧ E 2 = .ptr o2 0 ∧ E 4 = .ptr o4 0 ∧ E 5 = .ptr o5 0 ∧ E 83 = .v (.int .i64 i) ∧ s1.objs o2 = some (addL t u i) ∧ s1.objs o5 = some (stC u) ∧ s1.objs o4 = some Z ∧ s.le s1)
        (fun E _ => match E 83 with | .v (.int _ i) => 8 - i.toNat | _ => 0) ?_ ?_
      · refine ⟨0, by omega, by simp only [upd, e2, Nat.reduceEqDiff, ↓reduceIte], by simp only [upd, e4, Nat.reduceEqDiff, ↓reduceIte], by simp only [upd, e5, Nat.reduceEqDiff, ↓reduceIte], by simp only [upd, ↓reduceIte]; rfl, ?_, AS.set_objs_same _ _ _, ?_, AS.le_set (AS.le_set (AS.le_set (AS.le.refl s) ho2 _) ho4' _) ho5' _⟩
        · rw [AS.set_objs_ne _ h52.symm, AS.set_objs_ne _ h42.symm, AS.set_objs_same]
        · rw [AS.set_objs_ne _ h54.symm, AS.set_objs_same]
      · rintro E2 s2 ⟨i, hi, g2, g4, g5, g83, j2, j5, j4, hle⟩ -
        by_cases hi' : i < 8
        · have hi2 : (i : Int) < 8 := by omega
          have hi0 : (0 : Int) ≤ (i : Int) := by omega
          refine awp_reg_seq ?_
          intro K hK
          simp only [↓DN, UP, implies_true, forall_eq', ne_eq, if_true, if_false, aval, abin, aint, ashift, abool, astr, anil, aun, aconv, aindexAddr, aindex, optInt, aslice, abuiltin, asrc, afill, placeOf, asetAll, undef, aload, apart, AV.cells, AV.one, aeval, updO, upd, initE, gdst, thenQ, blockQ, srcOk, Array.isEmpty, List.isEmpty, bytesV, reduceCtorEq, ↓reduceIte, Nat.reduceLT, Nat.reduceLeDiff, Nat.reduceEqDiff, Nat.reduceAdd, Nat.reduceMul, Nat.reducePow, Nat.reduceSub, Int.reduceLT, Int.reduceLE, Int.reduceToNat, RSha384, Tryd.ntmps84, g83, decide_eq_true hi2]
          refine hK _ _ ?_
          clear hK K
          refine awp_seq_k ?_
          intro K2 hK2
          refine awp_cond_k ?_
          intro X Y hX hY
          simp only [↓DN, UP, implies_true, forall_eq', ne_eq, if_true, if_false, aval, abin, aint, ashift, abool, astr, anil, aun, aconv, aindexAddr, aindex, optInt, aslice, abuiltin, asrc, afill, placeOf, asetAll, undef, aload, apart, AV.cells, AV.one, aeval, updO, upd, initE, gdst, thenQ, blockQ, srcOk, Array.isEmpty, List.isEmpty, bytesV, reduceCtorEq, ↓reduceIte, Nat.reduceLT, Nat.reduceLeDiff, Nat.reduceEqDiff, Nat.reduceAdd, Nat.reduceMul, Nat.reducePow, Nat.reduceSub, Int.reduceLT, Int.reduceLE, Int.reduceToNat, RSha384, Tryd.ntmps84, Bool.not_true, Bool.not_false, Bool.false_eq_true, Bool.true_eq_false, false_imp_iff, true_imp_iff, decide_eq_true_eq, decide_eq_false_iff_not]
          refine hX ?_
          clear hX hY X Y
          refine awp_skip ?_
          refine hK2 _ _ ?_
          clear hK2 K2
          refine awp_seq_k ?_
          intro K3 hK3
          refine awp_block ?_
          refine awp_reg_seq ?_
          intro K hK
          simp only [↓DN, UP, implies_true, forall_eq', ne_eq, if_true, if_false, aval, abin, aint, ashift, abool, astr, anil, aun, aconv, aindexAddr, aindex, optInt, aslice, abuiltin, asrc, afill, placeOf, asetAll, undef, aload, apart, AV.cells, AV.one, aeval, updO, upd, initE, gdst, thenQ, blockQ, srcOk, Array.isEmpty, List.isEmpty, bytesV, reduceCtorEq, ↓reduceIte, Nat.reduceLT, Nat.reduceLeDiff, Nat.reduceEqDiff, Nat.reduceAdd, Nat.reduceMul, Nat.reducePow, Nat.reduceSub, Int.reduceLT, Int.reduceLE, Int.reduceToNat, RSha384, Tryd.ntmps84, g83]
          refine hK _ _ ?_
          clear hK K
          have d2 := addL_drop t u i hi'
          have d5 := stC_drop u i hi'
          have hset := addL_set t u i hi'
          have hlen := addL_len t u i hi
          generalize t.list.getD i 0 = x at *
          generalize u.list.getD i 0 = y at *
          obtain ⟨X, hX⟩ : ∃ X, X = addL t u i := ⟨_, rfl⟩
          rw [← hX] at d2 hset hlen j2
          obtain ⟨Y, hY⟩ : ∃ Y, Y = stC u := ⟨_, rfl⟩
          rw [← hY] at d5 j5
          refine awp_mrk_end T.mixed [(o2, X), (o5, Y)] [] [2, 5] [8] (by kernel_rfl) (by simp only [Pres_cons, Pres_nil, and_true]; simp [AS.set, upd, j2, j5]) ?_
          intro K hK
          simp only [↓AXr_nil, ↓AXr_cons, gval, lval, fzGet_cons, fzGet_nil, Pres_cons, Pres_nil, List.any_cons, List.any_nil, List.contains_cons, List.contains_nil, Nat.reduceBEq, Bool.or_false, Bool.or_true, Bool.or_self, Bool.false_or, ↓DN, UP, implies_true, forall_eq', ne_eq, if_true, if_false, aval, abin, aint, ashift, abool, astr, anil, aun, aconv, aindexAddr, aindex, optInt, aslice, abuiltin, asrc, afill, placeOf, asetAll, undef, aload, apart, AV.cells, AV.one, aeval, updO, upd, initE, gdst, thenQ, blockQ, srcOk, Array.isEmpty, List.isEmpty, bytesV, reduceCtorEq, ↓reduceIte, Nat.reduceLT, Nat.reduceLeDiff, Nat.reduceEqDiff, Nat.reduceAdd, Nat.reduceMul, Nat.reducePow, Nat.reduceSub, Int.reduceLT, Int.reduceLE, Int.reduceToNat, RSha384, Tryd.ntmps84, g2, g5, g83, c8, hi0, hi2, d2, d5, h52, h52.symm, j2, j5, wadd, hset, hlen]
          refine ⟨by omega, hK _ _ ?_⟩
          clear hK K
          simp only [blockQ, thenQ, if_true, if_false]
          refine hK3 _ _ ?_
          clear hK3 K3
          refine awp_reg_end ?_
          intro K hK
          simp only [↓DN, UP, implies_true, forall_eq', ne_eq, if_true, if_false, aval, abin, aint, ashift, abool, astr, anil, aun, aconv, aindexAddr, aindex, optInt, aslice, abuiltin, asrc, afill, placeOf, asetAll, undef, aload, apart, AV.cells, AV.one, aeval, updO, upd, initE, gdst, thenQ, blockQ, srcOk, Array.isEmpty, List.isEmpty, bytesV, reduceCtorEq, ↓reduceIte, Nat.reduceLT, Nat.reduceLeDiff, Nat.reduceEqDiff, Nat.reduceAdd, Nat.reduceMul, Nat.reducePow, Nat.reduceSub, Int.reduceLT, Int.reduceLE, Int.reduceToNat, RSha384, Tryd.ntmps84, g83, w_succ i (by omega)]
          refine hK _ _ ?_
          clear hK K
          refine ⟨⟨i + 1, by omega, by simp only [upd, g2, Nat.reduceEqDiff, ↓reduceIte], by simp only [upd, g4, Nat.reduceEqDiff, ↓reduceIte], by simp only [upd, g5, Nat.reduceEqDiff, ↓reduceIte], by simp only [upd, ↓reduceIte], AS.set_objs_same _ _ _, by rw [AS.set_objs_ne _ h52, j5, hY], by rw [AS.set_objs_ne _ h42]; exact j4, AS.le_set hle ho2 _⟩, ?_⟩
          simp only [g83, upd, ↓reduceIte]
          omega
        · have hi2 : ¬ (i : Int) < 8 := by omega
          obtain rfl : i = 8 := by omega
          refine awp_reg_seq ?_
          intro K hK
          simp only [↓DN, UP, implies_true, forall_eq', ne_eq, if_true, if_false, aval, abin, aint, ashift, abool, astr, anil, aun, aconv, aindexAddr, aindex, optInt, aslice, abuiltin, asrc, afill, placeOf, asetAll, undef, aload, apart, AV.cells, AV.one, aeval, updO, upd, initE, gdst, thenQ, blockQ, srcOk, Array.isEmpty, List.isEmpty, bytesV, reduceCtorEq, ↓reduceIte, Nat.reduceLT, Nat.reduceLeDiff, Nat.reduceEqDiff, Nat.reduceAdd, Nat.reduceMul, Nat.reducePow, Nat.reduceSub, Int.reduceLT, Int.reduceLE, Int.reduceToNat, RSha384, Tryd.ntmps84, g83, decide_eq_false hi2]
          refine hK _ _ ?_
          clear hK K
          refine awp_seq_k ?_
          intro K2 hK2
          refine awp_cond_k ?_
          intro X Y hX hY
          simp only [↓DN, UP, implies_true, forall_eq', ne_eq, if_true, if_false, aval, abin, aint, ashift, abool, astr, anil, aun, aconv, aindexAddr, aindex, optInt, aslice, abuiltin, asrc, afill, placeOf, asetAll, undef, aload, apart, AV.cells, AV.one, aeval, updO, upd, initE, gdst, thenQ, blockQ, srcOk, Array.isEmpty, List.isEmpty, bytesV, reduceCtorEq, ↓reduceIte, Nat.reduceLT, Nat.reduceLeDiff, Nat.reduceEqDiff, Nat.reduceAdd, Nat.reduceMul, Nat.reducePow, Nat.reduceSub, Int.reduceLT, Int.reduceLE, Int.reduceToNat, RSha384, Tryd.ntmps84, Bool.not_true, Bool.not_false, Bool.false_eq_true, Bool.true_eq_false, false_imp_iff, true_imp_iff, decide_eq_true_eq, decide_eq_false_iff_not]
          refine hY ?_
          clear hX hY X Y
          refine awp_exit ?_
          simp only [thenQ, blockQ, if_true]
          clear hK2 K2
          refine hK _ _ ?_
          clear hK K
          rw [addL_full] at j2
          have hall := stC_all (t.add u)
          have hlen : (stC (t.add u)).length = 8 := rfl
          have htk : List.take 8 (stC (t.add u)) = stC (t.add u) := rfl
          obtain ⟨X, hX⟩ : ∃ X, X = stC (t.add u) := ⟨_, rfl⟩
          rw [← hX] at j2 hall hlen htk ⊢
          refine awp_reg_seq ?_
          intro K hK
          simp only [↓DN, UP, implies_true, forall_eq', ne_eq, if_true, if_false, aval, abin, aint, ashift, abool, astr, anil, aun, aconv, aindexAddr, aindex, optInt, aslice, abuiltin, asrc, afill, placeOf, asetAll, undef, aload, apart, AV.cells, AV.one, aeval, updO, upd, initE, gdst, thenQ, blockQ, srcOk, Array.isEmpty, List.isEmpty, bytesV, reduceCtorEq, ↓reduceIte, Nat.reduceLT, Nat.reduceLeDiff, Nat.reduceEqDiff, Nat.reduceAdd, Nat.reduceMul, Nat.reducePow, Nat.reduceSub, Int.reduceLT, Int.reduceLE, Int.reduceToNat, RSha384, Tryd.ntmps84, g2, g4, j2, j4, hlen, htk, hall]
          rw [asetAll_whole Z X (by omega)]
          refine ⟨by omega, hK _ _ ?_⟩
          clear hK K
          refine awp_ret ?_
          refine aends_cell (v := .agg X) (o := o4) (off := 0) (by simp only [upd, g4, Nat.reduceEqDiff, ↓reduceIte]) (AS.set_objs_same _ _ _) (by rw [T.c100]; decide) (by simp only [↓DN, UP, implies_true, forall_eq', ne_eq, if_true, if_false, aval, abin, aint, ashift, abool, astr, anil, aun, aconv, aindexAddr, aindex, optInt, aslice, abuiltin, asrc, afill, placeOf, asetAll, undef, aload, apart, AV.cells, AV.one, aeval, updO, upd, initE, gdst, thenQ, blockQ, srcOk, Array.isEmpty, List.isEmpty, bytesV, reduceCtorEq, ↓reduceIte, Nat.reduceLT, Nat.reduceLeDiff, Nat.reduceEqDiff, Nat.reduceAdd, Nat.reduceMul, Nat.reducePow, Nat.reduceSub, Int.reduceLT, Int.reduceLE, Int.reduceToNat, RSha384, Tryd.ntmps84, hlen, htk]) ?_
          exact ⟨_, s, AV.weak.refl _, AS.le_set hle ho4' _, rfl, rfl⟩

end Go.Proofs.YtpakgjmcaefnmaaDoor


