/- Contracts of the program's functions, each walked once; the conditions stand in each theorem. -/
import Derived.Test.YtpakgjmcaefnmaaDoorSch4
set_option linter.unusedSimpArgs false
set_option linter.unusedVariables false
set_option autoImplicit false
namespace Go.Proofs.YtpakgjmcaefnmaaDoor
open Go Go.AM Go.Proofs

theorem RSch713 : type_of% (And.intro (And.intro (And.intro (And.intro (And.intro @Tryd.underlying3 T.c3) (And.intro T.g3 (And.intro T.b3 T.z3))) (And.intro (And.intro @Tryd.underlying4 (And.intro T.c4 T.g4)) (And.intro T.b4 (And.intro T.z4 @Tryd.underlying5)))) (And.intro (And.intro (And.intro T.c5 T.g5) (And.intro T.b5 (And.intro T.z5 @Tryd.underlying9))) (And.intro (And.intro T.c9 (And.intro T.g9 T.b9)) (And.intro T.z9 (And.intro @Tryd.underlying22 T.c22))))) (And.intro (And.intro (And.intro (And.intro T.g22 T.b22) (And.intro T.z22 (And.intro T.s22 @Tryd.underlying52))) (And.intro (And.intro T.c52 (And.intro T.g52 T.b52)) (And.intro T.z52 (And.intro T.h52 @Tryd.underlying57)))) (And.intro (And.intro (And.intro T.c57 (And.intro T.g57 T.b57)) (And.intro T.z57 (And.intro T.f52_0 T.f52_1))) (And.intro (And.intro T.f52_2 (And.intro T.f52_3 T.f52_4)) (And.intro T.f52_5 (And.intro T.k45 T.k39)))))) :=
  (And.intro (And.intro (And.intro (And.intro (And.intro @Tryd.underlying3 T.c3) (And.intro T.g3 (And.intro T.b3 T.z3))) (And.intro (And.intro @Tryd.underlying4 (And.intro T.c4 T.g4)) (And.intro T.b4 (And.intro T.z4 @Tryd.underlying5)))) (And.intro (And.intro (And.intro T.c5 T.g5) (And.intro T.b5 (And.intro T.z5 @Tryd.underlying9))) (And.intro (And.intro T.c9 (And.intro T.g9 T.b9)) (And.intro T.z9 (And.intro @Tryd.underlying22 T.c22))))) (And.intro (And.intro (And.intro (And.intro T.g22 T.b22) (And.intro T.z22 (And.intro T.s22 @Tryd.underlying52))) (And.intro (And.intro T.c52 (And.intro T.g52 T.b52)) (And.intro T.z52 (And.intro T.h52 @Tryd.underlying57)))) (And.intro (And.intro (And.intro T.c57 (And.intro T.g57 T.b57)) (And.intro T.z57 (And.intro T.f52_0 T.f52_1))) (And.intro (And.intro T.f52_2 (And.intro T.f52_3 T.f52_4)) (And.intro T.f52_5 (And.intro T.k45 T.k39))))))

variable {Γ : Nat → List AV}

theorem six_list (la : List (List UInt8)) (h : la.length = 6) : sixV la = [bytesV (la.getD 0 []) .any, bytesV (la.getD 1 []) .any, bytesV (la.getD 2 []) .any, bytesV (la.getD 3 []) .any, bytesV (la.getD 4 []) .any, bytesV (la.getD 5 []) .any] := by
  match la, h with
  | [a, b, c, d, e, f], _ => rfl

set_option maxHeartbeats 8000000 in
set_option maxRecDepth 100000 in
theorem scheduleSames_calls (hG0 : Γ 0 = stC Sha.H0) (hG : Γ 1 = Sha.K.map wV) (la lb : List (List UInt8)) (ha : la.length = 6) (hb : lb.length = 6) (s : AS) :
    ACalls Tryd.prog Γ 13 [.agg (sixV la), .agg (sixV lb)] s (fun r s' => r = .v (.bool true)) := by
  refine acalls_body Tryd.func13 rfl Tryd.ntmps13 Tryd.results13 (by simp) ?_
  have hsa : (sixV la).length = 6 := by simp [sixV, ha]
  have hsb : (sixV lb).length = 6 := by simp [sixV, hb]
  have hga := six_get la
  have hgb := six_get lb
  have hsame := fun s => schSame_calls (Γ := Γ) la lb ha hb s
  have sa := six_list la ha
  have sb := six_list lb hb
  generalize hXa : sixV la = Xa at *
  generalize hXb : sixV lb = Xb at *
  clear hXa hXb
  refine awp_reg_frz2 2 3 (by decide) (by decide) (by decide) ?_
  intro K hK
  simp only [↓AXq_nil, ↓AXq_cons, pval, List.contains_cons, List.contains_nil, Nat.reduceBEq, Bool.or_false, Bool.or_true, Bool.or_self, Bool.false_eq_true, Bool.false_or, ↓DN, UP, implies_true, forall_eq', ne_eq, if_true, if_false, aval, abin, aint, ashift, abool, astr, anil, aun, aconv, aindexAddr, aindex, optInt, aslice, abuiltin, asrc, afill, placeOf, asetAll, undef, aload, apart, AV.cells, AV.one, aeval, updO, upd, initE, gdst, thenQ, blockQ, srcOk, Array.isEmpty, List.isEmpty, bytesV, reduceCtorEq, ↓reduceIte, Nat.reduceLT, Nat.reduceLeDiff, Nat.reduceEqDiff, Nat.reduceAdd, Nat.reduceMul, Nat.reducePow, Nat.reduceSub, Int.reduceLT, Int.reduceLE, Int.reduceToNat, RSch713, Tryd.ntmps13, hsa, hsb]
  intro o1 h1 o2 h2
  refine hK _ _ o1 o2 _ _ (by simp only [upd, Nat.reduceEqDiff, ↓reduceIte]) (by simp only [upd, Nat.reduceEqDiff, ↓reduceIte]) h1 (by rw [AS.set_objs_eq]; exact h2) ?_
  clear hK K h1 h2
  refine awp_seq_k ?_
  intro K hK
  refine awp_reg_seq ?_
  intro K hK
  simp only [↓DN, UP, implies_true, forall_eq', ne_eq, if_true, if_false, aval, abin, aint, ashift, abool, astr, anil, aun, aconv, aindexAddr, aindex, optInt, aslice, abuiltin, asrc, afill, placeOf, asetAll, undef, aload, apart, AV.cells, AV.one, aeval, updO, upd, initE, gdst, thenQ, blockQ, srcOk, Array.isEmpty, List.isEmpty, bytesV, reduceCtorEq, ↓reduceIte, Nat.reduceLT, Nat.reduceLeDiff, Nat.reduceEqDiff, Nat.reduceAdd, Nat.reduceMul, Nat.reducePow, Nat.reduceSub, Int.reduceLT, Int.reduceLE, Int.reduceToNat, RSch713, Tryd.ntmps13]
  refine acallk (awake22_calls hG0 hG _) ?_
  rintro r s1 ⟨rfl, rfl⟩
  simp only [↓AXq_nil, ↓AXq_cons, pval, List.contains_cons, List.contains_nil, Nat.reduceBEq, Bool.or_false, Bool.or_true, Bool.or_self, Bool.false_eq_true, Bool.false_or, ↓DN, UP, implies_true, forall_eq', ne_eq, if_true, if_false, aval, abin, aint, ashift, abool, astr, anil, aun, aconv, aindexAddr, aindex, optInt, aslice, abuiltin, asrc, afill, placeOf, asetAll, undef, aload, apart, AV.cells, AV.one, aeval, updO, upd, initE, gdst, thenQ, blockQ, srcOk, Array.isEmpty, List.isEmpty, bytesV, reduceCtorEq, ↓reduceIte, Nat.reduceLT, Nat.reduceLeDiff, Nat.reduceEqDiff, Nat.reduceAdd, Nat.reduceMul, Nat.reducePow, Nat.reduceSub, Int.reduceLT, Int.reduceLE, Int.reduceToNat, RSch713, Tryd.ntmps13]
  refine hK _ _ ?_
  clear hK K
  refine awp_cond_k ?_
  intro X Y hX hY
  simp only [↓DN, UP, implies_true, forall_eq', ne_eq, if_true, if_false, aval, abin, aint, ashift, abool, astr, anil, aun, aconv, aindexAddr, aindex, optInt, aslice, abuiltin, asrc, afill, placeOf, asetAll, undef, aload, apart, AV.cells, AV.one, aeval, updO, upd, initE, gdst, thenQ, blockQ, srcOk, Array.isEmpty, List.isEmpty, bytesV, reduceCtorEq, ↓reduceIte, Nat.reduceLT, Nat.reduceLeDiff, Nat.reduceEqDiff, Nat.reduceAdd, Nat.reduceMul, Nat.reducePow, Nat.reduceSub, Int.reduceLT, Int.reduceLE, Int.reduceToNat, RSch713, Tryd.ntmps13, Bool.not_true, Bool.not_false, Bool.false_eq_true, Bool.true_eq_false, false_imp_iff, true_imp_iff, decide_eq_true_eq, decide_eq_false_iff_not]
  refine hY ?_
  clear hX hY X Y
  refine awp_skip ?_
  refine hK _ _ ?_
  clear hK K
  have xa0 : Xa[0]? = some (bytesV (la.getD 0 []) .any) := by rw [sa]; rfl
  have xa1 : (List.drop 1 Xa)[0]? = some (bytesV (la.getD 1 []) .any) := by rw [sa]; rfl
  have xa2 : (List.drop 2 Xa)[0]? = some (bytesV (la.getD 2 []) .any) := by rw [sa]; rfl
  have xa3 : (List.drop 3 Xa)[0]? = some (bytesV (la.getD 3 []) .any) := by rw [sa]; rfl
  have xa4 : (List.drop 4 Xa)[0]? = some (bytesV (la.getD 4 []) .any) := by rw [sa]; rfl
  have xa5 : (List.drop 5 Xa)[0]? = some (bytesV (la.getD 5 []) .any) := by rw [sa]; rfl
  have xb0 : Xb[0]? = some (bytesV (lb.getD 0 []) .any) := by rw [sb]; rfl
  have xb1 : (List.drop 1 Xb)[0]? = some (bytesV (lb.getD 1 []) .any) := by rw [sb]; rfl
  have xb2 : (List.drop 2 Xb)[0]? = some (bytesV (lb.getD 2 []) .any) := by rw [sb]; rfl
  have xb3 : (List.drop 3 Xb)[0]? = some (bytesV (lb.getD 3 []) .any) := by rw [sb]; rfl
  have xb4 : (List.drop 4 Xb)[0]? = some (bytesV (lb.getD 4 []) .any) := by rw [sb]; rfl
  have xb5 : (List.drop 5 Xb)[0]? = some (bytesV (lb.getD 5 []) .any) := by rw [sb]; rfl
  have rep6 : ∀ x : AV, List.replicate 6 x = [x, x, x, x, x, x] := fun _ => rfl
  refine awp_reg_seq ?_
  intro K hK
  simp only [↓DN, UP, implies_true, forall_eq', ne_eq, if_true, if_false, aval, abin, aint, ashift, abool, astr, anil, aun, aconv, aindexAddr, aindex, optInt, aslice, abuiltin, asrc, afill, placeOf, asetAll, undef, aload, apart, AV.cells, AV.one, aeval, updO, upd, initE, gdst, thenQ, blockQ, srcOk, Array.isEmpty, List.isEmpty, bytesV, reduceCtorEq, ↓reduceIte, Nat.reduceLT, Nat.reduceLeDiff, Nat.reduceEqDiff, Nat.reduceAdd, Nat.reduceMul, Nat.reducePow, Nat.reduceSub, Int.reduceLT, Int.reduceLE, Int.reduceToNat, RSch713, Tryd.ntmps13, hsa, xa0, xa1, xa2, xa3, xa4, xa5, rep6, show (0 : Int) < ((6 : Nat) : Int) from by decide, show (1 : Int) < ((6 : Nat) : Int) from by decide, show (2 : Int) < ((6 : Nat) : Int) from by decide, show (3 : Int) < ((6 : Nat) : Int) from by decide, show (4 : Int) < ((6 : Nat) : Int) from by decide, show (5 : Int) < ((6 : Nat) : Int) from by decide]
  intro o5 ho5
  rw [show ([AV.sl 1 (la.getD 0 []).length (List.map byteV (la.getD 0 [])) .any, AV.sl 1 (la.getD 1 []).length (List.map byteV (la.getD 1 [])) .any, AV.sl 1 (la.getD 2 []).length (List.map byteV (la.getD 2 [])) .any, AV.sl 1 (la.getD 3 []).length (List.map byteV (la.getD 3 [])) .any, AV.sl 1 (la.getD 4 []).length (List.map byteV (la.getD 4 [])) .any, AV.sl 1 (la.getD 5 []).length (List.map byteV (la.getD 5 [])) .any] : List AV) = Xa from sa.symm]
  refine hK _ _ ?_
  clear hK K
  refine awp_reg_seq ?_
  intro K hK
  simp only [↓DN, UP, implies_true, forall_eq', ne_eq, if_true, if_false, aval, abin, aint, ashift, abool, astr, anil, aun, aconv, aindexAddr, aindex, optInt, aslice, abuiltin, asrc, afill, placeOf, asetAll, undef, aload, apart, AV.cells, AV.one, aeval, updO, upd, initE, gdst, thenQ, blockQ, srcOk, Array.isEmpty, List.isEmpty, bytesV, reduceCtorEq, ↓reduceIte, Nat.reduceLT, Nat.reduceLeDiff, Nat.reduceEqDiff, Nat.reduceAdd, Nat.reduceMul, Nat.reducePow, Nat.reduceSub, Int.reduceLT, Int.reduceLE, Int.reduceToNat, RSch713, Tryd.ntmps13, hsb, xb0, xb1, xb2, xb3, xb4, xb5, rep6, show (0 : Int) < ((6 : Nat) : Int) from by decide, show (1 : Int) < ((6 : Nat) : Int) from by decide, show (2 : Int) < ((6 : Nat) : Int) from by decide, show (3 : Int) < ((6 : Nat) : Int) from by decide, show (4 : Int) < ((6 : Nat) : Int) from by decide, show (5 : Int) < ((6 : Nat) : Int) from by decide]
  intro o6 ho6
  rw [show ([AV.sl 1 (lb.getD 0 []).length (List.map byteV (lb.getD 0 [])) .any, AV.sl 1 (lb.getD 1 []).length (List.map byteV (lb.getD 1 [])) .any, AV.sl 1 (lb.getD 2 []).length (List.map byteV (lb.getD 2 [])) .any, AV.sl 1 (lb.getD 3 []).length (List.map byteV (lb.getD 3 [])) .any, AV.sl 1 (lb.getD 4 []).length (List.map byteV (lb.getD 4 [])) .any, AV.sl 1 (lb.getD 5 []).length (List.map byteV (lb.getD 5 [])) .any] : List AV) = Xb from sb.symm]
  refine hK _ _ ?_
  clear hK K
  have h65 : ¬ o6 = o5 := fun e => by rw [e] at ho6; simp [AS.set] at ho6
  have h56 : ¬ o5 = o6 := fun e => h65 e.symm
  have hle : s1.le ((s1.set o5 Xa).set o6 Xb) := AS.le_set (AS.le_set (AS.le.refl s1) ho5 _) (by simpa [AS.set, upd, h65] using ho6) _
  have j6 : ((s1.set o5 Xa).set o6 Xb).objs o6 = some Xb := AS.set_objs_same _ _ _
  have j5 : ((s1.set o5 Xa).set o6 Xb).objs o5 = some Xa := by rw [AS.set_objs_ne _ h56]; exact AS.set_objs_same _ _ _
  generalize (s1.set o5 Xa).set o6 Xb = s2 at *
  clear xa0 xa1 xa2 xa3 xa4 xa5 xb0 xb1 xb2 xb3 xb4 xb5 sa sb ho6 ho5
  refine awp_reg_seq ?_
  intro K hK
  simp only [↓DN, UP, implies_true, forall_eq', ne_eq, if_true, if_false, aval, abin, aint, ashift, abool, astr, anil, aun, aconv, aindexAddr, aindex, optInt, aslice, abuiltin, asrc, afill, placeOf, asetAll, undef, aload, apart, AV.cells, AV.one, aeval, updO, upd, initE, gdst, thenQ, blockQ, srcOk, Array.isEmpty, List.isEmpty, bytesV, reduceCtorEq, ↓reduceIte, Nat.reduceLT, Nat.reduceLeDiff, Nat.reduceEqDiff, Nat.reduceAdd, Nat.reduceMul, Nat.reducePow, Nat.reduceSub, Int.reduceLT, Int.reduceLE, Int.reduceToNat, RSch713, Tryd.ntmps13]
  refine hK _ _ ?_
  clear hK K
  refine awp_seq_k ?_
  intro K hK
  refine awp_reg_seq ?_
  intro K hK
  simp only [↓DN, UP, implies_true, forall_eq', ne_eq, if_true, if_false, aval, abin, aint, ashift, abool, astr, anil, aun, aconv, aindexAddr, aindex, optInt, aslice, abuiltin, asrc, afill, placeOf, asetAll, undef, aload, apart, AV.cells, AV.one, aeval, updO, upd, initE, gdst, thenQ, blockQ, srcOk, Array.isEmpty, List.isEmpty, bytesV, reduceCtorEq, ↓reduceIte, Nat.reduceLT, Nat.reduceLeDiff, Nat.reduceEqDiff, Nat.reduceAdd, Nat.reduceMul, Nat.reducePow, Nat.reduceSub, Int.reduceLT, Int.reduceLE, Int.reduceToNat, RSch713, Tryd.ntmps13]
  refine hK _ _ ?_
  clear hK K
  refine awp_block ?_
  refine awp_loop (fun E s3 => ∃ i : Nat, i ≤ 6 ∧ E 2 = .rop Xa ∧ E 3 = .rop Xb ∧ E 5 = .ptr o5 0 ∧ E 6 = .ptr o6 0 ∧ E 7 = .v (.bool (decide (la.take i = lb.take i))) ∧ E 8 = .v (.int .i64 i) ∧ s3 = s2)
    (fun E _ => match E 8 with | .v (.int _ y) => 6 - y.toNat | _ => 0) ?_ ?_
  · exact ⟨0, by omega, by simp only [upd, Nat.reduceEqDiff, ↓reduceIte], by simp only [upd, Nat.reduceEqDiff, ↓reduceIte], by simp only [upd, Nat.reduceEqDiff, ↓reduceIte], by simp only [upd, Nat.reduceEqDiff, ↓reduceIte], by simp only [upd, Nat.reduceEqDiff, ↓reduceIte]; simp, by simp only [upd, ↓reduceIte]; rfl, rfl⟩
  · rintro E3 s3 ⟨i, hi, g2, g3, g5, g6, g7, g8, rfl⟩ -
    by_cases hi' : i < 6
    · have hlt : (i : Int) < 6 := by omega
      have hlt2 : (i : Int) < ((6 : Nat) : Int) := by omega
      have hi0 : (0 : Int) ≤ (i : Int) := by omega
      have hxa := hga i (by omega)
      have hxb := hgb i (by omega)
      have hts := take_same6 la lb i (by omega) (by omega)
      have da : (List.drop i Xa)[0]? = some (bytesV (la.getD i []) .any) := by
        have : (List.take 1 (List.drop i Xa))[0]? = some (bytesV (la.getD i []) .any) := by rw [hxa]; rfl
        simpa [List.getElem?_take] using this
      have db : (List.drop i Xb)[0]? = some (bytesV (lb.getD i []) .any) := by
        have : (List.take 1 (List.drop i Xb))[0]? = some (bytesV (lb.getD i []) .any) := by rw [hxb]; rfl
        simpa [List.getElem?_take] using this
      clear hxa hxb
      generalize la.getD i [] = xa at *
      generalize lb.getD i [] = xb at *
      refine awp_seq_k ?_
      intro K2 hK2
      refine awp_reg_seq ?_
      intro K hK
      simp only [↓DN, UP, implies_true, forall_eq', ne_eq, if_true, if_false, aval, abin, aint, ashift, abool, astr, anil, aun, aconv, aindexAddr, aindex, optInt, aslice, abuiltin, asrc, afill, placeOf, asetAll, undef, aload, apart, AV.cells, AV.one, aeval, updO, upd, initE, gdst, thenQ, blockQ, srcOk, Array.isEmpty, List.isEmpty, bytesV, reduceCtorEq, ↓reduceIte, Nat.reduceLT, Nat.reduceLeDiff, Nat.reduceEqDiff, Nat.reduceAdd, Nat.reduceMul, Nat.reducePow, Nat.reduceSub, Int.reduceLT, Int.reduceLE, Int.reduceToNat, RSch713, Tryd.ntmps13, g8, decide_eq_true hlt]
      refine hK _ _ ?_
      clear hK K
      refine awp_cond_k ?_
      intro X Y hX hY
      simp only [↓DN, UP, implies_true, forall_eq', ne_eq, if_true, if_false, aval, abin, aint, ashift, abool, astr, anil, aun, aconv, aindexAddr, aindex, optInt, aslice, abuiltin, asrc, afill, placeOf, asetAll, undef, aload, apart, AV.cells, AV.one, aeval, updO, upd, initE, gdst, thenQ, blockQ, srcOk, Array.isEmpty, List.isEmpty, bytesV, reduceCtorEq, ↓reduceIte, Nat.reduceLT, Nat.reduceLeDiff, Nat.reduceEqDiff, Nat.reduceAdd, Nat.reduceMul, Nat.reducePow, Nat.reduceSub, Int.reduceLT, Int.reduceLE, Int.reduceToNat, RSch713, Tryd.ntmps13, Bool.not_true, Bool.not_false, Bool.false_eq_true, Bool.true_eq_false, false_imp_iff, true_imp_iff, decide_eq_true_eq, decide_eq_false_iff_not]
      refine hX ?_
      clear hX hY X Y
      refine awp_skip ?_
      refine hK2 _ _ ?_
      clear hK2 K2
      refine awp_seq_k ?_
      intro K3 hK3
      refine awp_block ?_
      refine awp_seq_k ?_
      intro K4 hK4
      by_cases c1 : 100 < xa.length
      · refine awp_reg_seq ?_
        intro K hK
        simp only [↓DN, UP, implies_true, forall_eq', ne_eq, if_true, if_false, aval, abin, aint, ashift, abool, astr, anil, aun, aconv, aindexAddr, aindex, optInt, aslice, abuiltin, asrc, afill, placeOf, asetAll, undef, aload, apart, AV.cells, AV.one, aeval, updO, upd, initE, gdst, thenQ, blockQ, srcOk, Array.isEmpty, List.isEmpty, bytesV, reduceCtorEq, ↓reduceIte, Nat.reduceLT, Nat.reduceLeDiff, Nat.reduceEqDiff, Nat.reduceAdd, Nat.reduceMul, Nat.reducePow, Nat.reduceSub, Int.reduceLT, Int.reduceLE, Int.reduceToNat, RSch713, Tryd.ntmps13, g2, g3, g8, hsa, hsb, hi0, hlt, hlt2, da, db, decide_eq_true (show (100 : Int) < (xa.length : Int) by omega)]
        refine hK _ _ ?_
        clear hK K
        refine awp_cond_k ?_
        intro X Y hX hY
        simp only [↓DN, UP, implies_true, forall_eq', ne_eq, if_true, if_false, aval, abin, aint, ashift, abool, astr, anil, aun, aconv, aindexAddr, aindex, optInt, aslice, abuiltin, asrc, afill, placeOf, asetAll, undef, aload, apart, AV.cells, AV.one, aeval, updO, upd, initE, gdst, thenQ, blockQ, srcOk, Array.isEmpty, List.isEmpty, bytesV, reduceCtorEq, ↓reduceIte, Nat.reduceLT, Nat.reduceLeDiff, Nat.reduceEqDiff, Nat.reduceAdd, Nat.reduceMul, Nat.reducePow, Nat.reduceSub, Int.reduceLT, Int.reduceLE, Int.reduceToNat, RSch713, Tryd.ntmps13, Bool.not_true, Bool.not_false, Bool.false_eq_true, Bool.true_eq_false, false_imp_iff, true_imp_iff, decide_eq_true_eq, decide_eq_false_iff_not]
        refine hX ?_
        clear hX hY X Y
        refine awp_reg_seq ?_
        intro K hK
        simp only [↓DN, UP, implies_true, forall_eq', ne_eq, if_true, if_false, aval, abin, aint, ashift, abool, astr, anil, aun, aconv, aindexAddr, aindex, optInt, aslice, abuiltin, asrc, afill, placeOf, asetAll, undef, aload, apart, AV.cells, AV.one, aeval, updO, upd, initE, gdst, thenQ, blockQ, srcOk, Array.isEmpty, List.isEmpty, bytesV, reduceCtorEq, ↓reduceIte, Nat.reduceLT, Nat.reduceLeDiff, Nat.reduceEqDiff, Nat.reduceAdd, Nat.reduceMul, Nat.reducePow, Nat.reduceSub, Int.reduceLT, Int.reduceLE, Int.reduceToNat, RSch713, Tryd.ntmps13]
        refine hK _ _ ?_
        clear hK K
        refine awp_ret ?_
        simp only [thenQ, blockQ]
        simp only [retQ, AEnds, aresL, ares, List.toList_toArray, ↓upd_same]; try simp only [↓DN, UP, implies_true, forall_eq', ne_eq, if_true, if_false, aval, abin, aint, ashift, abool, astr, anil, aun, aconv, aindexAddr, aindex, optInt, aslice, abuiltin, asrc, afill, placeOf, asetAll, undef, aload, apart, AV.cells, AV.one, aeval, updO, upd, initE, gdst, thenQ, blockQ, srcOk, Array.isEmpty, List.isEmpty, bytesV, reduceCtorEq, ↓reduceIte, Nat.reduceLT, Nat.reduceLeDiff, Nat.reduceEqDiff, Nat.reduceAdd, Nat.reduceMul, Nat.reducePow, Nat.reduceSub, Int.reduceLT, Int.reduceLE, Int.reduceToNat, RSch713, Tryd.ntmps13, atuple_nil, atuple_one, atuple_two, atuple_three, atuple_four, atuple_five]
        exact ⟨_, s1, AV.weak.refl _, hle, rfl⟩
      by_cases c2 : 100 < xb.length
      · refine awp_reg_seq ?_
        intro K hK
        simp only [↓DN, UP, implies_true, forall_eq', ne_eq, if_true, if_false, aval, abin, aint, ashift, abool, astr, anil, aun, aconv, aindexAddr, aindex, optInt, aslice, abuiltin, asrc, afill, placeOf, asetAll, undef, aload, apart, AV.cells, AV.one, aeval, updO, upd, initE, gdst, thenQ, blockQ, srcOk, Array.isEmpty, List.isEmpty, bytesV, reduceCtorEq, ↓reduceIte, Nat.reduceLT, Nat.reduceLeDiff, Nat.reduceEqDiff, Nat.reduceAdd, Nat.reduceMul, Nat.reducePow, Nat.reduceSub, Int.reduceLT, Int.reduceLE, Int.reduceToNat, RSch713, Tryd.ntmps13, g2, g3, g8, hsa, hsb, hi0, hlt, hlt2, da, db, decide_eq_false (show ¬ (100 : Int) < (xa.length : Int) by omega), decide_eq_true (show (100 : Int) < (xb.length : Int) by omega)]
        refine hK _ _ ?_
        clear hK K
        refine awp_cond_k ?_
        intro X Y hX hY
        simp only [↓DN, UP, implies_true, forall_eq', ne_eq, if_true, if_false, aval, abin, aint, ashift, abool, astr, anil, aun, aconv, aindexAddr, aindex, optInt, aslice, abuiltin, asrc, afill, placeOf, asetAll, undef, aload, apart, AV.cells, AV.one, aeval, updO, upd, initE, gdst, thenQ, blockQ, srcOk, Array.isEmpty, List.isEmpty, bytesV, reduceCtorEq, ↓reduceIte, Nat.reduceLT, Nat.reduceLeDiff, Nat.reduceEqDiff, Nat.reduceAdd, Nat.reduceMul, Nat.reducePow, Nat.reduceSub, Int.reduceLT, Int.reduceLE, Int.reduceToNat, RSch713, Tryd.ntmps13, Bool.not_true, Bool.not_false, Bool.false_eq_true, Bool.true_eq_false, false_imp_iff, true_imp_iff, decide_eq_true_eq, decide_eq_false_iff_not]
        refine hX ?_
        clear hX hY X Y
        refine awp_reg_seq ?_
        intro K hK
        simp only [↓DN, UP, implies_true, forall_eq', ne_eq, if_true, if_false, aval, abin, aint, ashift, abool, astr, anil, aun, aconv, aindexAddr, aindex, optInt, aslice, abuiltin, asrc, afill, placeOf, asetAll, undef, aload, apart, AV.cells, AV.one, aeval, updO, upd, initE, gdst, thenQ, blockQ, srcOk, Array.isEmpty, List.isEmpty, bytesV, reduceCtorEq, ↓reduceIte, Nat.reduceLT, Nat.reduceLeDiff, Nat.reduceEqDiff, Nat.reduceAdd, Nat.reduceMul, Nat.reducePow, Nat.reduceSub, Int.reduceLT, Int.reduceLE, Int.reduceToNat, RSch713, Tryd.ntmps13]
        refine hK _ _ ?_
        clear hK K
        refine awp_ret ?_
        simp only [thenQ, blockQ]
        simp only [retQ, AEnds, aresL, ares, List.toList_toArray, ↓upd_same]; try simp only [↓DN, UP, implies_true, forall_eq', ne_eq, if_true, if_false, aval, abin, aint, ashift, abool, astr, anil, aun, aconv, aindexAddr, aindex, optInt, aslice, abuiltin, asrc, afill, placeOf, asetAll, undef, aload, apart, AV.cells, AV.one, aeval, updO, upd, initE, gdst, thenQ, blockQ, srcOk, Array.isEmpty, List.isEmpty, bytesV, reduceCtorEq, ↓reduceIte, Nat.reduceLT, Nat.reduceLeDiff, Nat.reduceEqDiff, Nat.reduceAdd, Nat.reduceMul, Nat.reducePow, Nat.reduceSub, Int.reduceLT, Int.reduceLE, Int.reduceToNat, RSch713, Tryd.ntmps13, atuple_nil, atuple_one, atuple_two, atuple_three, atuple_four, atuple_five]
        exact ⟨_, s1, AV.weak.refl _, hle, rfl⟩
      · refine awp_reg_seq ?_
        intro K hK
        simp only [↓DN, UP, implies_true, forall_eq', ne_eq, if_true, if_false, aval, abin, aint, ashift, abool, astr, anil, aun, aconv, aindexAddr, aindex, optInt, aslice, abuiltin, asrc, afill, placeOf, asetAll, undef, aload, apart, AV.cells, AV.one, aeval, updO, upd, initE, gdst, thenQ, blockQ, srcOk, Array.isEmpty, List.isEmpty, bytesV, reduceCtorEq, ↓reduceIte, Nat.reduceLT, Nat.reduceLeDiff, Nat.reduceEqDiff, Nat.reduceAdd, Nat.reduceMul, Nat.reducePow, Nat.reduceSub, Int.reduceLT, Int.reduceLE, Int.reduceToNat, RSch713, Tryd.ntmps13, g2, g3, g8, hsa, hsb, hi0, hlt, hlt2, da, db, decide_eq_false (show ¬ (100 : Int) < (xa.length : Int) by omega), decide_eq_false (show ¬ (100 : Int) < (xb.length : Int) by omega)]
        refine hK _ _ ?_
        clear hK K
        refine awp_cond_k ?_
        intro X Y hX hY
        simp only [↓DN, UP, implies_true, forall_eq', ne_eq, if_true, if_false, aval, abin, aint, ashift, abool, astr, anil, aun, aconv, aindexAddr, aindex, optInt, aslice, abuiltin, asrc, afill, placeOf, asetAll, undef, aload, apart, AV.cells, AV.one, aeval, updO, upd, initE, gdst, thenQ, blockQ, srcOk, Array.isEmpty, List.isEmpty, bytesV, reduceCtorEq, ↓reduceIte, Nat.reduceLT, Nat.reduceLeDiff, Nat.reduceEqDiff, Nat.reduceAdd, Nat.reduceMul, Nat.reducePow, Nat.reduceSub, Int.reduceLT, Int.reduceLE, Int.reduceToNat, RSch713, Tryd.ntmps13, Bool.not_true, Bool.not_false, Bool.false_eq_true, Bool.true_eq_false, false_imp_iff, true_imp_iff, decide_eq_true_eq, decide_eq_false_iff_not]
        refine hY ?_
        clear hX hY X Y
        refine awp_skip ?_
        refine hK4 _ _ ?_
        clear hK4 K4
        by_cases hw : la.take i = lb.take i
        · have hnew : decide (la.take (i + 1) = lb.take (i + 1)) = decide (xa = xb) := by
            by_cases hx : xa = xb
            · rw [decide_eq_true hx, decide_eq_true (hts.2 ⟨hw, hx⟩)]
            · rw [decide_eq_false hx, decide_eq_false (fun h => hx (hts.1 h).2)]
          refine awp_drw_end T.mixed [] (by kernel_rfl) ?_
          intro K hK
          simp only [↓AXq_nil, ↓AXq_cons, pval, List.contains_cons, List.contains_nil, Nat.reduceBEq, Bool.or_false, Bool.or_true, Bool.or_self, Bool.false_eq_true, Bool.false_or, ↓DN, UP, implies_true, forall_eq', ne_eq, if_true, if_false, aval, abin, aint, ashift, abool, astr, anil, aun, aconv, aindexAddr, aindex, optInt, aslice, abuiltin, asrc, afill, placeOf, asetAll, undef, aload, apart, AV.cells, AV.one, aeval, updO, upd, initE, gdst, thenQ, blockQ, srcOk, Array.isEmpty, List.isEmpty, bytesV, reduceCtorEq, ↓reduceIte, Nat.reduceLT, Nat.reduceLeDiff, Nat.reduceEqDiff, Nat.reduceAdd, Nat.reduceMul, Nat.reducePow, Nat.reduceSub, Int.reduceLT, Int.reduceLE, Int.reduceToNat, RSch713, Tryd.ntmps13, g7, g2, g3, g8, hsa, hsb, hi0, hlt, hlt2, da, db, decide_eq_true hw, beq_bytes]
          refine hK _ _ ?_
          clear hK K
          simp only [blockQ, thenQ, if_true, if_false]
          refine hK3 _ _ ?_
          clear hK3 K3
          refine awp_reg_end ?_
          intro K hK
          simp only [↓DN, UP, implies_true, forall_eq', ne_eq, if_true, if_false, aval, abin, aint, ashift, abool, astr, anil, aun, aconv, aindexAddr, aindex, optInt, aslice, abuiltin, asrc, afill, placeOf, asetAll, undef, aload, apart, AV.cells, AV.one, aeval, updO, upd, initE, gdst, thenQ, blockQ, srcOk, Array.isEmpty, List.isEmpty, bytesV, reduceCtorEq, ↓reduceIte, Nat.reduceLT, Nat.reduceLeDiff, Nat.reduceEqDiff, Nat.reduceAdd, Nat.reduceMul, Nat.reducePow, Nat.reduceSub, Int.reduceLT, Int.reduceLE, Int.reduceToNat, RSch713, Tryd.ntmps13, g8, w_succ i (by omega)]
          refine hK _ _ ?_
          clear hK K
          refine ⟨⟨i + 1, by omega, by simp only [upd, g2, Nat.reduceEqDiff, ↓reduceIte], by simp only [upd, g3, Nat.reduceEqDiff, ↓reduceIte], by simp only [upd, g5, Nat.reduceEqDiff, ↓reduceIte], by simp only [upd, g6, Nat.reduceEqDiff, ↓reduceIte], ?_, by simp only [upd, ↓reduceIte], rfl⟩, ?_⟩
          · simp only [upd, Nat.reduceEqDiff, ↓reduceIte]
            try rw [hnew]
          · simp only [g8, upd, ↓reduceIte]
            omega

        · have hnew : decide (la.take (i + 1) = lb.take (i + 1)) = false := decide_eq_false (fun h => hw (hts.1 h).1)
          refine awp_drw_end T.mixed [] (by kernel_rfl) ?_
          intro K hK
          simp only [↓AXq_nil, ↓AXq_cons, pval, List.contains_cons, List.contains_nil, Nat.reduceBEq, Bool.or_false, Bool.or_true, Bool.or_self, Bool.false_eq_true, Bool.false_or, ↓DN, UP, implies_true, forall_eq', ne_eq, if_true, if_false, aval, abin, aint, ashift, abool, astr, anil, aun, aconv, aindexAddr, aindex, optInt, aslice, abuiltin, asrc, afill, placeOf, asetAll, undef, aload, apart, AV.cells, AV.one, aeval, updO, upd, initE, gdst, thenQ, blockQ, srcOk, Array.isEmpty, List.isEmpty, bytesV, reduceCtorEq, ↓reduceIte, Nat.reduceLT, Nat.reduceLeDiff, Nat.reduceEqDiff, Nat.reduceAdd, Nat.reduceMul, Nat.reducePow, Nat.reduceSub, Int.reduceLT, Int.reduceLE, Int.reduceToNat, RSch713, Tryd.ntmps13, g7, g2, g3, g8, hsa, hsb, hi0, hlt, hlt2, da, db, decide_eq_false hw]
          refine hK _ _ ?_
          clear hK K
          simp only [blockQ, thenQ, if_true, if_false]
          refine hK3 _ _ ?_
          clear hK3 K3
          refine awp_reg_end ?_
          intro K hK
          simp only [↓DN, UP, implies_true, forall_eq', ne_eq, if_true, if_false, aval, abin, aint, ashift, abool, astr, anil, aun, aconv, aindexAddr, aindex, optInt, aslice, abuiltin, asrc, afill, placeOf, asetAll, undef, aload, apart, AV.cells, AV.one, aeval, updO, upd, initE, gdst, thenQ, blockQ, srcOk, Array.isEmpty, List.isEmpty, bytesV, reduceCtorEq, ↓reduceIte, Nat.reduceLT, Nat.reduceLeDiff, Nat.reduceEqDiff, Nat.reduceAdd, Nat.reduceMul, Nat.reducePow, Nat.reduceSub, Int.reduceLT, Int.reduceLE, Int.reduceToNat, RSch713, Tryd.ntmps13, g8, w_succ i (by omega)]
          refine hK _ _ ?_
          clear hK K
          refine ⟨⟨i + 1, by omega, by simp only [upd, g2, Nat.reduceEqDiff, ↓reduceIte], by simp only [upd, g3, Nat.reduceEqDiff, ↓reduceIte], by simp only [upd, g5, Nat.reduceEqDiff, ↓reduceIte], by simp only [upd, g6, Nat.reduceEqDiff, ↓reduceIte], ?_, by simp only [upd, ↓reduceIte], rfl⟩, ?_⟩
          · simp only [upd, Nat.reduceEqDiff, ↓reduceIte]
            try rw [hnew]
          · simp only [g8, upd, ↓reduceIte]
            omega

    · obtain rfl : i = 6 := by omega
      refine awp_seq_k ?_
      intro K2 hK2
      refine awp_reg_seq ?_
      intro K hK
      simp only [↓DN, UP, implies_true, forall_eq', ne_eq, if_true, if_false, aval, abin, aint, ashift, abool, astr, anil, aun, aconv, aindexAddr, aindex, optInt, aslice, abuiltin, asrc, afill, placeOf, asetAll, undef, aload, apart, AV.cells, AV.one, aeval, updO, upd, initE, gdst, thenQ, blockQ, srcOk, Array.isEmpty, List.isEmpty, bytesV, reduceCtorEq, ↓reduceIte, Nat.reduceLT, Nat.reduceLeDiff, Nat.reduceEqDiff, Nat.reduceAdd, Nat.reduceMul, Nat.reducePow, Nat.reduceSub, Int.reduceLT, Int.reduceLE, Int.reduceToNat, RSch713, Tryd.ntmps13, g8, decide_eq_false (show ¬ ((6 : Nat) : Int) < 6 by decide)]
      refine hK _ _ ?_
      clear hK K
      refine awp_cond_k ?_
      intro X Y hX hY
      simp only [↓DN, UP, implies_true, forall_eq', ne_eq, if_true, if_false, aval, abin, aint, ashift, abool, astr, anil, aun, aconv, aindexAddr, aindex, optInt, aslice, abuiltin, asrc, afill, placeOf, asetAll, undef, aload, apart, AV.cells, AV.one, aeval, updO, upd, initE, gdst, thenQ, blockQ, srcOk, Array.isEmpty, List.isEmpty, bytesV, reduceCtorEq, ↓reduceIte, Nat.reduceLT, Nat.reduceLeDiff, Nat.reduceEqDiff, Nat.reduceAdd, Nat.reduceMul, Nat.reducePow, Nat.reduceSub, Int.reduceLT, Int.reduceLE, Int.reduceToNat, RSch713, Tryd.ntmps13, Bool.not_true, Bool.not_false, Bool.false_eq_true, Bool.true_eq_false, false_imp_iff, true_imp_iff, decide_eq_true_eq, decide_eq_false_iff_not]
      refine hY ?_
      clear hX hY X Y
      refine awp_exit ?_
      simp only [thenQ, blockQ, if_true]
      clear hK2 K2
      refine hK _ _ ?_
      clear hK K
      rw [List.take_of_length_le (by omega), List.take_of_length_le (by omega)] at g7
      have hta : Xa.take 6 = Xa := List.take_of_length_le (by omega)
      have htb : Xb.take 6 = Xb := List.take_of_length_le (by omega)
      refine awp_reg_seq ?_
      intro K hK
      simp only [↓DN, UP, implies_true, forall_eq', ne_eq, if_true, if_false, aval, abin, aint, ashift, abool, astr, anil, aun, aconv, aindexAddr, aindex, optInt, aslice, abuiltin, asrc, afill, placeOf, asetAll, undef, aload, apart, AV.cells, AV.one, aeval, updO, upd, initE, gdst, thenQ, blockQ, srcOk, Array.isEmpty, List.isEmpty, bytesV, reduceCtorEq, ↓reduceIte, Nat.reduceLT, Nat.reduceLeDiff, Nat.reduceEqDiff, Nat.reduceAdd, Nat.reduceMul, Nat.reducePow, Nat.reduceSub, Int.reduceLT, Int.reduceLE, Int.reduceToNat, RSch713, Tryd.ntmps13, g5, g6, g7, j5, j6, hsa, hsb, hta, htb, Nat.le_refl]
      refine acallk (hsame _) ?_
      rintro r s4 ⟨rfl, rfl⟩
      simp only [↓AXq_nil, ↓AXq_cons, pval, List.contains_cons, List.contains_nil, Nat.reduceBEq, Bool.or_false, Bool.or_true, Bool.or_self, Bool.false_eq_true, Bool.false_or, ↓DN, UP, implies_true, forall_eq', ne_eq, if_true, if_false, aval, abin, aint, ashift, abool, astr, anil, aun, aconv, aindexAddr, aindex, optInt, aslice, abuiltin, asrc, afill, placeOf, asetAll, undef, aload, apart, AV.cells, AV.one, aeval, updO, upd, initE, gdst, thenQ, blockQ, srcOk, Array.isEmpty, List.isEmpty, bytesV, reduceCtorEq, ↓reduceIte, Nat.reduceLT, Nat.reduceLeDiff, Nat.reduceEqDiff, Nat.reduceAdd, Nat.reduceMul, Nat.reducePow, Nat.reduceSub, Int.reduceLT, Int.reduceLE, Int.reduceToNat, RSch713, Tryd.ntmps13, g7]
      refine hK _ _ ?_
      clear hK K
      refine awp_ret ?_
      simp only [retQ, AEnds, aresL, ares, List.toList_toArray, ↓upd_same]; try simp only [↓DN, UP, implies_true, forall_eq', ne_eq, if_true, if_false, aval, abin, aint, ashift, abool, astr, anil, aun, aconv, aindexAddr, aindex, optInt, aslice, abuiltin, asrc, afill, placeOf, asetAll, undef, aload, apart, AV.cells, AV.one, aeval, updO, upd, initE, gdst, thenQ, blockQ, srcOk, Array.isEmpty, List.isEmpty, bytesV, reduceCtorEq, ↓reduceIte, Nat.reduceLT, Nat.reduceLeDiff, Nat.reduceEqDiff, Nat.reduceAdd, Nat.reduceMul, Nat.reducePow, Nat.reduceSub, Int.reduceLT, Int.reduceLE, Int.reduceToNat, RSch713, Tryd.ntmps13, atuple_nil, atuple_one, atuple_two, atuple_three, atuple_four, atuple_five]
      exact ⟨_, s1, AV.weak.refl _, hle, rfl⟩

theorem open_six {y : List (List AV)} (t : ∀ el ∈ y, IsTy (.slice 1 (.int .u8)) el) : ∃ la : List (List UInt8), la.length = y.length ∧ y.flatten = sixV la := by
  induction y with
  | nil => exact ⟨[], rfl, rfl⟩
  | cons el y ih =>
    obtain ⟨la, h1, h2⟩ := ih (fun e he => t e (by simp [he]))
    obtain ⟨l, rfl, _⟩ := IsTy.bytes (t el (by simp))
    exact ⟨l :: la, by simp [h1], by rw [List.flatten_cons, h2]; rfl⟩

end Go.Proofs.YtpakgjmcaefnmaaDoor


