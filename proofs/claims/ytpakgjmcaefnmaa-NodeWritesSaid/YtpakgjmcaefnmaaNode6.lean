/- Contracts of the program's functions, each walked once; the conditions stand in each theorem. -/
import Derived.Test.YtpakgjmcaefnmaaNode5
import Derived.Test.YtpakgjmcaefnmaaAM32
set_option linter.unusedSimpArgs false
set_option linter.unusedVariables false
set_option autoImplicit false
namespace Go.Proofs.Ytpakgjmcaefnmaa
open Go Go.AM Go.Proofs

theorem RNode687 : type_of% (And.intro (And.intro (And.intro (And.intro (And.intro (And.intro @Try.underlying3 T.c3) (And.intro T.g3 T.b3)) (And.intro (And.intro T.z3 @Try.underlying4) (And.intro T.c4 T.g4))) (And.intro (And.intro (And.intro T.b4 T.z4) (And.intro @Try.underlying5 T.c5)) (And.intro (And.intro T.g5 T.b5) (And.intro T.z5 @Try.underlying22)))) (And.intro (And.intro (And.intro (And.intro T.c22 T.g22) (And.intro T.b22 T.z22)) (And.intro (And.intro T.s22 @Try.underlying37) (And.intro T.c37 T.g37))) (And.intro (And.intro (And.intro T.b37 T.z37) (And.intro @Try.underlying57 T.c57)) (And.intro (And.intro T.g57 T.b57) (And.intro T.z57 (And.intro @Try.underlying72 T.c72)))))) (And.intro (And.intro (And.intro (And.intro (And.intro T.g72 T.b72) (And.intro T.z72 T.p72)) (And.intro (And.intro @Try.underlying87 T.c87) (And.intro T.g87 T.b87))) (And.intro (And.intro (And.intro T.z87 T.s87) (And.intro @Try.underlying89 T.c89)) (And.intro (And.intro T.g89 T.b89) (And.intro T.z89 T.h89)))) (And.intro (And.intro (And.intro (And.intro @Try.underlying143 T.c143) (And.intro T.g143 T.b143)) (And.intro (And.intro T.z143 T.h143) (And.intro T.f89_0 T.f89_1))) (And.intro (And.intro (And.intro T.f89_2 T.f89_3) (And.intro T.f89_4 T.k62)) (And.intro (And.intro T.k94 T.k57) (And.intro T.k71 (And.intro T.k64 T.k65))))))) :=
  (And.intro (And.intro (And.intro (And.intro (And.intro (And.intro @Try.underlying3 T.c3) (And.intro T.g3 T.b3)) (And.intro (And.intro T.z3 @Try.underlying4) (And.intro T.c4 T.g4))) (And.intro (And.intro (And.intro T.b4 T.z4) (And.intro @Try.underlying5 T.c5)) (And.intro (And.intro T.g5 T.b5) (And.intro T.z5 @Try.underlying22)))) (And.intro (And.intro (And.intro (And.intro T.c22 T.g22) (And.intro T.b22 T.z22)) (And.intro (And.intro T.s22 @Try.underlying37) (And.intro T.c37 T.g37))) (And.intro (And.intro (And.intro T.b37 T.z37) (And.intro @Try.underlying57 T.c57)) (And.intro (And.intro T.g57 T.b57) (And.intro T.z57 (And.intro @Try.underlying72 T.c72)))))) (And.intro (And.intro (And.intro (And.intro (And.intro T.g72 T.b72) (And.intro T.z72 T.p72)) (And.intro (And.intro @Try.underlying87 T.c87) (And.intro T.g87 T.b87))) (And.intro (And.intro (And.intro T.z87 T.s87) (And.intro @Try.underlying89 T.c89)) (And.intro (And.intro T.g89 T.b89) (And.intro T.z89 T.h89)))) (And.intro (And.intro (And.intro (And.intro @Try.underlying143 T.c143) (And.intro T.g143 T.b143)) (And.intro (And.intro T.z143 T.h143) (And.intro T.f89_0 T.f89_1))) (And.intro (And.intro (And.intro T.f89_2 T.f89_3) (And.intro T.f89_4 T.k62)) (And.intro (And.intro T.k94 T.k57) (And.intro T.k71 (And.intro T.k64 T.k65)))))))

variable {Γ : Nat → List AV}

theorem IBuf.one {s0 s : AS} {x : AV} {l : List Int} (h : IBuf s0 s x l) : x.one = true := by
  rcases h with ⟨rfl, rfl⟩ | ⟨t, e, rfl, _, _⟩
  · rfl
  · rfl
theorem some_ne {s : AS} {p o : Nat} {cs : List AV} (h : s.objs p = some cs) (k : s.objs o = none) : p ≠ o := by
  rintro rfl
  rw [h] at k
  cases k
theorem nodeN_weak {k : Int} {y : Nat} {c1 c3 c4 : AV} {m pa : List UInt8} {u : List Int} (h1 : c1.weak (bytesV m .any)) (h3 : c3.weak (bytesV pa .any)) (h4 : c4.weak (intsV u .any)) :
    (AV.agg [.v (.int .i64 k), c1, .v (.int .u64 y), c3, c4]).weak (.agg (NodeV.cells ⟨k, m, y, pa, u⟩)) :=
  AV.weak_agg (.cons (AV.weak.refl _) (.cons h1 (.cons (AV.weak.refl _) (.cons h3 (.cons h4 .nil)))))
theorem nodeF_right {N : NodeV} (h : N.right) (st : EyeSt) : nodeF N st = st := by
  unfold nodeF
  rw [if_neg (fun k => k.1 h)]
theorem nodeF_wrong {N : NodeV} (h : ¬ N.right) (st : EyeSt) : nodeF N st = (st.1, if st.2 = 0 then 12 else st.2) := by
  unfold nodeF
  simp only [h, not_false_eq_true, true_and]

set_option maxRecDepth 100000 in
set_option maxHeartbeats 4000000 in
theorem nodeRead_calls (s : AS) (p : Nat) (st : EyeSt) (hl : st.1.length ≤ 2 ^ 44) (h : s.objs p = some (eyeC st)) :
    ACalls Try.prog Γ 87 [.ptr p 0] s (fun r s' => r = .agg (nodeRead st).1.cells ∧ s' = s.set p (eyeC (nodeRead st).2)) := by
  refine acalls_body Try.func87 rfl Try.ntmps87 Try.results87 (by simp) ?_
  obtain ⟨q1, e1⟩ : ∃ q, q = eyeNum 1 st := ⟨_, rfl⟩
  obtain ⟨q2, e2⟩ : ∃ q, q = nodeB q1.1 q1.2 := ⟨_, rfl⟩
  obtain ⟨q3, e3⟩ : ∃ q, q = nodeC q1.1 q2.2 := ⟨_, rfl⟩
  obtain ⟨q4, e4⟩ : ∃ q, q = nodeD q1.1 q3.2 := ⟨_, rfl⟩
  obtain ⟨q5, e5⟩ : ∃ q, q = nodeE q1.1 q4.2 := ⟨_, rfl⟩
  have l1 : q1.2.1.length ≤ 2 ^ 44 := by rw [e1]; exact Nat.le_trans (eyeNum_len _ _) hl
  have l2 : q2.2.1.length ≤ 2 ^ 44 := by rw [e2]; exact Nat.le_trans (nodeB_left _ _) l1
  have l3 : q3.2.1.length ≤ 2 ^ 44 := by rw [e3]; exact Nat.le_trans (nodeC_left _ _) l2
  have l4 : q4.2.1.length ≤ 2 ^ 44 := by rw [e4]; exact Nat.le_trans (nodeD_left _ _) l3
  have l5 : q5.1.length < 256 := by rw [e5]; exact nodeE_len _ _
  have k1 : q1.1 < 256 := by rw [e1]; exact Nat.lt_of_lt_of_le (eyeNum_lt 1 _) (by decide)
  obtain ⟨N, hN⟩ : ∃ N : NodeV, N = ⟨q1.1, q2.1, q3.1, q4.1, q5.1⟩ := ⟨_, rfl⟩
  have hrr : nodeRead st = (if (nodeF N q5.2).2 = 0 then N else NodeV.nought, nodeF N q5.2) := by subst hN e5 e4 e3 e2 e1; rfl
  refine awp_reg_seq ?_
  intro K hK
  simp only [↓DN, UP, implies_true, forall_eq', ne_eq, if_true, if_false, aval, abin, aint, ashift, abool, astr, anil, aun, aconv, aindexAddr, aindex, optInt, aslice, abuiltin, asrc, afill, placeOf, asetAll, undef, aload, apart, AV.cells, AV.one, aeval, updO, upd, initE, gdst, thenQ, blockQ, srcOk, Array.isEmpty, List.isEmpty, bytesV, reduceCtorEq, ↓reduceIte, Nat.reduceLT, Nat.reduceLeDiff, Nat.reduceEqDiff, Nat.reduceAdd, Nat.reduceMul, Nat.reducePow, Nat.reduceSub, Int.reduceLT, Int.reduceLE, Int.reduceToNat, RNode687, Try.ntmps87]
  intro o2 ho2
  have hp2 := some_ne h ho2
  refine hK _ _ ?_
  clear hK K
  refine awp_seq_k ?_
  intro K1 hK1
  obtain ⟨z, hz⟩ : ∃ z : List AV, z = [.v (.int .i64 0), .v (.slice none 0 0), .v (.int .u64 0), .v (.slice none 0 0), .v (.slice none 0 0)] := ⟨_, rfl⟩
  have h1 : ∀ (E : Env) (s1 : AS) (o3 : Nat), E 0 = .ptr p 0 → E 2 = .ptr o2 0 → E 3 = .ptr o3 0 → RdS s s1 p o2 o3 (eyeC q1.2) z [.v (.int .i64 q1.1), .v (.slice none 0 0), .v (.int .u64 0), .v (.slice none 0 0), .v (.slice none 0 0)] → K1 E s1 := by
    intro E s1 o3 g0 g2 g3 J
    refine hK1 _ _ ?_
    clear hK1 K1
    refine awp_seq_k ?_
    intro K2 hK2
    have h2 : ∀ (E : Env) (s1 : AS) (c1 : AV), E 0 = .ptr p 0 → E 2 = .ptr o2 0 → E 3 = .ptr o3 0 → c1.weak (bytesV q2.1 .any) → c1.one = true → RdS s s1 p o2 o3 (eyeC q2.2) z [.v (.int .i64 q1.1), c1, .v (.int .u64 0), .v (.slice none 0 0), .v (.slice none 0 0)] → K2 E s1 := by
      clear J g0 g2 g3 E s1
      intro E s1 c1 g0 g2 g3 w1 o1 J
      refine hK2 _ _ ?_
      clear hK2 K2
      refine awp_seq_k ?_
      intro K3 hK3
      have h3 : ∀ (E : Env) (s1 : AS) (c3 : AV), E 0 = .ptr p 0 → E 2 = .ptr o2 0 → E 3 = .ptr o3 0 → c3.weak (bytesV q4.1 .any) → c3.one = true → RdS s s1 p o2 o3 (eyeC q4.2) z [.v (.int .i64 q1.1), c1, .v (.int .u64 q3.1), c3, .v (.slice none 0 0)] → K3 E s1 := by
        clear J g0 g2 g3 E s1
        intro E s1 c3 g0 g2 g3 w3 o3' J
        refine hK3 _ _ ?_
        clear hK3 K3
        refine awp_seq_k ?_
        intro K4 hK4
        have h4 : ∀ (E : Env) (s1 : AS) (c4 : AV), E 0 = .ptr p 0 → E 2 = .ptr o2 0 → E 3 = .ptr o3 0 → c4.weak (intsV q5.1 .any) → c4.one = true → RdS s s1 p o2 o3 (eyeC q5.2) z [.v (.int .i64 q1.1), c1, .v (.int .u64 q3.1), c3, c4] → K4 E s1 := by
          clear J g0 g2 g3 E s1
          intro E s1 c4 g0 g2 g3 w4 o4 J
          simp only [AV.one] at o1 o3' o4
          refine hK4 _ _ ?_
          clear hK4 K4
          refine awp_seq_k ?_
          intro K5 hK5
          have wN : (AV.agg [.v (.int .i64 q1.1), c1, .v (.int .u64 q3.1), c3, c4]).weak (.agg N.cells) := by rw [hN]; exact nodeN_weak w1 w3 w4
          have h5 : ∀ (E : Env) (s1 : AS), E 0 = .ptr p 0 → E 2 = .ptr o2 0 → E 3 = .ptr o3 0 → RdS s s1 p o2 o3 (eyeC (nodeF N q5.2)) z [.v (.int .i64 q1.1), c1, .v (.int .u64 q3.1), c3, c4] → K5 E s1 := by
            clear J g0 g2 g3 E s1
            intro E s1 g0 g2 g3 J
            refine hK5 _ _ ?_
            clear hK5 K5
            refine awp_seq_k ?_
            intro K6 hK6
            refine awp_reg_seq ?_
            intro K hK
            simp only [↓DN, UP, implies_true, forall_eq', ne_eq, if_true, if_false, aval, abin, aint, ashift, abool, astr, anil, aun, aconv, aindexAddr, aindex, optInt, aslice, abuiltin, asrc, afill, placeOf, asetAll, undef, aload, apart, AV.cells, AV.one, aeval, updO, upd, initE, gdst, thenQ, blockQ, srcOk, Array.isEmpty, List.isEmpty, bytesV, reduceCtorEq, ↓reduceIte, Nat.reduceLT, Nat.reduceLeDiff, Nat.reduceEqDiff, Nat.reduceAdd, Nat.reduceMul, Nat.reducePow, Nat.reduceSub, Int.reduceLT, Int.reduceLE, Int.reduceToNat, RNode687, Try.ntmps87, g0]
            refine acallk (eyeErr_at _ p _ J.eye) ?_
            rintro r s2 ⟨rfl, rfl⟩
            have jr := J.res
            have jv := J.var
            have jd := J.d
            have jd2 := J.d.symm
            rw [hz] at jr
            by_cases he : (nodeF N q5.2).2 = 0
            · rw [he]
              simp only [↓AXq_nil, ↓AXq_cons, pval, List.contains_cons, List.contains_nil, Nat.reduceBEq, Bool.or_false, Bool.or_true, Bool.or_self, Bool.false_eq_true, Bool.false_or, ↓DN, UP, implies_true, forall_eq', ne_eq, if_true, if_false, aval, abin, aint, ashift, abool, astr, anil, aun, aconv, aindexAddr, aindex, optInt, aslice, abuiltin, asrc, afill, placeOf, asetAll, undef, aload, apart, AV.cells, AV.one, aeval, updO, upd, initE, gdst, thenQ, blockQ, srcOk, Array.isEmpty, List.isEmpty, bytesV, reduceCtorEq, ↓reduceIte, Nat.reduceLT, Nat.reduceLeDiff, Nat.reduceEqDiff, Nat.reduceAdd, Nat.reduceMul, Nat.reducePow, Nat.reduceSub, Int.reduceLT, Int.reduceLE, Int.reduceToNat, RNode687, Try.ntmps87, i64_ne_false 0 rfl]
              refine hK _ _ ?_
              clear hK K
              refine awp_cond_k ?_
              intro X Y hX hY
              simp only [↓DN, UP, implies_true, forall_eq', ne_eq, if_true, if_false, aval, abin, aint, ashift, abool, astr, anil, aun, aconv, aindexAddr, aindex, optInt, aslice, abuiltin, asrc, afill, placeOf, asetAll, undef, aload, apart, AV.cells, AV.one, aeval, updO, upd, initE, gdst, thenQ, blockQ, srcOk, Array.isEmpty, List.isEmpty, bytesV, reduceCtorEq, ↓reduceIte, Nat.reduceLT, Nat.reduceLeDiff, Nat.reduceEqDiff, Nat.reduceAdd, Nat.reduceMul, Nat.reducePow, Nat.reduceSub, Int.reduceLT, Int.reduceLE, Int.reduceToNat, RNode687, Try.ntmps87, Bool.not_true, Bool.not_false, Bool.false_eq_true, Bool.true_eq_false, false_imp_iff, true_imp_iff, decide_eq_true_eq, decide_eq_false_iff_not]
              refine hY ?_
              clear hX hY X Y
              refine awp_skip ?_
              refine hK6 _ _ ?_
              clear hK6 K6
              refine awp_reg_seq ?_
              intro K hK
              simp only [↓DN, UP, implies_true, forall_eq', ne_eq, if_true, if_false, aval, abin, aint, ashift, abool, astr, anil, aun, aconv, aindexAddr, aindex, optInt, aslice, abuiltin, asrc, afill, placeOf, asetAll, undef, aload, apart, AV.cells, AV.one, aeval, updO, upd, initE, gdst, thenQ, blockQ, srcOk, Array.isEmpty, List.isEmpty, bytesV, reduceCtorEq, ↓reduceIte, Nat.reduceLT, Nat.reduceLeDiff, Nat.reduceEqDiff, Nat.reduceAdd, Nat.reduceMul, Nat.reducePow, Nat.reduceSub, Int.reduceLT, Int.reduceLE, Int.reduceToNat, RNode687, Try.ntmps87, g3, g2, jv, jr, jd, jd2, o1, o3', o4]
              refine hK _ _ ?_
              clear hK K
              refine awp_ret ?_
              refine aends_cell (o := o2) (off := 0) (by simp only [upd, g2, Nat.reduceEqDiff, ↓reduceIte]) (AS.set_objs_same _ _ _) (by rw [T.c89]; decide) (by simp only [↓DN, UP, implies_true, forall_eq', ne_eq, if_true, if_false, aval, abin, aint, ashift, abool, astr, anil, aun, aconv, aindexAddr, aindex, optInt, aslice, abuiltin, asrc, afill, placeOf, asetAll, undef, aload, apart, AV.cells, AV.one, aeval, updO, upd, initE, gdst, thenQ, blockQ, srcOk, Array.isEmpty, List.isEmpty, bytesV, reduceCtorEq, ↓reduceIte, Nat.reduceLT, Nat.reduceLeDiff, Nat.reduceEqDiff, Nat.reduceAdd, Nat.reduceMul, Nat.reducePow, Nat.reduceSub, Int.reduceLT, Int.reduceLE, Int.reduceToNat, RNode687, Try.ntmps87]; rfl) ?_
              rw [hrr, if_pos he]
              exact ⟨_, _, wN, (J.setRes _).out, rfl, rfl⟩
            · simp only [↓AXq_nil, ↓AXq_cons, pval, List.contains_cons, List.contains_nil, Nat.reduceBEq, Bool.or_false, Bool.or_true, Bool.or_self, Bool.false_eq_true, Bool.false_or, ↓DN, UP, implies_true, forall_eq', ne_eq, if_true, if_false, aval, abin, aint, ashift, abool, astr, anil, aun, aconv, aindexAddr, aindex, optInt, aslice, abuiltin, asrc, afill, placeOf, asetAll, undef, aload, apart, AV.cells, AV.one, aeval, updO, upd, initE, gdst, thenQ, blockQ, srcOk, Array.isEmpty, List.isEmpty, bytesV, reduceCtorEq, ↓reduceIte, Nat.reduceLT, Nat.reduceLeDiff, Nat.reduceEqDiff, Nat.reduceAdd, Nat.reduceMul, Nat.reducePow, Nat.reduceSub, Int.reduceLT, Int.reduceLE, Int.reduceToNat, RNode687, Try.ntmps87, i64_ne_true _ he]
              refine hK _ _ ?_
              clear hK K
              refine awp_cond_k ?_
              intro X Y hX hY
              simp only [↓DN, UP, implies_true, forall_eq', ne_eq, if_true, if_false, aval, abin, aint, ashift, abool, astr, anil, aun, aconv, aindexAddr, aindex, optInt, aslice, abuiltin, asrc, afill, placeOf, asetAll, undef, aload, apart, AV.cells, AV.one, aeval, updO, upd, initE, gdst, thenQ, blockQ, srcOk, Array.isEmpty, List.isEmpty, bytesV, reduceCtorEq, ↓reduceIte, Nat.reduceLT, Nat.reduceLeDiff, Nat.reduceEqDiff, Nat.reduceAdd, Nat.reduceMul, Nat.reducePow, Nat.reduceSub, Int.reduceLT, Int.reduceLE, Int.reduceToNat, RNode687, Try.ntmps87, Bool.not_true, Bool.not_false, Bool.false_eq_true, Bool.true_eq_false, false_imp_iff, true_imp_iff, decide_eq_true_eq, decide_eq_false_iff_not]
              refine hX ?_
              clear hX hY X Y
              refine awp_reg_seq ?_
              intro K hK
              simp only [↓DN, UP, implies_true, forall_eq', ne_eq, if_true, if_false, aval, abin, aint, ashift, abool, astr, anil, aun, aconv, aindexAddr, aindex, optInt, aslice, abuiltin, asrc, afill, placeOf, asetAll, undef, aload, apart, AV.cells, AV.one, aeval, updO, upd, initE, gdst, thenQ, blockQ, srcOk, Array.isEmpty, List.isEmpty, bytesV, reduceCtorEq, ↓reduceIte, Nat.reduceLT, Nat.reduceLeDiff, Nat.reduceEqDiff, Nat.reduceAdd, Nat.reduceMul, Nat.reducePow, Nat.reduceSub, Int.reduceLT, Int.reduceLE, Int.reduceToNat, RNode687, Try.ntmps87, g3, g2, jv, jr, jd, jd2, o1, o3', o4]
              refine hK _ _ ?_
              clear hK K
              refine awp_ret ?_
              refine aends_cell (o := o2) (off := 0) (by simp only [upd, g2, Nat.reduceEqDiff, ↓reduceIte]) (AS.set_objs_same _ _ _) (by rw [T.c89]; decide) (by simp only [↓DN, UP, implies_true, forall_eq', ne_eq, if_true, if_false, aval, abin, aint, ashift, abool, astr, anil, aun, aconv, aindexAddr, aindex, optInt, aslice, abuiltin, asrc, afill, placeOf, asetAll, undef, aload, apart, AV.cells, AV.one, aeval, updO, upd, initE, gdst, thenQ, blockQ, srcOk, Array.isEmpty, List.isEmpty, bytesV, reduceCtorEq, ↓reduceIte, Nat.reduceLT, Nat.reduceLeDiff, Nat.reduceEqDiff, Nat.reduceAdd, Nat.reduceMul, Nat.reducePow, Nat.reduceSub, Int.reduceLT, Int.reduceLE, Int.reduceToNat, RNode687, Try.ntmps87]; rfl) ?_
              rw [hrr, if_neg he]
              exact ⟨_, _, noughtN_weak, (J.setRes _).out, rfl, rfl⟩
          clear hK5
          have jv := J.var
          refine awp_reg_seq ?_
          intro K hK
          simp only [↓DN, UP, implies_true, forall_eq', ne_eq, if_true, if_false, aval, abin, aint, ashift, abool, astr, anil, aun, aconv, aindexAddr, aindex, optInt, aslice, abuiltin, asrc, afill, placeOf, asetAll, undef, aload, apart, AV.cells, AV.one, aeval, updO, upd, initE, gdst, thenQ, blockQ, srcOk, Array.isEmpty, List.isEmpty, bytesV, reduceCtorEq, ↓reduceIte, Nat.reduceLT, Nat.reduceLeDiff, Nat.reduceEqDiff, Nat.reduceAdd, Nat.reduceMul, Nat.reducePow, Nat.reduceSub, Int.reduceLT, Int.reduceLE, Int.reduceToNat, RNode687, Try.ntmps87, g3, jv]
          refine acallk (ACalls.weaks (.cons wN .nil) (nodeRight_calls N (by rw [hN]; simp only; omega) s1)) ?_
          rintro r s2 ⟨rfl, rfl⟩
          by_cases hr : N.right
          · rw [decide_eq_true hr]
            simp only [↓AXq_nil, ↓AXq_cons, pval, List.contains_cons, List.contains_nil, Nat.reduceBEq, Bool.or_false, Bool.or_true, Bool.or_self, Bool.false_eq_true, Bool.false_or, ↓DN, UP, implies_true, forall_eq', ne_eq, if_true, if_false, aval, abin, aint, ashift, abool, astr, anil, aun, aconv, aindexAddr, aindex, optInt, aslice, abuiltin, asrc, afill, placeOf, asetAll, undef, aload, apart, AV.cells, AV.one, aeval, updO, upd, initE, gdst, thenQ, blockQ, srcOk, Array.isEmpty, List.isEmpty, bytesV, reduceCtorEq, ↓reduceIte, Nat.reduceLT, Nat.reduceLeDiff, Nat.reduceEqDiff, Nat.reduceAdd, Nat.reduceMul, Nat.reducePow, Nat.reduceSub, Int.reduceLT, Int.reduceLE, Int.reduceToNat, RNode687, Try.ntmps87]
            refine hK _ _ ?_
            clear hK K
            refine awp_cond_k ?_
            intro X Y hX hY
            simp only [↓DN, UP, implies_true, forall_eq', ne_eq, if_true, if_false, aval, abin, aint, ashift, abool, astr, anil, aun, aconv, aindexAddr, aindex, optInt, aslice, abuiltin, asrc, afill, placeOf, asetAll, undef, aload, apart, AV.cells, AV.one, aeval, updO, upd, initE, gdst, thenQ, blockQ, srcOk, Array.isEmpty, List.isEmpty, bytesV, reduceCtorEq, ↓reduceIte, Nat.reduceLT, Nat.reduceLeDiff, Nat.reduceEqDiff, Nat.reduceAdd, Nat.reduceMul, Nat.reducePow, Nat.reduceSub, Int.reduceLT, Int.reduceLE, Int.reduceToNat, RNode687, Try.ntmps87, Bool.not_true, Bool.not_false, Bool.false_eq_true, Bool.true_eq_false, false_imp_iff, true_imp_iff, decide_eq_true_eq, decide_eq_false_iff_not]
            refine hY ?_
            clear hX hY X Y
            refine awp_skip ?_
            rw [nodeF_right hr] at h5
            exact h5 _ _ (by simp only [upd, g0, Nat.reduceEqDiff, ↓reduceIte]) (by simp only [upd, g2, Nat.reduceEqDiff, ↓reduceIte]) (by simp only [upd, g3, Nat.reduceEqDiff, ↓reduceIte]) J
          · rw [decide_eq_false hr]
            simp only [↓AXq_nil, ↓AXq_cons, pval, List.contains_cons, List.contains_nil, Nat.reduceBEq, Bool.or_false, Bool.or_true, Bool.or_self, Bool.false_eq_true, Bool.false_or, ↓DN, UP, implies_true, forall_eq', ne_eq, if_true, if_false, aval, abin, aint, ashift, abool, astr, anil, aun, aconv, aindexAddr, aindex, optInt, aslice, abuiltin, asrc, afill, placeOf, asetAll, undef, aload, apart, AV.cells, AV.one, aeval, updO, upd, initE, gdst, thenQ, blockQ, srcOk, Array.isEmpty, List.isEmpty, bytesV, reduceCtorEq, ↓reduceIte, Nat.reduceLT, Nat.reduceLeDiff, Nat.reduceEqDiff, Nat.reduceAdd, Nat.reduceMul, Nat.reducePow, Nat.reduceSub, Int.reduceLT, Int.reduceLE, Int.reduceToNat, RNode687, Try.ntmps87]
            refine hK _ _ ?_
            clear hK K
            refine awp_cond_k ?_
            intro X Y hX hY
            simp only [↓DN, UP, implies_true, forall_eq', ne_eq, if_true, if_false, aval, abin, aint, ashift, abool, astr, anil, aun, aconv, aindexAddr, aindex, optInt, aslice, abuiltin, asrc, afill, placeOf, asetAll, undef, aload, apart, AV.cells, AV.one, aeval, updO, upd, initE, gdst, thenQ, blockQ, srcOk, Array.isEmpty, List.isEmpty, bytesV, reduceCtorEq, ↓reduceIte, Nat.reduceLT, Nat.reduceLeDiff, Nat.reduceEqDiff, Nat.reduceAdd, Nat.reduceMul, Nat.reducePow, Nat.reduceSub, Int.reduceLT, Int.reduceLE, Int.reduceToNat, RNode687, Try.ntmps87, Bool.not_true, Bool.not_false, Bool.false_eq_true, Bool.true_eq_false, false_imp_iff, true_imp_iff, decide_eq_true_eq, decide_eq_false_iff_not]
            refine hX ?_
            clear hX hY X Y
            refine awp_reg_end ?_
            intro K hK
            simp only [↓DN, UP, implies_true, forall_eq', ne_eq, if_true, if_false, aval, abin, aint, ashift, abool, astr, anil, aun, aconv, aindexAddr, aindex, optInt, aslice, abuiltin, asrc, afill, placeOf, asetAll, undef, aload, apart, AV.cells, AV.one, aeval, updO, upd, initE, gdst, thenQ, blockQ, srcOk, Array.isEmpty, List.isEmpty, bytesV, reduceCtorEq, ↓reduceIte, Nat.reduceLT, Nat.reduceLeDiff, Nat.reduceEqDiff, Nat.reduceAdd, Nat.reduceMul, Nat.reducePow, Nat.reduceSub, Int.reduceLT, Int.reduceLE, Int.reduceToNat, RNode687, Try.ntmps87, g0]
            refine acallk (eyeFail_set _ p _ 12 J.eye) ?_
            rintro r s3 ⟨rfl, rfl⟩
            simp only [↓AXq_nil, ↓AXq_cons, pval, List.contains_cons, List.contains_nil, Nat.reduceBEq, Bool.or_false, Bool.or_true, Bool.or_self, Bool.false_eq_true, Bool.false_or, ↓DN, UP, implies_true, forall_eq', ne_eq, if_true, if_false, aval, abin, aint, ashift, abool, astr, anil, aun, aconv, aindexAddr, aindex, optInt, aslice, abuiltin, asrc, afill, placeOf, asetAll, undef, aload, apart, AV.cells, AV.one, aeval, updO, upd, initE, gdst, thenQ, blockQ, srcOk, Array.isEmpty, List.isEmpty, bytesV, reduceCtorEq, ↓reduceIte, Nat.reduceLT, Nat.reduceLeDiff, Nat.reduceEqDiff, Nat.reduceAdd, Nat.reduceMul, Nat.reducePow, Nat.reduceSub, Int.reduceLT, Int.reduceLE, Int.reduceToNat, RNode687, Try.ntmps87]
            refine hK _ _ ?_
            rw [nodeF_wrong hr] at h5
            exact h5 _ _ (by simp only [upd, g0, Nat.reduceEqDiff, ↓reduceIte]) (by simp only [upd, g2, Nat.reduceEqDiff, ↓reduceIte]) (by simp only [upd, g3, Nat.reduceEqDiff, ↓reduceIte]) (J.setEye _)
        clear hK4
        have jv := J.var
        by_cases hk : q1.1 = 2
        · refine awp_reg_seq ?_
          intro K hK
          simp only [↓DN, UP, implies_true, forall_eq', ne_eq, if_true, if_false, aval, abin, aint, ashift, abool, astr, anil, aun, aconv, aindexAddr, aindex, optInt, aslice, abuiltin, asrc, afill, placeOf, asetAll, undef, aload, apart, AV.cells, AV.one, aeval, updO, upd, initE, gdst, thenQ, blockQ, srcOk, Array.isEmpty, List.isEmpty, bytesV, reduceCtorEq, ↓reduceIte, Nat.reduceLT, Nat.reduceLeDiff, Nat.reduceEqDiff, Nat.reduceAdd, Nat.reduceMul, Nat.reducePow, Nat.reduceSub, Int.reduceLT, Int.reduceLE, Int.reduceToNat, RNode687, Try.ntmps87, g3, jv, int_eq_yes (show ((q1.1 : Nat) : Int) = 2 by omega)]
          refine hK _ _ ?_
          clear hK K
          refine awp_cond_k ?_
          intro X Y hX hY
          simp only [↓DN, UP, implies_true, forall_eq', ne_eq, if_true, if_false, aval, abin, aint, ashift, abool, astr, anil, aun, aconv, aindexAddr, aindex, optInt, aslice, abuiltin, asrc, afill, placeOf, asetAll, undef, aload, apart, AV.cells, AV.one, aeval, updO, upd, initE, gdst, thenQ, blockQ, srcOk, Array.isEmpty, List.isEmpty, bytesV, reduceCtorEq, ↓reduceIte, Nat.reduceLT, Nat.reduceLeDiff, Nat.reduceEqDiff, Nat.reduceAdd, Nat.reduceMul, Nat.reducePow, Nat.reduceSub, Int.reduceLT, Int.reduceLE, Int.reduceToNat, RNode687, Try.ntmps87, Bool.not_true, Bool.not_false, Bool.false_eq_true, Bool.true_eq_false, false_imp_iff, true_imp_iff, decide_eq_true_eq, decide_eq_false_iff_not]
          refine hX ?_
          clear hX hY X Y
          refine awp_reg_seq ?_
          intro K hK
          simp only [↓DN, UP, implies_true, forall_eq', ne_eq, if_true, if_false, aval, abin, aint, ashift, abool, astr, anil, aun, aconv, aindexAddr, aindex, optInt, aslice, abuiltin, asrc, afill, placeOf, asetAll, undef, aload, apart, AV.cells, AV.one, aeval, updO, upd, initE, gdst, thenQ, blockQ, srcOk, Array.isEmpty, List.isEmpty, bytesV, reduceCtorEq, ↓reduceIte, Nat.reduceLT, Nat.reduceLeDiff, Nat.reduceEqDiff, Nat.reduceAdd, Nat.reduceMul, Nat.reducePow, Nat.reduceSub, Int.reduceLT, Int.reduceLE, Int.reduceToNat, RNode687, Try.ntmps87, g0]
          refine acallk (eyeU8_set _ p _ J.eye) ?_
          rintro r s2 ⟨rfl, rfl⟩
          have hq5 : q5 = eyeInts (eyeNum 1 q4.2).1 (eyeNum 1 q4.2).2 := by rw [e5]; exact if_pos hk
          obtain ⟨qc, hqc⟩ : ∃ q, q = eyeNum 1 q4.2 := ⟨_, rfl⟩
          have J2 := J.setEye (eyeC (eyeNum 1 q4.2).2)
          rw [← hqc] at hq5 J2 ⊢
          obtain ⟨s3, hs3⟩ : ∃ x, x = s1.set p (eyeC qc.2) := ⟨_, rfl⟩
          rw [← hs3] at J2 ⊢
          have hc256 : qc.1 < 256 := by rw [hqc]; exact Nat.lt_of_lt_of_le (eyeNum_lt 1 _) (by decide)
          simp only [↓AXq_nil, ↓AXq_cons, pval, List.contains_cons, List.contains_nil, Nat.reduceBEq, Bool.or_false, Bool.or_true, Bool.or_self, Bool.false_eq_true, Bool.false_or, ↓DN, UP, implies_true, forall_eq', ne_eq, if_true, if_false, aval, abin, aint, ashift, abool, astr, anil, aun, aconv, aindexAddr, aindex, optInt, aslice, abuiltin, asrc, afill, placeOf, asetAll, undef, aload, apart, AV.cells, AV.one, aeval, updO, upd, initE, gdst, thenQ, blockQ, srcOk, Array.isEmpty, List.isEmpty, bytesV, reduceCtorEq, ↓reduceIte, Nat.reduceLT, Nat.reduceLeDiff, Nat.reduceEqDiff, Nat.reduceAdd, Nat.reduceMul, Nat.reducePow, Nat.reduceSub, Int.reduceLT, Int.reduceLE, Int.reduceToNat, RNode687, Try.ntmps87]
          refine hK _ _ ?_
          clear hK K
          refine awp_block ?_
          refine awp_loop (fun E s2 => ∃ (i : Nat) (x : AV), i ≤ qc.1 ∧ E 32 = .v (.int .i64 i) ∧ E 31 = .v (.int .i64 qc.1) ∧ E 0 = .ptr p 0 ∧ E 2 = .ptr o2 0 ∧ E 3 = .ptr o3 0 ∧ IBuf s s2 x (eyeInts i qc.2).1 ∧
              RdS s s2 p o2 o3 (eyeC (eyeInts i qc.2).2) z [.v (.int .i64 q1.1), c1, .v (.int .u64 q3.1), c3, x])
            (fun E _ => match E 32 with | .v (.int _ i) => qc.1 - i.toNat | _ => 0) ?_ ?_
          · exact ⟨0, _, Nat.zero_le _, by simp only [upd, ↓reduceIte]; rfl, by simp only [upd, Nat.reduceEqDiff, ↓reduceIte], by simp only [upd, g0, Nat.reduceEqDiff, ↓reduceIte], by simp only [upd, g2, Nat.reduceEqDiff, ↓reduceIte], by simp only [upd, g3, Nat.reduceEqDiff, ↓reduceIte], .inl ⟨rfl, rfl⟩, J2⟩
          · clear J J2 g0 g2 g3 jv
            rintro E1 s4 ⟨i, x, hi, g32, g31, g0, g2, g3, hx, J⟩ -
            have jv := J.var
            have jp := J.p3
            have jp2 := J.p3.symm
            by_cases hi' : i < qc.1
            · refine awp_reg_seq ?_
              intro K hK
              simp only [↓DN, UP, implies_true, forall_eq', ne_eq, if_true, if_false, aval, abin, aint, ashift, abool, astr, anil, aun, aconv, aindexAddr, aindex, optInt, aslice, abuiltin, asrc, afill, placeOf, asetAll, undef, aload, apart, AV.cells, AV.one, aeval, updO, upd, initE, gdst, thenQ, blockQ, srcOk, Array.isEmpty, List.isEmpty, bytesV, reduceCtorEq, ↓reduceIte, Nat.reduceLT, Nat.reduceLeDiff, Nat.reduceEqDiff, Nat.reduceAdd, Nat.reduceMul, Nat.reducePow, Nat.reduceSub, Int.reduceLT, Int.reduceLE, Int.reduceToNat, RNode687, Try.ntmps87, g32, g31, eye_lt_nat, decide_eq_true hi']
              refine hK _ _ ?_
              clear hK K
              refine awp_seq_k ?_
              intro K7 hK7
              refine awp_cond_k ?_
              intro X Y hX hY
              simp only [↓DN, UP, implies_true, forall_eq', ne_eq, if_true, if_false, aval, abin, aint, ashift, abool, astr, anil, aun, aconv, aindexAddr, aindex, optInt, aslice, abuiltin, asrc, afill, placeOf, asetAll, undef, aload, apart, AV.cells, AV.one, aeval, updO, upd, initE, gdst, thenQ, blockQ, srcOk, Array.isEmpty, List.isEmpty, bytesV, reduceCtorEq, ↓reduceIte, Nat.reduceLT, Nat.reduceLeDiff, Nat.reduceEqDiff, Nat.reduceAdd, Nat.reduceMul, Nat.reducePow, Nat.reduceSub, Int.reduceLT, Int.reduceLE, Int.reduceToNat, RNode687, Try.ntmps87, Bool.not_true, Bool.not_false, Bool.false_eq_true, Bool.true_eq_false, false_imp_iff, true_imp_iff, decide_eq_true_eq, decide_eq_false_iff_not]
              refine hX ?_
              clear hX hY X Y
              refine awp_skip ?_
              refine hK7 _ _ ?_
              clear hK7 K7
              refine awp_seq_k ?_
              intro K7 hK7
              refine awp_block ?_
              have hnext : ∀ (E2 : Env) (s5 : AS) (x2 : AV), E2 32 = .v (.int .i64 i) → E2 31 = .v (.int .i64 qc.1) → E2 0 = .ptr p 0 → E2 2 = .ptr o2 0 → E2 3 = .ptr o3 0 → IBuf s s5 x2 (eyeInts (i + 1) qc.2).1 →
                  RdS s s5 p o2 o3 (eyeC (eyeInts (i + 1) qc.2).2) z [.v (.int .i64 q1.1), c1, .v (.int .u64 q3.1), c3, x2] → K7 E2 s5 := by
                intro E2 s5 x2 f32 f31 f0 f2 f3 fx fJ
                refine hK7 _ _ ?_
                clear hK7 K7
                refine awp_reg_end ?_
                intro K hK
                simp only [↓DN, UP, implies_true, forall_eq', ne_eq, if_true, if_false, aval, abin, aint, ashift, abool, astr, anil, aun, aconv, aindexAddr, aindex, optInt, aslice, abuiltin, asrc, afill, placeOf, asetAll, undef, aload, apart, AV.cells, AV.one, aeval, updO, upd, initE, gdst, thenQ, blockQ, srcOk, Array.isEmpty, List.isEmpty, bytesV, reduceCtorEq, ↓reduceIte, Nat.reduceLT, Nat.reduceLeDiff, Nat.reduceEqDiff, Nat.reduceAdd, Nat.reduceMul, Nat.reducePow, Nat.reduceSub, Int.reduceLT, Int.reduceLE, Int.reduceToNat, RNode687, Try.ntmps87, f32, eye_succ i (by omega)]
                refine hK _ _ ?_
                clear hK K
                refine ⟨⟨i + 1, x2, by omega, by simp only [upd, ↓reduceIte], by simp only [upd, f31, Nat.reduceEqDiff, ↓reduceIte], by simp only [upd, f0, Nat.reduceEqDiff, ↓reduceIte], by simp only [upd, f2, Nat.reduceEqDiff, ↓reduceIte], by simp only [upd, f3, Nat.reduceEqDiff, ↓reduceIte], fx, fJ⟩, ?_⟩
                simp only [g32, upd, ↓reduceIte]
                omega
              clear hK7
              have hil := eyeInts_len i qc.2
              rcases hx with ⟨rfl, hl0⟩ | ⟨t, e, rfl, ht, ht0⟩
              · refine awp_mrk_end T.mixed [(o3, [.v (.int .i64 q1.1), c1, .v (.int .u64 q3.1), c3, nilS])] [3, 5] [1] [7] (by kernel_rfl) (by simp only [Pres_cons, Pres_nil, and_true]; simp [AS.set, upd, jv]) ?_
                intro K hK
                simp only [↓AXr_nil, ↓AXr_cons, gval, lval, fzGet_cons, fzGet_nil, Pres_cons, Pres_nil, List.any_cons, List.any_nil, List.contains_cons, List.contains_nil, Nat.reduceBEq, Bool.or_false, Bool.or_true, Bool.or_self, Bool.false_or, ↓DN, UP, implies_true, forall_eq', ne_eq, if_true, if_false, aval, abin, aint, ashift, abool, astr, anil, aun, aconv, aindexAddr, aindex, optInt, aslice, abuiltin, asrc, afill, placeOf, asetAll, undef, aload, apart, AV.cells, AV.one, aeval, updO, upd, initE, gdst, thenQ, blockQ, srcOk, Array.isEmpty, List.isEmpty, bytesV, reduceCtorEq, ↓reduceIte, Nat.reduceLT, Nat.reduceLeDiff, Nat.reduceEqDiff, Nat.reduceAdd, Nat.reduceMul, Nat.reducePow, Nat.reduceSub, Int.reduceLT, Int.reduceLE, Int.reduceToNat, RNode687, Try.ntmps87, g3, g0, nilS, jv, jp, jp2]
                refine acallk (eyeU8_set _ p _ J.eye) ?_
                rintro r s6 ⟨rfl, rfl⟩
                simp only [↓AXq_nil, ↓AXq_cons, pval, ↓AXr_nil, ↓AXr_cons, gval, lval, fzGet_cons, fzGet_nil, Pres_cons, Pres_nil, List.any_cons, List.any_nil, List.contains_cons, List.contains_nil, Nat.reduceBEq, Bool.or_false, Bool.or_true, Bool.or_self, Bool.false_or, List.contains_cons, List.contains_nil, Nat.reduceBEq, Bool.or_false, Bool.or_true, Bool.or_self, Bool.false_eq_true, Bool.false_or, ↓DN, UP, implies_true, forall_eq', ne_eq, if_true, if_false, aval, abin, aint, ashift, abool, astr, anil, aun, aconv, aindexAddr, aindex, optInt, aslice, abuiltin, asrc, afill, placeOf, asetAll, undef, aload, apart, AV.cells, AV.one, aeval, updO, upd, initE, gdst, thenQ, blockQ, srcOk, Array.isEmpty, List.isEmpty, bytesV, reduceCtorEq, ↓reduceIte, Nat.reduceLT, Nat.reduceLeDiff, Nat.reduceEqDiff, Nat.reduceAdd, Nat.reduceMul, Nat.reducePow, Nat.reduceSub, Int.reduceLT, Int.reduceLE, Int.reduceToNat, RNode687, Try.ntmps87, g3, g0, jv, jp, jp2, List.replicate_succ, nilS]
                intro t ht
                refine hK _ _ (hnext _ _ _ (by simp only [upd, g32, Nat.reduceEqDiff, ↓reduceIte]) (by simp only [upd, g31, Nat.reduceEqDiff, ↓reduceIte]) (by simp only [upd, g0, Nat.reduceEqDiff, ↓reduceIte]) (by simp only [upd, g2, Nat.reduceEqDiff, ↓reduceIte]) (by simp only [upd, g3, Nat.reduceEqDiff, ↓reduceIte]) ?_ (((J.setEye _).gain (J.own_none ht) 0).setVar _))
                refine .inr ⟨t, 0, ?_, by simp [AS.set, AS.gain], J.own_none ht⟩
                simp [intsV, eyeInts, hl0, intC]
              · refine awp_mrk_end T.mixed [(o3, [.v (.int .i64 q1.1), c1, .v (.int .u64 q3.1), c3, intsV (eyeInts i qc.2).1 (.own t e)])] [3, 5] [1] [7] (by kernel_rfl) (by simp only [Pres_cons, Pres_nil, and_true]; simp [AS.set, upd, jv]) ?_
                intro K hK
                simp only [↓AXr_nil, ↓AXr_cons, gval, lval, fzGet_cons, fzGet_nil, Pres_cons, Pres_nil, List.any_cons, List.any_nil, List.contains_cons, List.contains_nil, Nat.reduceBEq, Bool.or_false, Bool.or_true, Bool.or_self, Bool.false_or, ↓DN, UP, implies_true, forall_eq', ne_eq, if_true, if_false, aval, abin, aint, ashift, abool, astr, anil, aun, aconv, aindexAddr, aindex, optInt, aslice, abuiltin, asrc, afill, placeOf, asetAll, undef, aload, apart, AV.cells, AV.one, aeval, updO, upd, initE, gdst, thenQ, blockQ, srcOk, Array.isEmpty, List.isEmpty, bytesV, reduceCtorEq, ↓reduceIte, Nat.reduceLT, Nat.reduceLeDiff, Nat.reduceEqDiff, Nat.reduceAdd, Nat.reduceMul, Nat.reducePow, Nat.reduceSub, Int.reduceLT, Int.reduceLE, Int.reduceToNat, RNode687, Try.ntmps87, g3, g0, intsV, jv, jp, jp2]
                refine acallk (eyeU8_set _ p _ J.eye) ?_
                rintro r s6 ⟨rfl, rfl⟩
                simp only [↓AXq_nil, ↓AXq_cons, pval, ↓AXr_nil, ↓AXr_cons, gval, lval, fzGet_cons, fzGet_nil, Pres_cons, Pres_nil, List.any_cons, List.any_nil, List.contains_cons, List.contains_nil, Nat.reduceBEq, Bool.or_false, Bool.or_true, Bool.or_self, Bool.false_or, List.contains_cons, List.contains_nil, Nat.reduceBEq, Bool.or_false, Bool.or_true, Bool.or_self, Bool.false_eq_true, Bool.false_or, ↓DN, UP, implies_true, forall_eq', ne_eq, if_true, if_false, aval, abin, aint, ashift, abool, astr, anil, aun, aconv, aindexAddr, aindex, optInt, aslice, abuiltin, asrc, afill, placeOf, asetAll, undef, aload, apart, AV.cells, AV.one, aeval, updO, upd, initE, gdst, thenQ, blockQ, srcOk, Array.isEmpty, List.isEmpty, bytesV, reduceCtorEq, ↓reduceIte, Nat.reduceLT, Nat.reduceLeDiff, Nat.reduceEqDiff, Nat.reduceAdd, Nat.reduceMul, Nat.reducePow, Nat.reduceSub, Int.reduceLT, Int.reduceLE, Int.reduceToNat, RNode687, Try.ntmps87, g3, g0, jv, jp, jp2, List.replicate_succ, ht, intsV]
                refine ⟨by omega, by omega, hK _ _ (hnext _ _ _ (by simp only [upd, g32, Nat.reduceEqDiff, ↓reduceIte]) (by simp only [upd, g31, Nat.reduceEqDiff, ↓reduceIte]) (by simp only [upd, g0, Nat.reduceEqDiff, ↓reduceIte]) (by simp only [upd, g2, Nat.reduceEqDiff, ↓reduceIte]) (by simp only [upd, g3, Nat.reduceEqDiff, ↓reduceIte]) ?_ (((J.setEye _).gain ht0 (e + 1)).setVar _))⟩
                refine .inr ⟨t, e + 1, ?_, by simp [AS.set, AS.gain], ht0⟩
                simp [intsV, eyeInts, intC]
            · refine awp_reg_seq ?_
              intro K hK
              simp only [↓DN, UP, implies_true, forall_eq', ne_eq, if_true, if_false, aval, abin, aint, ashift, abool, astr, anil, aun, aconv, aindexAddr, aindex, optInt, aslice, abuiltin, asrc, afill, placeOf, asetAll, undef, aload, apart, AV.cells, AV.one, aeval, updO, upd, initE, gdst, thenQ, blockQ, srcOk, Array.isEmpty, List.isEmpty, bytesV, reduceCtorEq, ↓reduceIte, Nat.reduceLT, Nat.reduceLeDiff, Nat.reduceEqDiff, Nat.reduceAdd, Nat.reduceMul, Nat.reducePow, Nat.reduceSub, Int.reduceLT, Int.reduceLE, Int.reduceToNat, RNode687, Try.ntmps87, g32, g31, eye_lt_nat, decide_eq_false hi']
              refine hK _ _ ?_
              clear hK K
              refine awp_seq_k ?_
              intro K7 hK7
              refine awp_cond_k ?_
              intro X Y hX hY
              simp only [↓DN, UP, implies_true, forall_eq', ne_eq, if_true, if_false, aval, abin, aint, ashift, abool, astr, anil, aun, aconv, aindexAddr, aindex, optInt, aslice, abuiltin, asrc, afill, placeOf, asetAll, undef, aload, apart, AV.cells, AV.one, aeval, updO, upd, initE, gdst, thenQ, blockQ, srcOk, Array.isEmpty, List.isEmpty, bytesV, reduceCtorEq, ↓reduceIte, Nat.reduceLT, Nat.reduceLeDiff, Nat.reduceEqDiff, Nat.reduceAdd, Nat.reduceMul, Nat.reducePow, Nat.reduceSub, Int.reduceLT, Int.reduceLE, Int.reduceToNat, RNode687, Try.ntmps87, Bool.not_true, Bool.not_false, Bool.false_eq_true, Bool.true_eq_false, false_imp_iff, true_imp_iff, decide_eq_true_eq, decide_eq_false_iff_not]
              refine hY ?_
              clear hX hY X Y
              refine awp_exit ?_
              simp only [thenQ, blockQ, if_true]
              obtain rfl : i = qc.1 := by omega
              rw [← hq5] at hx J
              exact h4 _ _ _ (by simp only [upd, g0, Nat.reduceEqDiff, ↓reduceIte]) (by simp only [upd, g2, Nat.reduceEqDiff, ↓reduceIte]) (by simp only [upd, g3, Nat.reduceEqDiff, ↓reduceIte]) (IBuf.weak hx) (IBuf.one hx) J
        · refine awp_reg_seq ?_
          intro K hK
          simp only [↓DN, UP, implies_true, forall_eq', ne_eq, if_true, if_false, aval, abin, aint, ashift, abool, astr, anil, aun, aconv, aindexAddr, aindex, optInt, aslice, abuiltin, asrc, afill, placeOf, asetAll, undef, aload, apart, AV.cells, AV.one, aeval, updO, upd, initE, gdst, thenQ, blockQ, srcOk, Array.isEmpty, List.isEmpty, bytesV, reduceCtorEq, ↓reduceIte, Nat.reduceLT, Nat.reduceLeDiff, Nat.reduceEqDiff, Nat.reduceAdd, Nat.reduceMul, Nat.reducePow, Nat.reduceSub, Int.reduceLT, Int.reduceLE, Int.reduceToNat, RNode687, Try.ntmps87, g3, jv, int_eq_no (show ((q1.1 : Nat) : Int) ≠ 2 by omega)]
          refine hK _ _ ?_
          clear hK K
          refine awp_cond_k ?_
          intro X Y hX hY
          simp only [↓DN, UP, implies_true, forall_eq', ne_eq, if_true, if_false, aval, abin, aint, ashift, abool, astr, anil, aun, aconv, aindexAddr, aindex, optInt, aslice, abuiltin, asrc, afill, placeOf, asetAll, undef, aload, apart, AV.cells, AV.one, aeval, updO, upd, initE, gdst, thenQ, blockQ, srcOk, Array.isEmpty, List.isEmpty, bytesV, reduceCtorEq, ↓reduceIte, Nat.reduceLT, Nat.reduceLeDiff, Nat.reduceEqDiff, Nat.reduceAdd, Nat.reduceMul, Nat.reducePow, Nat.reduceSub, Int.reduceLT, Int.reduceLE, Int.reduceToNat, RNode687, Try.ntmps87, Bool.not_true, Bool.not_false, Bool.false_eq_true, Bool.true_eq_false, false_imp_iff, true_imp_iff, decide_eq_true_eq, decide_eq_false_iff_not]
          refine hY ?_
          clear hX hY X Y
          refine awp_skip ?_
          have hq5 : q5 = ([], q4.2) := by rw [e5]; exact if_neg hk
          rw [hq5] at h4
          exact h4 _ _ _ (by simp only [upd, g0, Nat.reduceEqDiff, ↓reduceIte]) (by simp only [upd, g2, Nat.reduceEqDiff, ↓reduceIte]) (by simp only [upd, g3, Nat.reduceEqDiff, ↓reduceIte]) AV.weak_nil rfl J
      clear hK3
      have jv := J.var
      have jp := J.p3
      have jp2 := J.p3.symm
      have hgo : (q1.1 = 1 ∨ q1.1 = 2) → ∀ (E : Env), E 0 = .ptr p 0 → E 2 = .ptr o2 0 → E 3 = .ptr o3 0 → ∀ (a b : Bool), (a || b) = true → (a = ((q1.1 : Int) == 1)) → True := fun _ _ _ _ _ _ _ _ _ => trivial
      clear hgo
      rcases tt2 ((q1.1 : Int) == 1) ((q1.1 : Int) == 2) with hd | hd | hd
      case inr.inr =>
        refine awp_reg_seq ?_
        intro K hK
        simp only [↓DN, UP, implies_true, forall_eq', ne_eq, if_true, if_false, aval, abin, aint, ashift, abool, astr, anil, aun, aconv, aindexAddr, aindex, optInt, aslice, abuiltin, asrc, afill, placeOf, asetAll, undef, aload, apart, AV.cells, AV.one, aeval, updO, upd, initE, gdst, thenQ, blockQ, srcOk, Array.isEmpty, List.isEmpty, bytesV, reduceCtorEq, ↓reduceIte, Nat.reduceLT, Nat.reduceLeDiff, Nat.reduceEqDiff, Nat.reduceAdd, Nat.reduceMul, Nat.reducePow, Nat.reduceSub, Int.reduceLT, Int.reduceLE, Int.reduceToNat, RNode687, Try.ntmps87, g3, jv, hd]
        refine hK _ _ ?_
        clear hK K
        refine awp_cond_k ?_
        intro X Y hX hY
        simp only [↓DN, UP, implies_true, forall_eq', ne_eq, if_true, if_false, aval, abin, aint, ashift, abool, astr, anil, aun, aconv, aindexAddr, aindex, optInt, aslice, abuiltin, asrc, afill, placeOf, asetAll, undef, aload, apart, AV.cells, AV.one, aeval, updO, upd, initE, gdst, thenQ, blockQ, srcOk, Array.isEmpty, List.isEmpty, bytesV, reduceCtorEq, ↓reduceIte, Nat.reduceLT, Nat.reduceLeDiff, Nat.reduceEqDiff, Nat.reduceAdd, Nat.reduceMul, Nat.reducePow, Nat.reduceSub, Int.reduceLT, Int.reduceLE, Int.reduceToNat, RNode687, Try.ntmps87, Bool.not_true, Bool.not_false, Bool.false_eq_true, Bool.true_eq_false, false_imp_iff, true_imp_iff, decide_eq_true_eq, decide_eq_false_iff_not]
        refine hY ?_
        clear hX hY X Y
        refine awp_skip ?_
        simp only [beq_eq_false_iff_ne, ne_eq] at hd
        have hq3 : q3 = (0, q2.2) := by rw [e3]; exact if_neg (by omega)
        have hq4 : q4 = ([], q2.2) := by rw [e4, hq3]; exact if_neg (by omega)
        rw [hq4] at h3
        rw [hq3] at h3
        exact h3 _ _ _ (by simp only [upd, g0, Nat.reduceEqDiff, ↓reduceIte]) (by simp only [upd, g2, Nat.reduceEqDiff, ↓reduceIte]) (by simp only [upd, g3, Nat.reduceEqDiff, ↓reduceIte]) AV.weak_nil rfl J
      all_goals
        refine awp_reg_seq ?_
        intro K hK
        simp only [↓DN, UP, implies_true, forall_eq', ne_eq, if_true, if_false, aval, abin, aint, ashift, abool, astr, anil, aun, aconv, aindexAddr, aindex, optInt, aslice, abuiltin, asrc, afill, placeOf, asetAll, undef, aload, apart, AV.cells, AV.one, aeval, updO, upd, initE, gdst, thenQ, blockQ, srcOk, Array.isEmpty, List.isEmpty, bytesV, reduceCtorEq, ↓reduceIte, Nat.reduceLT, Nat.reduceLeDiff, Nat.reduceEqDiff, Nat.reduceAdd, Nat.reduceMul, Nat.reducePow, Nat.reduceSub, Int.reduceLT, Int.reduceLE, Int.reduceToNat, RNode687, Try.ntmps87, g3, jv, hd]
        refine hK _ _ ?_
        clear hK K
        refine awp_cond_k ?_
        intro X Y hX hY
        simp only [↓DN, UP, implies_true, forall_eq', ne_eq, if_true, if_false, aval, abin, aint, ashift, abool, astr, anil, aun, aconv, aindexAddr, aindex, optInt, aslice, abuiltin, asrc, afill, placeOf, asetAll, undef, aload, apart, AV.cells, AV.one, aeval, updO, upd, initE, gdst, thenQ, blockQ, srcOk, Array.isEmpty, List.isEmpty, bytesV, reduceCtorEq, ↓reduceIte, Nat.reduceLT, Nat.reduceLeDiff, Nat.reduceEqDiff, Nat.reduceAdd, Nat.reduceMul, Nat.reducePow, Nat.reduceSub, Int.reduceLT, Int.reduceLE, Int.reduceToNat, RNode687, Try.ntmps87, Bool.not_true, Bool.not_false, Bool.false_eq_true, Bool.true_eq_false, false_imp_iff, true_imp_iff, decide_eq_true_eq, decide_eq_false_iff_not]
        refine hX ?_
        clear hX hY X Y
        simp only [beq_eq_false_iff_ne, ne_eq, beq_iff_eq] at hd
        have hq3 : q3 = eyeNum 8 q2.2 := by rw [e3]; exact if_pos (by omega)
        have hq4 : q4 = eyeText 1 32 q3.2 := by rw [e4]; exact if_pos (by omega)
        refine awp_reg_seq ?_
        intro K hK
        simp only [↓DN, UP, implies_true, forall_eq', ne_eq, if_true, if_false, aval, abin, aint, ashift, abool, astr, anil, aun, aconv, aindexAddr, aindex, optInt, aslice, abuiltin, asrc, afill, placeOf, asetAll, undef, aload, apart, AV.cells, AV.one, aeval, updO, upd, initE, gdst, thenQ, blockQ, srcOk, Array.isEmpty, List.isEmpty, bytesV, reduceCtorEq, ↓reduceIte, Nat.reduceLT, Nat.reduceLeDiff, Nat.reduceEqDiff, Nat.reduceAdd, Nat.reduceMul, Nat.reducePow, Nat.reduceSub, Int.reduceLT, Int.reduceLE, Int.reduceToNat, RNode687, Try.ntmps87, g0]
        refine acallk (eyeU64_set _ p _ J.eye) ?_
        rintro r s2 ⟨rfl, rfl⟩
        rw [← hq3]
        simp only [↓AXq_nil, ↓AXq_cons, pval, ↓AXr_nil, ↓AXr_cons, gval, lval, fzGet_cons, fzGet_nil, Pres_cons, Pres_nil, List.any_cons, List.any_nil, List.contains_cons, List.contains_nil, Nat.reduceBEq, Bool.or_false, Bool.or_true, Bool.or_self, Bool.false_or, List.contains_cons, List.contains_nil, Nat.reduceBEq, Bool.or_false, Bool.or_true, Bool.or_self, Bool.false_eq_true, Bool.false_or, ↓DN, UP, implies_true, forall_eq', ne_eq, if_true, if_false, aval, abin, aint, ashift, abool, astr, anil, aun, aconv, aindexAddr, aindex, optInt, aslice, abuiltin, asrc, afill, placeOf, asetAll, undef, aload, apart, AV.cells, AV.one, aeval, updO, upd, initE, gdst, thenQ, blockQ, srcOk, Array.isEmpty, List.isEmpty, bytesV, reduceCtorEq, ↓reduceIte, Nat.reduceLT, Nat.reduceLeDiff, Nat.reduceEqDiff, Nat.reduceAdd, Nat.reduceMul, Nat.reducePow, Nat.reduceSub, Int.reduceLT, Int.reduceLE, Int.reduceToNat, RNode687, Try.ntmps87, g3, jv, jp, jp2]
        refine hK _ _ ?_
        clear hK K
        have J2 := (J.setEye (eyeC q3.2)).setVar [.v (.int .i64 q1.1), c1, .v (.int .u64 q3.1), .v (.slice none 0 0), .v (.slice none 0 0)]
        refine awp_reg_end ?_
        intro K hK
        simp only [↓DN, UP, implies_true, forall_eq', ne_eq, if_true, if_false, aval, abin, aint, ashift, abool, astr, anil, aun, aconv, aindexAddr, aindex, optInt, aslice, abuiltin, asrc, afill, placeOf, asetAll, undef, aload, apart, AV.cells, AV.one, aeval, updO, upd, initE, gdst, thenQ, blockQ, srcOk, Array.isEmpty, List.isEmpty, bytesV, reduceCtorEq, ↓reduceIte, Nat.reduceLT, Nat.reduceLeDiff, Nat.reduceEqDiff, Nat.reduceAdd, Nat.reduceMul, Nat.reducePow, Nat.reduceSub, Int.reduceLT, Int.reduceLE, Int.reduceToNat, RNode687, Try.ntmps87, g0]
        refine acallk (eyeShort_set _ p _ 32 (by have := l3; omega) J2.eye) ?_
        rintro r s3 ⟨rfl, rfl⟩
        rw [← hq4]
        simp only [↓AXq_nil, ↓AXq_cons, pval, List.contains_cons, List.contains_nil, Nat.reduceBEq, Bool.or_false, Bool.or_true, Bool.or_self, Bool.false_eq_true, Bool.false_or, ↓DN, UP, implies_true, forall_eq', ne_eq, if_true, if_false, aval, abin, aint, ashift, abool, astr, anil, aun, aconv, aindexAddr, aindex, optInt, aslice, abuiltin, asrc, afill, placeOf, asetAll, undef, aload, apart, AV.cells, AV.one, aeval, updO, upd, initE, gdst, thenQ, blockQ, srcOk, Array.isEmpty, List.isEmpty, bytesV, reduceCtorEq, ↓reduceIte, Nat.reduceLT, Nat.reduceLeDiff, Nat.reduceEqDiff, Nat.reduceAdd, Nat.reduceMul, Nat.reducePow, Nat.reduceSub, Int.reduceLT, Int.reduceLE, Int.reduceToNat, RNode687, Try.ntmps87, g3, jv, jp, jp2]
        refine hK _ _ (h3 _ _ _ (by simp only [upd, g0, Nat.reduceEqDiff, ↓reduceIte]) (by simp only [upd, g2, Nat.reduceEqDiff, ↓reduceIte]) (by simp only [upd, g3, Nat.reduceEqDiff, ↓reduceIte]) (AV.weak.refl _) rfl ((J2.setEye (eyeC q4.2)).setVar _))
    clear hK2
    have jv := J.var
    have jp := J.p3
    have jp2 := J.p3.symm
    by_cases hk : q1.1 = 1
    · refine awp_reg_seq ?_
      intro K hK
      simp only [↓DN, UP, implies_true, forall_eq', ne_eq, if_true, if_false, aval, abin, aint, ashift, abool, astr, anil, aun, aconv, aindexAddr, aindex, optInt, aslice, abuiltin, asrc, afill, placeOf, asetAll, undef, aload, apart, AV.cells, AV.one, aeval, updO, upd, initE, gdst, thenQ, blockQ, srcOk, Array.isEmpty, List.isEmpty, bytesV, reduceCtorEq, ↓reduceIte, Nat.reduceLT, Nat.reduceLeDiff, Nat.reduceEqDiff, Nat.reduceAdd, Nat.reduceMul, Nat.reducePow, Nat.reduceSub, Int.reduceLT, Int.reduceLE, Int.reduceToNat, RNode687, Try.ntmps87, g3, jv, int_eq_yes (show ((q1.1 : Nat) : Int) = 1 by omega)]
      refine hK _ _ ?_
      clear hK K
      refine awp_cond_k ?_
      intro X Y hX hY
      simp only [↓DN, UP, implies_true, forall_eq', ne_eq, if_true, if_false, aval, abin, aint, ashift, abool, astr, anil, aun, aconv, aindexAddr, aindex, optInt, aslice, abuiltin, asrc, afill, placeOf, asetAll, undef, aload, apart, AV.cells, AV.one, aeval, updO, upd, initE, gdst, thenQ, blockQ, srcOk, Array.isEmpty, List.isEmpty, bytesV, reduceCtorEq, ↓reduceIte, Nat.reduceLT, Nat.reduceLeDiff, Nat.reduceEqDiff, Nat.reduceAdd, Nat.reduceMul, Nat.reducePow, Nat.reduceSub, Int.reduceLT, Int.reduceLE, Int.reduceToNat, RNode687, Try.ntmps87, Bool.not_true, Bool.not_false, Bool.false_eq_true, Bool.true_eq_false, false_imp_iff, true_imp_iff, decide_eq_true_eq, decide_eq_false_iff_not]
      refine hX ?_
      clear hX hY X Y
      have hq2 : q2 = eyeText 1 16 q1.2 := by rw [e2]; exact if_pos hk
      refine awp_reg_end ?_
      intro K hK
      simp only [↓DN, UP, implies_true, forall_eq', ne_eq, if_true, if_false, aval, abin, aint, ashift, abool, astr, anil, aun, aconv, aindexAddr, aindex, optInt, aslice, abuiltin, asrc, afill, placeOf, asetAll, undef, aload, apart, AV.cells, AV.one, aeval, updO, upd, initE, gdst, thenQ, blockQ, srcOk, Array.isEmpty, List.isEmpty, bytesV, reduceCtorEq, ↓reduceIte, Nat.reduceLT, Nat.reduceLeDiff, Nat.reduceEqDiff, Nat.reduceAdd, Nat.reduceMul, Nat.reducePow, Nat.reduceSub, Int.reduceLT, Int.reduceLE, Int.reduceToNat, RNode687, Try.ntmps87, g0]
      refine acallk (eyeShort_set _ p _ 16 (by have := l1; omega) J.eye) ?_
      rintro r s3 ⟨rfl, rfl⟩
      rw [← hq2]
      simp only [↓AXq_nil, ↓AXq_cons, pval, List.contains_cons, List.contains_nil, Nat.reduceBEq, Bool.or_false, Bool.or_true, Bool.or_self, Bool.false_eq_true, Bool.false_or, ↓DN, UP, implies_true, forall_eq', ne_eq, if_true, if_false, aval, abin, aint, ashift, abool, astr, anil, aun, aconv, aindexAddr, aindex, optInt, aslice, abuiltin, asrc, afill, placeOf, asetAll, undef, aload, apart, AV.cells, AV.one, aeval, updO, upd, initE, gdst, thenQ, blockQ, srcOk, Array.isEmpty, List.isEmpty, bytesV, reduceCtorEq, ↓reduceIte, Nat.reduceLT, Nat.reduceLeDiff, Nat.reduceEqDiff, Nat.reduceAdd, Nat.reduceMul, Nat.reducePow, Nat.reduceSub, Int.reduceLT, Int.reduceLE, Int.reduceToNat, RNode687, Try.ntmps87, g3, jv, jp, jp2]
      exact hK _ _ (h2 _ _ _ (by simp only [upd, g0, Nat.reduceEqDiff, ↓reduceIte]) (by simp only [upd, g2, Nat.reduceEqDiff, ↓reduceIte]) (by simp only [upd, g3, Nat.reduceEqDiff, ↓reduceIte]) (AV.weak.refl _) rfl ((J.setEye (eyeC q2.2)).setVar _))
    · refine awp_reg_seq ?_
      intro K hK
      simp only [↓DN, UP, implies_true, forall_eq', ne_eq, if_true, if_false, aval, abin, aint, ashift, abool, astr, anil, aun, aconv, aindexAddr, aindex, optInt, aslice, abuiltin, asrc, afill, placeOf, asetAll, undef, aload, apart, AV.cells, AV.one, aeval, updO, upd, initE, gdst, thenQ, blockQ, srcOk, Array.isEmpty, List.isEmpty, bytesV, reduceCtorEq, ↓reduceIte, Nat.reduceLT, Nat.reduceLeDiff, Nat.reduceEqDiff, Nat.reduceAdd, Nat.reduceMul, Nat.reducePow, Nat.reduceSub, Int.reduceLT, Int.reduceLE, Int.reduceToNat, RNode687, Try.ntmps87, g3, jv, int_eq_no (show ((q1.1 : Nat) : Int) ≠ 1 by omega)]
      refine hK _ _ ?_
      clear hK K
      refine awp_cond_k ?_
      intro X Y hX hY
      simp only [↓DN, UP, implies_true, forall_eq', ne_eq, if_true, if_false, aval, abin, aint, ashift, abool, astr, anil, aun, aconv, aindexAddr, aindex, optInt, aslice, abuiltin, asrc, afill, placeOf, asetAll, undef, aload, apart, AV.cells, AV.one, aeval, updO, upd, initE, gdst, thenQ, blockQ, srcOk, Array.isEmpty, List.isEmpty, bytesV, reduceCtorEq, ↓reduceIte, Nat.reduceLT, Nat.reduceLeDiff, Nat.reduceEqDiff, Nat.reduceAdd, Nat.reduceMul, Nat.reducePow, Nat.reduceSub, Int.reduceLT, Int.reduceLE, Int.reduceToNat, RNode687, Try.ntmps87, Bool.not_true, Bool.not_false, Bool.false_eq_true, Bool.true_eq_false, false_imp_iff, true_imp_iff, decide_eq_true_eq, decide_eq_false_iff_not]
      refine hY ?_
      clear hX hY X Y
      refine awp_skip ?_
      have hq2 : q2 = ([], q1.2) := by rw [e2]; exact if_neg hk
      rw [hq2] at h2
      exact h2 _ _ _ (by simp only [upd, g0, Nat.reduceEqDiff, ↓reduceIte]) (by simp only [upd, g2, Nat.reduceEqDiff, ↓reduceIte]) (by simp only [upd, g3, Nat.reduceEqDiff, ↓reduceIte]) AV.weak_nil rfl J
  clear hK1
  refine awp_reg_end ?_
  intro K hK
  simp only [↓DN, UP, implies_true, forall_eq', ne_eq, if_true, if_false, aval, abin, aint, ashift, abool, astr, anil, aun, aconv, aindexAddr, aindex, optInt, aslice, abuiltin, asrc, afill, placeOf, asetAll, undef, aload, apart, AV.cells, AV.one, aeval, updO, upd, initE, gdst, thenQ, blockQ, srcOk, Array.isEmpty, List.isEmpty, bytesV, reduceCtorEq, ↓reduceIte, Nat.reduceLT, Nat.reduceLeDiff, Nat.reduceEqDiff, Nat.reduceAdd, Nat.reduceMul, Nat.reducePow, Nat.reduceSub, Int.reduceLT, Int.reduceLE, Int.reduceToNat, RNode687, Try.ntmps87]
  refine acallk (eyeU8_set _ p st (by rw [AS.set_objs_ne _ hp2]; exact h)) ?_
  rintro r s1 ⟨rfl, rfl⟩
  rw [← e1]
  simp only [↓AXq_nil, ↓AXq_cons, pval, List.contains_cons, List.contains_nil, Nat.reduceBEq, Bool.or_false, Bool.or_true, Bool.or_self, Bool.false_eq_true, Bool.false_or, ↓DN, UP, implies_true, forall_eq', ne_eq, if_true, if_false, aval, abin, aint, ashift, abool, astr, anil, aun, aconv, aindexAddr, aindex, optInt, aslice, abuiltin, asrc, afill, placeOf, asetAll, undef, aload, apart, AV.cells, AV.one, aeval, updO, upd, initE, gdst, thenQ, blockQ, srcOk, Array.isEmpty, List.isEmpty, bytesV, reduceCtorEq, ↓reduceIte, Nat.reduceLT, Nat.reduceLeDiff, Nat.reduceEqDiff, Nat.reduceAdd, Nat.reduceMul, Nat.reducePow, Nat.reduceSub, Int.reduceLT, Int.reduceLE, Int.reduceToNat, RNode687, Try.ntmps87]
  intro o3 ho3
  have hp3 : o3 ≠ p := by
    rintro rfl
    simp at ho3
  have h32 : o3 ≠ o2 := by
    rintro rfl
    simp [hp2.symm] at ho3
  have ho30 : s.objs o3 = none := by simpa [hp3, h32] using ho3
  refine hK _ _ (h1 _ _ o3 (by simp only [upd, initE, Nat.reduceEqDiff, ↓reduceIte, List.getD_cons_zero]) (by simp only [upd, Nat.reduceEqDiff, ↓reduceIte]) (by simp only [upd, Nat.reduceEqDiff, ↓reduceIte]) ?_)
  refine ⟨AS.le_set (AS.le_set (AS.le_set (AS.drop_le s p) (AS.drop_objs_none ho2) _) (AS.drop_self _ _) _) (AS.drop_objs_none ho30) _, ?_, ?_, AS.set_objs_same _ _ _, ho2, ho30, hp2, hp3.symm, h32.symm⟩
  · rw [AS.set_objs_ne _ hp3.symm, AS.set_objs_same]
  · rw [AS.set_objs_ne _ h32.symm, AS.set_objs_ne _ hp2.symm, AS.set_objs_same, hz]

end Go.Proofs.Ytpakgjmcaefnmaa
