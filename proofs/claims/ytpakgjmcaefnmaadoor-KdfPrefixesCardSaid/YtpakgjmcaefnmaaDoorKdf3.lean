/- Contracts of the program's functions, each walked once; the conditions stand in each theorem. -/
import Derived.Test.YtpakgjmcaefnmaaDoorKdf2
import Derived.Test.YtpakgjmcaefnmaaDoorAMp6
set_option linter.unusedSimpArgs false
set_option linter.unusedVariables false
set_option autoImplicit false
namespace Go.Proofs.YtpakgjmcaefnmaaDoor
open Go Go.AM Go.Proofs

theorem RKdf330 : type_of% (And.intro (And.intro (And.intro (And.intro @Tryd.underlying3 T.c3) (And.intro T.g3 (And.intro T.b3 T.z3))) (And.intro (And.intro @Tryd.underlying5 (And.intro T.c5 T.g5)) (And.intro T.b5 (And.intro T.z5 @Tryd.underlying9)))) (And.intro (And.intro (And.intro T.c9 (And.intro T.g9 T.b9)) (And.intro T.z9 (And.intro @Tryd.underlying22 T.c22))) (And.intro (And.intro T.g22 (And.intro T.b22 T.z22)) (And.intro T.s22 (And.intro T.k80 T.k32))))) :=
  (And.intro (And.intro (And.intro (And.intro @Tryd.underlying3 T.c3) (And.intro T.g3 (And.intro T.b3 T.z3))) (And.intro (And.intro @Tryd.underlying5 (And.intro T.c5 T.g5)) (And.intro T.b5 (And.intro T.z5 @Tryd.underlying9)))) (And.intro (And.intro (And.intro T.c9 (And.intro T.g9 T.b9)) (And.intro T.z9 (And.intro @Tryd.underlying22 T.c22))) (And.intro (And.intro T.g22 (And.intro T.b22 T.z22)) (And.intro T.s22 (And.intro T.k80 T.k32)))))

variable {Γ : Nat → List AV}

def saltL (k : Nat) : List UInt8 := (List.range 13).map fun j => if j < k then UInt8.ofNat j else 0
theorem saltL_set (k : Nat) (h : k < 13) : (saltL k).set k (UInt8.ofNat k) = saltL (k + 1) := by
  have : ∀ k < 13, (saltL k).set k (UInt8.ofNat k) = saltL (k + 1) := by decide
  exact this k h
theorem saltL_len (k : Nat) : (saltL k).length = 13 := by simp [saltL]
theorem saltL_all (k : Nat) (h : 13 ≤ k) : saltL k = saltL 13 := by
  unfold saltL
  apply List.map_congr_left
  intro j hj
  have := List.mem_range.1 hj
  rw [if_pos (by omega), if_pos this]
def text22 : List UInt8 := List.replicate 22 11
theorem extract_hex : hexB (Mac.tag (saltL 13) text22) = [48, 55, 55, 55, 48, 57, 51, 54, 50, 99, 50, 101, 51, 50, 100, 102, 48, 100, 100, 99, 51, 102, 48, 100, 99, 52, 55, 98, 98, 97, 54, 51, 57, 48, 98, 54, 99, 55, 51, 98, 98, 53, 48, 102, 57, 99, 51, 49, 50, 50, 101, 99, 56, 52, 52, 97, 100, 55, 99, 50, 98, 51, 101, 53] := by decide +kernel
set_option maxHeartbeats 2000000 in
set_option maxRecDepth 100000 in
theorem awake04_calls (hG0 : Γ 0 = stC Sha.H0) (hG : Γ 1 = Sha.K.map wV) (s : AS) :
    ACalls Tryd.prog Γ 30 [] s (fun r s' => r = .v (.bool true) ∧ s' = s) := by
  refine gcalls_body Tryd.func30 rfl Tryd.ntmps30 Tryd.results30 (by simp) ?_
  refine gwp_seq_k ?_
  intro K1 hK1
  refine awp_reg_end ?_
  intro K hK
  simp only [↓DN, UP, implies_true, forall_eq', ne_eq, if_true, if_false, aval, abin, aint, ashift, abool, astr, anil, aun, aconv, aindexAddr, aindex, optInt, aslice, abuiltin, asrc, afill, placeOf, asetAll, undef, aload, apart, AV.cells, AV.one, aeval, updO, upd, initE, gdst, thenQ, blockQ, srcOk, Array.isEmpty, List.isEmpty, bytesV, reduceCtorEq, ↓reduceIte, Nat.reduceLT, Nat.reduceLeDiff, Nat.reduceEqDiff, Nat.reduceAdd, Nat.reduceMul, Nat.reducePow, Nat.reduceSub, Int.reduceLT, Int.reduceLE, Int.reduceToNat, RKdf330, Tryd.ntmps30]
  refine hK _ _ ?_
  clear hK K
  simp only [thenQ]
  refine hK1 _ _ ?_
  clear hK1 K1
  refine gwp_seq (gwp_region_any T.mixed fun K hK => ?_)
  have hgo : ∀ (o1 o2 : Nat) (E1 : Env) (s1 : AS), o1 ≠ o2 → s.objs o1 = none → s.objs o2 = none → s1.objs o1 = some (List.replicate 13 (.v (.int .u8 0))) → s1.objs o2 = some (List.replicate 22 (.v (.int .u8 0))) → s.le s1 → E1 1 = .osl o1 0 1 13 13 → E1 2 = .osl o2 0 1 22 22 → K E1 s1 := by
    intro o1 o2 E1 s1 hne hn1 hn2 j1 j2 hle e1 e2
    refine hK _ _ ?_
    clear hK K
    simp only [thenQ]
    refine gwp_seq_k ?_
    intro K1 hK1
    refine awp_reg_seq ?_
    intro K hK
    simp only [↓DN, UP, implies_true, forall_eq', ne_eq, if_true, if_false, aval, abin, aint, ashift, abool, astr, anil, aun, aconv, aindexAddr, aindex, optInt, aslice, abuiltin, asrc, afill, placeOf, asetAll, undef, aload, apart, AV.cells, AV.one, aeval, updO, upd, initE, gdst, thenQ, blockQ, srcOk, Array.isEmpty, List.isEmpty, bytesV, reduceCtorEq, ↓reduceIte, Nat.reduceLT, Nat.reduceLeDiff, Nat.reduceEqDiff, Nat.reduceAdd, Nat.reduceMul, Nat.reducePow, Nat.reduceSub, Int.reduceLT, Int.reduceLE, Int.reduceToNat, RKdf330, Tryd.ntmps30]
    refine hK _ _ ?_
    clear hK K
    refine awp_block ?_
    have j1' : s1.objs o1 = some ((saltL 0).map byteV) := j1
    have j2' : s1.objs o2 = some ((filled 22 0 11).map byteV) := by rw [filled_zero, List.map_replicate]; exact j2
    refine awp_loop (fun E s2 => ∃ k : Nat, k ≤ 22 ∧ E 1 = .osl o1 0 1 13 13 ∧ E 2 = .osl o2 0 1 22 22 ∧ E 3 = .v (.int .i64 k) ∧ s2.objs o1 = some ((saltL k).map byteV) ∧ s2.objs o2 = some ((filled 22 k 11).map byteV) ∧ s.le s2)
      (fun E _ => match E 3 with | .v (.int _ x) => 22 - x.toNat | _ => 0) ?_ ?_
    · exact ⟨0, by omega, by simp only [upd, e1, Nat.reduceEqDiff, ↓reduceIte], by simp only [upd, e2, Nat.reduceEqDiff, ↓reduceIte], by simp only [upd, ↓reduceIte]; rfl, j1', j2', hle⟩
    · rintro E2 s2 ⟨k, hk, g1, g2, g3, w1, w2, hle2⟩ -
      refine awp_seq_k ?_
      intro K2 hK2
      by_cases hk' : k < 22
      · have hlt : (k : Int) < 22 := by omega
        have hlt2 : (k : Int) < ((22 : Nat) : Int) := by omega
        have hk0 : (0 : Int) ≤ (k : Int) := by omega
        have hset := filled_set 22 k 11 hk'
        rw [show byteV 11 = .v (.int .u8 11) from rfl] at hset
        have hlen : ((filled 22 k 11).map byteV).length = 22 := by rw [List.length_map]; exact filled_len 22 k 11 hk
        refine awp_reg_seq ?_
        intro K hK
        simp only [↓DN, UP, implies_true, forall_eq', ne_eq, if_true, if_false, aval, abin, aint, ashift, abool, astr, anil, aun, aconv, aindexAddr, aindex, optInt, aslice, abuiltin, asrc, afill, placeOf, asetAll, undef, aload, apart, AV.cells, AV.one, aeval, updO, upd, initE, gdst, thenQ, blockQ, srcOk, Array.isEmpty, List.isEmpty, bytesV, reduceCtorEq, ↓reduceIte, Nat.reduceLT, Nat.reduceLeDiff, Nat.reduceEqDiff, Nat.reduceAdd, Nat.reduceMul, Nat.reducePow, Nat.reduceSub, Int.reduceLT, Int.reduceLE, Int.reduceToNat, RKdf330, Tryd.ntmps30, g3, decide_eq_true hlt]
        refine hK _ _ ?_
        clear hK K
        refine awp_cond_k ?_
        intro X Y hX hY
        simp only [↓DN, UP, implies_true, forall_eq', ne_eq, if_true, if_false, aval, abin, aint, ashift, abool, astr, anil, aun, aconv, aindexAddr, aindex, optInt, aslice, abuiltin, asrc, afill, placeOf, asetAll, undef, aload, apart, AV.cells, AV.one, aeval, updO, upd, initE, gdst, thenQ, blockQ, srcOk, Array.isEmpty, List.isEmpty, bytesV, reduceCtorEq, ↓reduceIte, Nat.reduceLT, Nat.reduceLeDiff, Nat.reduceEqDiff, Nat.reduceAdd, Nat.reduceMul, Nat.reducePow, Nat.reduceSub, Int.reduceLT, Int.reduceLE, Int.reduceToNat, RKdf330, Tryd.ntmps30, Bool.not_true, Bool.not_false, Bool.false_eq_true, Bool.true_eq_false, false_imp_iff, true_imp_iff, decide_eq_true_eq, decide_eq_false_iff_not]
        refine hX ?_
        clear hX hY X Y
        refine awp_skip ?_
        refine hK2 _ _ ?_
        clear hK2 K2
        refine awp_seq_k ?_
        intro K3 hK3
        refine awp_block ?_
        generalize hX2 : (filled 22 k 11).map byteV = X2 at *
        refine awp_reg_seq ?_
        intro K hK
        simp only [↓DN, UP, implies_true, forall_eq', ne_eq, if_true, if_false, aval, abin, aint, ashift, abool, astr, anil, aun, aconv, aindexAddr, aindex, optInt, aslice, abuiltin, asrc, afill, placeOf, asetAll, undef, aload, apart, AV.cells, AV.one, aeval, updO, upd, initE, gdst, thenQ, blockQ, srcOk, Array.isEmpty, List.isEmpty, bytesV, reduceCtorEq, ↓reduceIte, Nat.reduceLT, Nat.reduceLeDiff, Nat.reduceEqDiff, Nat.reduceAdd, Nat.reduceMul, Nat.reducePow, Nat.reduceSub, Int.reduceLT, Int.reduceLE, Int.reduceToNat, RKdf330, Tryd.ntmps30, g2, g3, hk0, hlt2, w2, hlen, hset]
        refine ⟨by omega, ?_⟩
        refine hK _ _ ?_
        clear hK K
        have hfin : ∀ (E4 : Env) (s4 : AS), E4 1 = .osl o1 0 1 13 13 → E4 2 = .osl o2 0 1 22 22 → E4 3 = .v (.int .i64 k) → s4.objs o1 = some ((saltL (k + 1)).map byteV) → s4.objs o2 = some ((filled 22 (k + 1) 11).map byteV) → s.le s4 → K3 E4 s4 := by
          intro E4 s4 f1 f2 f3 v1 v2 hle4
          refine hK3 _ _ ?_
          clear hK3 K3
          refine awp_reg_end ?_
          intro K hK
          simp only [↓DN, UP, implies_true, forall_eq', ne_eq, if_true, if_false, aval, abin, aint, ashift, abool, astr, anil, aun, aconv, aindexAddr, aindex, optInt, aslice, abuiltin, asrc, afill, placeOf, asetAll, undef, aload, apart, AV.cells, AV.one, aeval, updO, upd, initE, gdst, thenQ, blockQ, srcOk, Array.isEmpty, List.isEmpty, bytesV, reduceCtorEq, ↓reduceIte, Nat.reduceLT, Nat.reduceLeDiff, Nat.reduceEqDiff, Nat.reduceAdd, Nat.reduceMul, Nat.reducePow, Nat.reduceSub, Int.reduceLT, Int.reduceLE, Int.reduceToNat, RKdf330, Tryd.ntmps30, f3, w_succ k (by omega)]
          refine hK _ _ ?_
          clear hK K
          refine ⟨⟨k + 1, hk', by simp only [upd, f1, Nat.reduceEqDiff, ↓reduceIte], by simp only [upd, f2, Nat.reduceEqDiff, ↓reduceIte], by simp only [upd, ↓reduceIte], v1, v2, hle4⟩, ?_⟩
          simp only [g3, upd, ↓reduceIte]
          omega
        have v2 : (s2.set o2 ((filled 22 (k + 1) 11).map byteV)).objs o2 = some ((filled 22 (k + 1) 11).map byteV) := AS.set_objs_same _ _ _
        have v1 : (s2.set o2 ((filled 22 (k + 1) 11).map byteV)).objs o1 = some ((saltL k).map byteV) := by rw [AS.set_objs_ne _ hne]; exact w1
        have hle3 : s.le (s2.set o2 ((filled 22 (k + 1) 11).map byteV)) := AS.le_set hle2 hn2 _
        generalize s2.set o2 ((filled 22 (k + 1) 11).map byteV) = s3 at *
        by_cases h13 : k < 13
        · have hlt3 : (k : Int) < 13 := by omega
          have hlt4 : (k : Int) < ((13 : Nat) : Int) := by omega
          have hsl := saltL_len k
          have hss := congrArg (List.map byteV) (saltL_set k h13)
          rw [List.map_set, show byteV (UInt8.ofNat k) = .v (.int .u8 ((UInt8.ofNat k).toNat : Int)) from rfl] at hss
          have hsl' : ((saltL k).map byteV).length = 13 := by rw [List.length_map]; exact hsl
          generalize hX1 : (saltL k).map byteV = X1 at *
          refine awp_reg_seq ?_
          intro K hK
          simp only [↓DN, UP, implies_true, forall_eq', ne_eq, if_true, if_false, aval, abin, aint, ashift, abool, astr, anil, aun, aconv, aindexAddr, aindex, optInt, aslice, abuiltin, asrc, afill, placeOf, asetAll, undef, aload, apart, AV.cells, AV.one, aeval, updO, upd, initE, gdst, thenQ, blockQ, srcOk, Array.isEmpty, List.isEmpty, bytesV, reduceCtorEq, ↓reduceIte, Nat.reduceLT, Nat.reduceLeDiff, Nat.reduceEqDiff, Nat.reduceAdd, Nat.reduceMul, Nat.reducePow, Nat.reduceSub, Int.reduceLT, Int.reduceLE, Int.reduceToNat, RKdf330, Tryd.ntmps30, g3, decide_eq_true hlt3]
          refine hK _ _ ?_
          clear hK K
          refine awp_cond_k ?_
          intro X Y hX hY
          simp only [↓DN, UP, implies_true, forall_eq', ne_eq, if_true, if_false, aval, abin, aint, ashift, abool, astr, anil, aun, aconv, aindexAddr, aindex, optInt, aslice, abuiltin, asrc, afill, placeOf, asetAll, undef, aload, apart, AV.cells, AV.one, aeval, updO, upd, initE, gdst, thenQ, blockQ, srcOk, Array.isEmpty, List.isEmpty, bytesV, reduceCtorEq, ↓reduceIte, Nat.reduceLT, Nat.reduceLeDiff, Nat.reduceEqDiff, Nat.reduceAdd, Nat.reduceMul, Nat.reducePow, Nat.reduceSub, Int.reduceLT, Int.reduceLE, Int.reduceToNat, RKdf330, Tryd.ntmps30, Bool.not_true, Bool.not_false, Bool.false_eq_true, Bool.true_eq_false, false_imp_iff, true_imp_iff, decide_eq_true_eq, decide_eq_false_iff_not]
          refine hX ?_
          clear hX hY X Y
          refine awp_reg_end ?_
          intro K hK
          simp only [↓DN, UP, implies_true, forall_eq', ne_eq, if_true, if_false, aval, abin, aint, ashift, abool, astr, anil, aun, aconv, aindexAddr, aindex, optInt, aslice, abuiltin, asrc, afill, placeOf, asetAll, undef, aload, apart, AV.cells, AV.one, aeval, updO, upd, initE, gdst, thenQ, blockQ, srcOk, Array.isEmpty, List.isEmpty, bytesV, reduceCtorEq, ↓reduceIte, Nat.reduceLT, Nat.reduceLeDiff, Nat.reduceEqDiff, Nat.reduceAdd, Nat.reduceMul, Nat.reducePow, Nat.reduceSub, Int.reduceLT, Int.reduceLE, Int.reduceToNat, RKdf330, Tryd.ntmps30, g1, g3, u8_of_i64, hk0, hlt4, v1, hsl', hss]
          refine ⟨by omega, ?_⟩
          refine hK _ _ ?_
          clear hK K
          simp only [thenQ, blockQ, if_true, if_false]
          refine hfin _ _ ?_ ?_ ?_ (AS.set_objs_same _ _ _) ?_ (AS.le_set hle3 hn1 _)
          · simp only [upd, g1, Nat.reduceEqDiff, ↓reduceIte]
          · simp only [upd, g2, Nat.reduceEqDiff, ↓reduceIte]
          · simp only [upd, g3, Nat.reduceEqDiff, ↓reduceIte]
          · rw [AS.set_objs_ne _ (Ne.symm hne)]; exact v2
        · have hlt3 : ¬ (k : Int) < 13 := by omega
          refine awp_reg_seq ?_
          intro K hK
          simp only [↓DN, UP, implies_true, forall_eq', ne_eq, if_true, if_false, aval, abin, aint, ashift, abool, astr, anil, aun, aconv, aindexAddr, aindex, optInt, aslice, abuiltin, asrc, afill, placeOf, asetAll, undef, aload, apart, AV.cells, AV.one, aeval, updO, upd, initE, gdst, thenQ, blockQ, srcOk, Array.isEmpty, List.isEmpty, bytesV, reduceCtorEq, ↓reduceIte, Nat.reduceLT, Nat.reduceLeDiff, Nat.reduceEqDiff, Nat.reduceAdd, Nat.reduceMul, Nat.reducePow, Nat.reduceSub, Int.reduceLT, Int.reduceLE, Int.reduceToNat, RKdf330, Tryd.ntmps30, g3, decide_eq_false hlt3]
          refine hK _ _ ?_
          clear hK K
          refine awp_cond_k ?_
          intro X Y hX hY
          simp only [↓DN, UP, implies_true, forall_eq', ne_eq, if_true, if_false, aval, abin, aint, ashift, abool, astr, anil, aun, aconv, aindexAddr, aindex, optInt, aslice, abuiltin, asrc, afill, placeOf, asetAll, undef, aload, apart, AV.cells, AV.one, aeval, updO, upd, initE, gdst, thenQ, blockQ, srcOk, Array.isEmpty, List.isEmpty, bytesV, reduceCtorEq, ↓reduceIte, Nat.reduceLT, Nat.reduceLeDiff, Nat.reduceEqDiff, Nat.reduceAdd, Nat.reduceMul, Nat.reducePow, Nat.reduceSub, Int.reduceLT, Int.reduceLE, Int.reduceToNat, RKdf330, Tryd.ntmps30, Bool.not_true, Bool.not_false, Bool.false_eq_true, Bool.true_eq_false, false_imp_iff, true_imp_iff, decide_eq_true_eq, decide_eq_false_iff_not]
          refine hY ?_
          clear hX hY X Y
          refine awp_skip ?_
          simp only [thenQ, blockQ, if_true, if_false]
          refine hfin _ _ ?_ ?_ ?_ ?_ v2 hle3
          · simp only [upd, g1, Nat.reduceEqDiff, ↓reduceIte]
          · simp only [upd, g2, Nat.reduceEqDiff, ↓reduceIte]
          · simp only [upd, g3, Nat.reduceEqDiff, ↓reduceIte]
          · rw [saltL_all (k + 1) (by omega), ← saltL_all k (by omega)]; exact v1
      · obtain rfl : k = 22 := by omega
        refine awp_reg_seq ?_
        intro K hK
        simp only [↓DN, UP, implies_true, forall_eq', ne_eq, if_true, if_false, aval, abin, aint, ashift, abool, astr, anil, aun, aconv, aindexAddr, aindex, optInt, aslice, abuiltin, asrc, afill, placeOf, asetAll, undef, aload, apart, AV.cells, AV.one, aeval, updO, upd, initE, gdst, thenQ, blockQ, srcOk, Array.isEmpty, List.isEmpty, bytesV, reduceCtorEq, ↓reduceIte, Nat.reduceLT, Nat.reduceLeDiff, Nat.reduceEqDiff, Nat.reduceAdd, Nat.reduceMul, Nat.reducePow, Nat.reduceSub, Int.reduceLT, Int.reduceLE, Int.reduceToNat, RKdf330, Tryd.ntmps30, g3, decide_eq_false (show ¬ ((22 : Nat) : Int) < 22 by decide)]
        refine hK _ _ ?_
        clear hK K
        refine awp_cond_k ?_
        intro X Y hX hY
        simp only [↓DN, UP, implies_true, forall_eq', ne_eq, if_true, if_false, aval, abin, aint, ashift, abool, astr, anil, aun, aconv, aindexAddr, aindex, optInt, aslice, abuiltin, asrc, afill, placeOf, asetAll, undef, aload, apart, AV.cells, AV.one, aeval, updO, upd, initE, gdst, thenQ, blockQ, srcOk, Array.isEmpty, List.isEmpty, bytesV, reduceCtorEq, ↓reduceIte, Nat.reduceLT, Nat.reduceLeDiff, Nat.reduceEqDiff, Nat.reduceAdd, Nat.reduceMul, Nat.reducePow, Nat.reduceSub, Int.reduceLT, Int.reduceLE, Int.reduceToNat, RKdf330, Tryd.ntmps30, Bool.not_true, Bool.not_false, Bool.false_eq_true, Bool.true_eq_false, false_imp_iff, true_imp_iff, decide_eq_true_eq, decide_eq_false_iff_not]
        refine hY ?_
        clear hX hY X Y
        refine awp_exit ?_
        simp only [thenQ, blockQ, if_true]
        clear hK2 K2
        refine hK1 _ _ ?_
        clear hK1 K1
        rw [show filled 22 22 11 = text22 from rfl] at w2
        rw [saltL_all 22 (by decide)] at w1
        refine gwp_ghost (Ghost.freeze (d := 1) (o := o1) (off := 0) (sz := 1) (n := 13) (cap := 13) (by simp only [upd, Nat.reduceEqDiff, ↓reduceIte]; exact g1) w1 (by simp [saltL])) ?_
        refine gwp_ghost (Ghost.freeze (d := 2) (o := o2) (off := 0) (sz := 1) (n := 22) (cap := 22) (cs := text22.map byteV) (by simp only [upd, Nat.reduceEqDiff, ↓reduceIte]; exact g2) (by simp only [AS.drop, upd]; rw [if_neg (Ne.symm hne)]; exact w2) (by simp [text22])) (AWp.g ?_)
        have hle3 : s.le ((s2.drop o1).drop o2) := AS.le_drop (AS.le_drop hle2 hn1) hn2
        generalize (s2.drop o1).drop o2 = s3 at *
        rw [show (((saltL 13).map byteV).drop 0).take (13 * 1) = (saltL 13).map byteV from rfl, show ((text22.map byteV).drop 0).take (22 * 1) = text22.map byteV from rfl]
        have hex := extract_hex
        have he := extract_calls (Γ := Γ) hG0 hG (saltL 13) text22 (by decide) (by decide) s3
        have htl := Mac.tag_len (saltL 13) text22
        have hl1 : (saltL 13).length = 13 := rfl
        have hl2 : text22.length = 22 := rfl
        simp only [bytesV, hl1, hl2] at he
        generalize saltL 13 = S1 at *
        generalize text22 = S2 at *
        refine awp_reg_seq ?_
        intro K hK
        simp only [↓DN, UP, implies_true, forall_eq', ne_eq, if_true, if_false, aval, abin, aint, ashift, abool, astr, anil, aun, aconv, aindexAddr, aindex, optInt, aslice, abuiltin, asrc, afill, placeOf, asetAll, undef, aload, apart, AV.cells, AV.one, aeval, updO, upd, initE, gdst, thenQ, blockQ, srcOk, Array.isEmpty, List.isEmpty, bytesV, reduceCtorEq, ↓reduceIte, Nat.reduceLT, Nat.reduceLeDiff, Nat.reduceEqDiff, Nat.reduceAdd, Nat.reduceMul, Nat.reducePow, Nat.reduceSub, Int.reduceLT, Int.reduceLE, Int.reduceToNat, RKdf330, Tryd.ntmps30]
        refine acallk (ACalls.weaks (AVs.weak.cons AV.weak_any (AVs.weak.cons AV.weak_any AVs.weak.nil)) he) ?_
        intro r s4 hout
        obtain ⟨t, e, rfl⟩ := outS_own hout (by rw [← List.length_pos_iff, htl]; decide)
        simp only [↓AXq_nil, ↓AXq_cons, pval, List.contains_cons, List.contains_nil, Nat.reduceBEq, Bool.or_false, Bool.or_true, Bool.or_self, Bool.false_eq_true, Bool.false_or, ↓DN, UP, implies_true, forall_eq', ne_eq, if_true, if_false, aval, abin, aint, ashift, abool, astr, anil, aun, aconv, aindexAddr, aindex, optInt, aslice, abuiltin, asrc, afill, placeOf, asetAll, undef, aload, apart, AV.cells, AV.one, aeval, updO, upd, initE, gdst, thenQ, blockQ, srcOk, Array.isEmpty, List.isEmpty, bytesV, reduceCtorEq, ↓reduceIte, Nat.reduceLT, Nat.reduceLeDiff, Nat.reduceEqDiff, Nat.reduceAdd, Nat.reduceMul, Nat.reducePow, Nat.reduceSub, Int.reduceLT, Int.reduceLE, Int.reduceToNat, RKdf330, Tryd.ntmps30]
        refine acallk (hex_calls _ (by rw [htl]; decide) _) ?_
        rintro r s5 ⟨rfl, rfl⟩
        simp only [↓AXq_nil, ↓AXq_cons, pval, List.contains_cons, List.contains_nil, Nat.reduceBEq, Bool.or_false, Bool.or_true, Bool.or_self, Bool.false_eq_true, Bool.false_or, ↓DN, UP, implies_true, forall_eq', ne_eq, if_true, if_false, aval, abin, aint, ashift, abool, astr, anil, aun, aconv, aindexAddr, aindex, optInt, aslice, abuiltin, asrc, afill, placeOf, asetAll, undef, aload, apart, AV.cells, AV.one, aeval, updO, upd, initE, gdst, thenQ, blockQ, srcOk, Array.isEmpty, List.isEmpty, bytesV, reduceCtorEq, ↓reduceIte, Nat.reduceLT, Nat.reduceLeDiff, Nat.reduceEqDiff, Nat.reduceAdd, Nat.reduceMul, Nat.reducePow, Nat.reduceSub, Int.reduceLT, Int.reduceLE, Int.reduceToNat, RKdf330, Tryd.ntmps30, hex]
        refine hK _ _ ?_
        clear hK K
        refine awp_ret ?_
        simp only [retQ, AEnds, aresL, ares, List.toList_toArray, ↓upd_same]; try simp only [↓DN, UP, implies_true, forall_eq', ne_eq, if_true, if_false, aval, abin, aint, ashift, abool, astr, anil, aun, aconv, aindexAddr, aindex, optInt, aslice, abuiltin, asrc, afill, placeOf, asetAll, undef, aload, apart, AV.cells, AV.one, aeval, updO, upd, initE, gdst, thenQ, blockQ, srcOk, Array.isEmpty, List.isEmpty, bytesV, reduceCtorEq, ↓reduceIte, Nat.reduceLT, Nat.reduceLeDiff, Nat.reduceEqDiff, Nat.reduceAdd, Nat.reduceMul, Nat.reducePow, Nat.reduceSub, Int.reduceLT, Int.reduceLE, Int.reduceToNat, RKdf330, Tryd.ntmps30, atuple_nil, atuple_one, atuple_two, atuple_three, atuple_four, atuple_five]
        exact ⟨_, s, AV.weak.refl _, AS.le.trans hle3 hout.1, by simp, rfl⟩
  clear hK
  refine aq_two 0 1 (by kernel_rfl) rfl rfl ?_ ?_
  · simp only [↓DN, UP, implies_true, forall_eq', ne_eq, if_true, if_false, aval, abin, aint, ashift, abool, astr, anil, aun, aconv, aindexAddr, aindex, optInt, aslice, abuiltin, asrc, afill, placeOf, asetAll, undef, aload, apart, AV.cells, AV.one, aeval, updO, upd, initE, gdst, thenQ, blockQ, srcOk, Array.isEmpty, List.isEmpty, bytesV, reduceCtorEq, ↓reduceIte, Nat.reduceLT, Nat.reduceLeDiff, Nat.reduceEqDiff, Nat.reduceAdd, Nat.reduceMul, Nat.reducePow, Nat.reduceSub, Int.reduceLT, Int.reduceLE, Int.reduceToNat, RKdf330, Tryd.ntmps30, T.c5, T.b5, T.z5]
    refine ⟨by decide, by decide, fun o1 ho1 => ?_⟩
    refine aq_two 1 2 (by kernel_rfl) rfl rfl ?_ ?_
    · simp only [↓DN, UP, implies_true, forall_eq', ne_eq, if_true, if_false, aval, abin, aint, ashift, abool, astr, anil, aun, aconv, aindexAddr, aindex, optInt, aslice, abuiltin, asrc, afill, placeOf, asetAll, undef, aload, apart, AV.cells, AV.one, aeval, updO, upd, initE, gdst, thenQ, blockQ, srcOk, Array.isEmpty, List.isEmpty, bytesV, reduceCtorEq, ↓reduceIte, Nat.reduceLT, Nat.reduceLeDiff, Nat.reduceEqDiff, Nat.reduceAdd, Nat.reduceMul, Nat.reducePow, Nat.reduceSub, Int.reduceLT, Int.reduceLE, Int.reduceToNat, RKdf330, Tryd.ntmps30, T.c5, T.b5, T.z5]
      refine ⟨by decide, by decide, fun o2 ho2 => ?_⟩
      have hne : o1 ≠ o2 := fun e => by rw [e] at ho2; simp only [if_true] at ho2; cases ho2
      rw [if_neg (Ne.symm hne)] at ho2
      refine aq_one 2 (by kernel_rfl) rfl ?_
      simp only [↓DN, UP, implies_true, forall_eq', ne_eq, if_true, if_false, aval, abin, aint, ashift, abool, astr, anil, aun, aconv, aindexAddr, aindex, optInt, aslice, abuiltin, asrc, afill, placeOf, asetAll, undef, aload, apart, AV.cells, AV.one, aeval, updO, upd, initE, gdst, thenQ, blockQ, srcOk, Array.isEmpty, List.isEmpty, bytesV, reduceCtorEq, ↓reduceIte, Nat.reduceLT, Nat.reduceLeDiff, Nat.reduceEqDiff, Nat.reduceAdd, Nat.reduceMul, Nat.reducePow, Nat.reduceSub, Int.reduceLT, Int.reduceLE, Int.reduceToNat, RKdf330, Tryd.ntmps30]
      refine aq_one 3 (by kernel_rfl) rfl ?_
      simp only [↓DN, UP, implies_true, forall_eq', ne_eq, if_true, if_false, aval, abin, aint, ashift, abool, astr, anil, aun, aconv, aindexAddr, aindex, optInt, aslice, abuiltin, asrc, afill, placeOf, asetAll, undef, aload, apart, AV.cells, AV.one, aeval, updO, upd, initE, gdst, thenQ, blockQ, srcOk, Array.isEmpty, List.isEmpty, bytesV, reduceCtorEq, ↓reduceIte, Nat.reduceLT, Nat.reduceLeDiff, Nat.reduceEqDiff, Nat.reduceAdd, Nat.reduceMul, Nat.reducePow, Nat.reduceSub, Int.reduceLT, Int.reduceLE, Int.reduceToNat, RKdf330, Tryd.ntmps30]
      refine aq_nil (by kernel_rfl) (hgo o1 o2 _ _ hne ho1 ho2 ?_ (AS.set_objs_same _ _ _) (AS.le_set (AS.le_set (AS.le.refl s) ho1 _) ho2 _) ?_ ?_)
      · rw [AS.set_objs_ne _ hne]; exact AS.set_objs_same _ _ _
      · simp only [upd, Nat.reduceEqDiff, ↓reduceIte]
      · simp only [upd, Nat.reduceEqDiff, ↓reduceIte]
    · simp only [↓DN, UP, implies_true, forall_eq', ne_eq, if_true, if_false, aval, abin, aint, ashift, abool, astr, anil, aun, aconv, aindexAddr, aindex, optInt, aslice, abuiltin, asrc, afill, placeOf, asetAll, undef, aload, apart, AV.cells, AV.one, aeval, updO, upd, initE, gdst, thenQ, blockQ, srcOk, Array.isEmpty, List.isEmpty, bytesV, reduceCtorEq, ↓reduceIte, Nat.reduceLT, Nat.reduceLeDiff, Nat.reduceEqDiff, Nat.reduceAdd, Nat.reduceMul, Nat.reducePow, Nat.reduceSub, Int.reduceLT, Int.reduceLE, Int.reduceToNat, RKdf330, Tryd.ntmps30]
      refine aq_one 1 (by kernel_rfl) rfl ?_
      simp only [↓DN, UP, implies_true, forall_eq', ne_eq, if_true, if_false, aval, abin, aint, ashift, abool, astr, anil, aun, aconv, aindexAddr, aindex, optInt, aslice, abuiltin, asrc, afill, placeOf, asetAll, undef, aload, apart, AV.cells, AV.one, aeval, updO, upd, initE, gdst, thenQ, blockQ, srcOk, Array.isEmpty, List.isEmpty, bytesV, reduceCtorEq, ↓reduceIte, Nat.reduceLT, Nat.reduceLeDiff, Nat.reduceEqDiff, Nat.reduceAdd, Nat.reduceMul, Nat.reducePow, Nat.reduceSub, Int.reduceLT, Int.reduceLE, Int.reduceToNat, RKdf330, Tryd.ntmps30, T.c5, T.b5, T.z5]
      refine ⟨by decide, by decide, fun o2 ho2 => ?_⟩
      have hne : o1 ≠ o2 := fun e => by rw [e] at ho2; simp only [if_true] at ho2; cases ho2
      rw [if_neg (Ne.symm hne)] at ho2
      refine aq_one 3 (by kernel_rfl) rfl ?_
      simp only [↓DN, UP, implies_true, forall_eq', ne_eq, if_true, if_false, aval, abin, aint, ashift, abool, astr, anil, aun, aconv, aindexAddr, aindex, optInt, aslice, abuiltin, asrc, afill, placeOf, asetAll, undef, aload, apart, AV.cells, AV.one, aeval, updO, upd, initE, gdst, thenQ, blockQ, srcOk, Array.isEmpty, List.isEmpty, bytesV, reduceCtorEq, ↓reduceIte, Nat.reduceLT, Nat.reduceLeDiff, Nat.reduceEqDiff, Nat.reduceAdd, Nat.reduceMul, Nat.reducePow, Nat.reduceSub, Int.reduceLT, Int.reduceLE, Int.reduceToNat, RKdf330, Tryd.ntmps30]
      refine aq_nil (by kernel_rfl) (hgo o1 o2 _ _ hne ho1 ho2 ?_ (AS.set_objs_same _ _ _) (AS.le_set (AS.le_set (AS.le.refl s) ho1 _) ho2 _) ?_ ?_)
      · rw [AS.set_objs_ne _ hne]; exact AS.set_objs_same _ _ _
      · simp only [upd, Nat.reduceEqDiff, ↓reduceIte]
      · simp only [upd, Nat.reduceEqDiff, ↓reduceIte]
  · simp only [↓DN, UP, implies_true, forall_eq', ne_eq, if_true, if_false, aval, abin, aint, ashift, abool, astr, anil, aun, aconv, aindexAddr, aindex, optInt, aslice, abuiltin, asrc, afill, placeOf, asetAll, undef, aload, apart, AV.cells, AV.one, aeval, updO, upd, initE, gdst, thenQ, blockQ, srcOk, Array.isEmpty, List.isEmpty, bytesV, reduceCtorEq, ↓reduceIte, Nat.reduceLT, Nat.reduceLeDiff, Nat.reduceEqDiff, Nat.reduceAdd, Nat.reduceMul, Nat.reducePow, Nat.reduceSub, Int.reduceLT, Int.reduceLE, Int.reduceToNat, RKdf330, Tryd.ntmps30, T.c5, T.b5, T.z5]
    refine ⟨by decide, by decide, fun o2 ho2 => ?_⟩
    refine aq_one 0 (by kernel_rfl) rfl ?_
    simp only [↓DN, UP, implies_true, forall_eq', ne_eq, if_true, if_false, aval, abin, aint, ashift, abool, astr, anil, aun, aconv, aindexAddr, aindex, optInt, aslice, abuiltin, asrc, afill, placeOf, asetAll, undef, aload, apart, AV.cells, AV.one, aeval, updO, upd, initE, gdst, thenQ, blockQ, srcOk, Array.isEmpty, List.isEmpty, bytesV, reduceCtorEq, ↓reduceIte, Nat.reduceLT, Nat.reduceLeDiff, Nat.reduceEqDiff, Nat.reduceAdd, Nat.reduceMul, Nat.reducePow, Nat.reduceSub, Int.reduceLT, Int.reduceLE, Int.reduceToNat, RKdf330, Tryd.ntmps30, T.c5, T.b5, T.z5]
    refine ⟨by decide, by decide, fun o1 ho1 => ?_⟩
    have hne : o1 ≠ o2 := fun e => by rw [e] at ho1; simp only [if_true] at ho1; cases ho1
    rw [if_neg hne] at ho1
    refine aq_one 2 (by kernel_rfl) rfl ?_
    simp only [↓DN, UP, implies_true, forall_eq', ne_eq, if_true, if_false, aval, abin, aint, ashift, abool, astr, anil, aun, aconv, aindexAddr, aindex, optInt, aslice, abuiltin, asrc, afill, placeOf, asetAll, undef, aload, apart, AV.cells, AV.one, aeval, updO, upd, initE, gdst, thenQ, blockQ, srcOk, Array.isEmpty, List.isEmpty, bytesV, reduceCtorEq, ↓reduceIte, Nat.reduceLT, Nat.reduceLeDiff, Nat.reduceEqDiff, Nat.reduceAdd, Nat.reduceMul, Nat.reducePow, Nat.reduceSub, Int.reduceLT, Int.reduceLE, Int.reduceToNat, RKdf330, Tryd.ntmps30]
    refine aq_one 3 (by kernel_rfl) rfl ?_
    simp only [↓DN, UP, implies_true, forall_eq', ne_eq, if_true, if_false, aval, abin, aint, ashift, abool, astr, anil, aun, aconv, aindexAddr, aindex, optInt, aslice, abuiltin, asrc, afill, placeOf, asetAll, undef, aload, apart, AV.cells, AV.one, aeval, updO, upd, initE, gdst, thenQ, blockQ, srcOk, Array.isEmpty, List.isEmpty, bytesV, reduceCtorEq, ↓reduceIte, Nat.reduceLT, Nat.reduceLeDiff, Nat.reduceEqDiff, Nat.reduceAdd, Nat.reduceMul, Nat.reducePow, Nat.reduceSub, Int.reduceLT, Int.reduceLE, Int.reduceToNat, RKdf330, Tryd.ntmps30]
    refine aq_nil (by kernel_rfl) (hgo o1 o2 _ _ hne ho1 ho2 (AS.set_objs_same _ _ _) ?_ (AS.le_set (AS.le_set (AS.le.refl s) ho2 _) ho1 _) ?_ ?_)
    · rw [AS.set_objs_ne _ (Ne.symm hne)]; exact AS.set_objs_same _ _ _
    · simp only [upd, Nat.reduceEqDiff, ↓reduceIte]
    · simp only [upd, Nat.reduceEqDiff, ↓reduceIte]

end Go.Proofs.YtpakgjmcaefnmaaDoor


