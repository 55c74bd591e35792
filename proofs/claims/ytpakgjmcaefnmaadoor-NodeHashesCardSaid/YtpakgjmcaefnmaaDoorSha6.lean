/- Contracts of the program's functions, each walked once; the conditions stand in each theorem. -/
import Derived.Test.YtpakgjmcaefnmaaDoorSha5
import Derived.Test.YtpakgjmcaefnmaaDoorAMp6
set_option linter.unusedSimpArgs false
set_option linter.unusedVariables false
set_option autoImplicit false
namespace Go.Proofs.YtpakgjmcaefnmaaDoor
open Go Go.AM Go.Proofs

theorem RSha6124 : type_of% (And.intro (And.intro (And.intro (And.intro @Tryd.underlying3 T.c3) (And.intro T.g3 (And.intro T.b3 T.z3))) (And.intro (And.intro @Tryd.underlying4 T.c4) (And.intro T.g4 (And.intro T.b4 T.z4)))) (And.intro (And.intro (And.intro @Tryd.underlying5 T.c5) (And.intro T.g5 (And.intro T.b5 T.z5))) (And.intro (And.intro @Tryd.underlying22 (And.intro T.c22 T.g22)) (And.intro T.b22 (And.intro T.z22 T.s22))))) :=
  (And.intro (And.intro (And.intro (And.intro @Tryd.underlying3 T.c3) (And.intro T.g3 (And.intro T.b3 T.z3))) (And.intro (And.intro @Tryd.underlying4 T.c4) (And.intro T.g4 (And.intro T.b4 T.z4)))) (And.intro (And.intro (And.intro @Tryd.underlying5 T.c5) (And.intro T.g5 (And.intro T.b5 T.z5))) (And.intro (And.intro @Tryd.underlying22 (And.intro T.c22 T.g22)) (And.intro T.b22 (And.intro T.z22 T.s22)))))

variable {Γ : Nat → List AV}

/-- The blocks of octets. -/
def chunkV (cs : List AV) (i : Nat) : AV := .sl 1 64 (List.drop (64 * i) (List.take (64 * i + 64) cs)) .full

set_option maxHeartbeats 2000000 in
theorem chunk1_iter (cs : List AV) (t e m : Nat) (hl : cs.length = 64 * m) (hm : m ≤ 2 ^ 40) :
    IterA Tryd.prog Γ 124 [.rop [.sl 1 (64 * m) cs (.own t e)], .rop [.v (.int .i64 64)]] ((List.range m).map (chunkV cs)) := by
  intro S l G W lb hdf hlb hs hy
  refine callsIn_of_wp Tryd.func124 rfl trivial ?_
  have hent := Rel.entry (N := 31) (args := [.v (.func (.yield l) #[] #[]), .rop [.sl 1 (64 * m) cs (.own t e)], .rop [.v (.int .i64 64)]]) (vs := .func (.yield l) #[] #[] :: lb) hs (by simp only [VRels]; exact ⟨_, _, rfl, by simp [VRel], by simpa only [VRels] using hlb⟩) (by simp) hdf
  rw [show (#[.func (.yield l) #[] #[]] ++ lb.toArray : Array Value) = (.func (.yield l) #[] #[] :: lb).toArray from by simp, Tryd.ntmps124]
  refine wpIn_seq ?_
  refine wpIn_reg (l := none) (K := fun E1 s1 => E1 0 = .v (.func (.yield l) #[] #[]) ∧ E1 1 = .rop [.sl 1 (64 * m) cs (.own t e)] ∧ E1 2 = .rop [.v (.int .i64 64)] ∧ E1 4 = .v (.int .i64 0) ∧ s1 = S 0) ?_ hent ?_
  · simp only [↓DN, UP, implies_true, forall_eq', ne_eq, if_true, if_false, aval, abin, aint, ashift, abool, astr, anil, aun, aconv, aindexAddr, aindex, optInt, aslice, abuiltin, asrc, afill, placeOf, asetAll, undef, aload, apart, AV.cells, AV.one, aeval, updO, upd, initE, gdst, thenQ, blockQ, srcOk, Array.isEmpty, List.isEmpty, bytesV, reduceCtorEq, ↓reduceIte, Nat.reduceLT, Nat.reduceLeDiff, Nat.reduceEqDiff, Nat.reduceAdd, Nat.reduceMul, Nat.reducePow, Nat.reduceSub, Int.reduceLT, Int.reduceLE, Int.reduceToNat, RSha6124, Tryd.ntmps124]
  · rintro G0 E0 s0 a0 w0 hle0 hr0 ⟨e0, e1, e2, e4, rfl⟩
    refine wpIn_block ?_
    refine wpIn_loop (fun a w => ∃ (i : Nat) (G1 : Gh) (E1 : Env), i ≤ m ∧ G.le G1 ∧ Rel Γ 31 G1 E1 (S i) a w ∧ E1 0 = .v (.func (.yield l) #[] #[]) ∧ E1 1 = .rop [.sl 1 (64 * m) cs (.own t e)] ∧ E1 2 = .rop [.v (.int .i64 64)] ∧ E1 4 = .v (.int .i64 ((64 * i : Nat) : Int)))
      (fun a _ => match a.tmps.getD 4 undef with | .int _ x => 64 * m - x.toNat | _ => 0) ⟨0, G0, E0, Nat.zero_le _, hle0, hr0, e0, e1, e2, e4⟩ ?_
    rintro a w ⟨i, G1, E1, hi, hle, hr, e0, e1, e2, e4⟩
    have hmu : a.tmps.getD 4 undef = .int .i64 ((64 * i : Nat) : Int) := by
      have := hr.tmps 4
      rw [e4] at this
      simpa only [VRel] using this
    refine wpIn_seq ?_
    by_cases hi' : i < m
    · have hlt : ((64 * i : Nat) : Int) < ((64 * m : Nat) : Int) := by omega
      refine AWp.wide (Q := fun x E' s' => x = .normal ∧ s' = S i ∧ E' 0 = .v (.func (.yield l) #[] #[]) ∧ E' 1 = .rop [.sl 1 (64 * m) cs (.own t e)] ∧ E' 2 = .rop [.v (.int .i64 64)] ∧ E' 4 = .v (.int .i64 ((64 * i : Nat) : Int))) ?_ hr ?_
      · refine awp_reg_seq ?_
        intro K hK
        simp only [↓DN, UP, implies_true, forall_eq', ne_eq, if_true, if_false, aval, abin, aint, ashift, abool, astr, anil, aun, aconv, aindexAddr, aindex, optInt, aslice, abuiltin, asrc, afill, placeOf, asetAll, undef, aload, apart, AV.cells, AV.one, aeval, updO, upd, initE, gdst, thenQ, blockQ, srcOk, Array.isEmpty, List.isEmpty, bytesV, reduceCtorEq, ↓reduceIte, Nat.reduceLT, Nat.reduceLeDiff, Nat.reduceEqDiff, Nat.reduceAdd, Nat.reduceMul, Nat.reducePow, Nat.reduceSub, Int.reduceLT, Int.reduceLE, Int.reduceToNat, RSha6124, Tryd.ntmps124, e1, e4, decide_eq_true hlt]
        refine hK _ _ ?_
        clear hK K
        refine awp_cond_k ?_
        intro X Y hX hY
        simp only [↓DN, UP, implies_true, forall_eq', ne_eq, if_true, if_false, aval, abin, aint, ashift, abool, astr, anil, aun, aconv, aindexAddr, aindex, optInt, aslice, abuiltin, asrc, afill, placeOf, asetAll, undef, aload, apart, AV.cells, AV.one, aeval, updO, upd, initE, gdst, thenQ, blockQ, srcOk, Array.isEmpty, List.isEmpty, bytesV, reduceCtorEq, ↓reduceIte, Nat.reduceLT, Nat.reduceLeDiff, Nat.reduceEqDiff, Nat.reduceAdd, Nat.reduceMul, Nat.reducePow, Nat.reduceSub, Int.reduceLT, Int.reduceLE, Int.reduceToNat, RSha6124, Tryd.ntmps124, Bool.not_true, Bool.not_false, Bool.false_eq_true, Bool.true_eq_false, false_imp_iff, true_imp_iff, decide_eq_true_eq, decide_eq_false_iff_not]
        refine hX ?_
        clear hX hY X Y
        refine awp_skip ?_
        simp only [upd, e0, e1, e2, e4, Nat.reduceEqDiff, ↓reduceIte, and_self]
      · rintro x G2 E2 s2 a2 w2 hle2 hr2 ⟨rfl, rfl, f0, f1, f2, f4⟩
        refine wpIn_seq (wpIn_block (wpIn_seq ?_))
        have h0 : (0 : Int) ≤ ((64 * i : Nat) : Int) := by omega
        have hle3 : ((64 * i : Nat) : Int) ≤ ((64 * m : Nat) : Int) := by omega
        refine AWp.wide (Q := fun x E' s' => x = .normal ∧ s' = S i ∧ E' 0 = .v (.func (.yield l) #[] #[]) ∧ E' 1 = .rop [.sl 1 (64 * m) cs (.own t e)] ∧ E' 2 = .rop [.v (.int .i64 64)] ∧ E' 4 = .v (.int .i64 ((64 * i : Nat) : Int)) ∧ E' 5 = .v (.int .i64 64)) ?_ hr2 ?_
        · have hmin : ¬ (((64 * m - 64 * i : Nat) : Int) < 64) := by omega
          refine awp_drw_end T.mixed [] (by kernel_rfl) ?_
          intro K hK
          simp only [↓AXq_nil, ↓AXq_cons, pval, List.contains_cons, List.contains_nil, Nat.reduceBEq, Bool.or_false, Bool.or_true, Bool.or_self, Bool.false_eq_true, Bool.false_or, ↓DN, UP, implies_true, forall_eq', ne_eq, if_true, if_false, aval, abin, aint, ashift, abool, astr, anil, aun, aconv, aindexAddr, aindex, optInt, aslice, abuiltin, asrc, afill, placeOf, asetAll, undef, aload, apart, AV.cells, AV.one, aeval, updO, upd, initE, gdst, thenQ, blockQ, srcOk, Array.isEmpty, List.isEmpty, bytesV, reduceCtorEq, ↓reduceIte, Nat.reduceLT, Nat.reduceLeDiff, Nat.reduceEqDiff, Nat.reduceAdd, Nat.reduceMul, Nat.reducePow, Nat.reduceSub, Int.reduceLT, Int.reduceLE, Int.reduceToNat, RSha6124, Tryd.ntmps124, f1, f2, f4, h0, hle3, Int.le_refl, hmin]
          refine hK _ _ ?_
          clear hK K
          simp only [upd, f0, f1, f2, f4, Nat.reduceEqDiff, ↓reduceIte, and_self]
        · rintro x G3 E3 s3 a3 w3 hle3' hr3 ⟨rfl, rfl, g0, g1, g2, g4, g5⟩
          refine wpIn_seq ?_
          have hadd : iadd .i64 ((64 * i : Nat) : Int) 64 = ((64 * i + 64 : Nat) : Int) := i64_add (64 * i) 64 (by omega)
          have hlo : ((64 * i : Nat) : Int) ≤ ((64 * i + 64 : Nat) : Int) := by omega
          have hhi : ((64 * i + 64 : Nat) : Int) ≤ ((64 * m : Nat) : Int) := by omega
          refine wpIn_reg_yield12 (l := l)
            (K1 := fun E' s' => s' = S i ∧ E' 0 = .v (.func (.yield l) #[] #[]) ∧ E' 1 = .rop [.sl 1 (64 * m) cs (.own t e)] ∧ E' 2 = .rop [.v (.int .i64 64)] ∧ E' 4 = .v (.int .i64 ((64 * i : Nat) : Int)) ∧ E' 28 = chunkV cs i)
            (K2 := fun E' s' => s' = S (i + 1) ∧ E' 0 = .v (.func (.yield l) #[] #[]) ∧ E' 1 = .rop [.sl 1 (64 * m) cs (.own t e)] ∧ E' 2 = .rop [.v (.int .i64 64)] ∧ E' 4 = .v (.int .i64 ((64 * i : Nat) : Int)) ∧ E' 30 = .v (.bool false))
            rfl rfl (by decide) ?_ hr3 ?_ ?_
          · intro ops
            simp only [↓DN, UP, implies_true, forall_eq', ne_eq, if_true, if_false, aval, abin, aint, ashift, abool, astr, anil, aun, aconv, aindexAddr, aindex, optInt, aslice, abuiltin, asrc, afill, placeOf, asetAll, undef, aload, apart, AV.cells, AV.one, aeval, updO, upd, initE, gdst, thenQ, blockQ, srcOk, Array.isEmpty, List.isEmpty, bytesV, reduceCtorEq, ↓reduceIte, Nat.reduceLT, Nat.reduceLeDiff, Nat.reduceEqDiff, Nat.reduceAdd, Nat.reduceMul, Nat.reducePow, Nat.reduceSub, Int.reduceLT, Int.reduceLE, Int.reduceToNat, RSha6124, Tryd.ntmps124, g0, g1, g2, g4, g5, hadd, h0, hlo, hhi]
            rw [chunkV, show 64 * i + 64 - 64 * i = 64 by omega]
          · rintro ops G4 E4 s4 a4 w4 hle4 hr4 ⟨rfl, k0, k1, k2, k4, k28⟩
            have hu := hr4.tmps 28
            rw [k28] at hu
            obtain ⟨fn, tmps, assign, body, q1, q2⟩ := hy i (chunkV cs i) G4 (a4.tmps.getD 28 undef) w4 (by simp [hi']) (hle.trans (hle2.trans (hle3'.trans hle4))) hr4.st hu
            refine ⟨fn, tmps, assign, body, q1, RoundIn.mono (F := Fence.wide) q2 ?_⟩
            rintro e' W' ⟨rfl, G5, b1, b2⟩
            refine ⟨rfl, G5, S (i + 1), b1, b2, ?_⟩
            simp only [↓DN, UP, implies_true, forall_eq', ne_eq, if_true, if_false, aval, abin, aint, ashift, abool, astr, anil, aun, aconv, aindexAddr, aindex, optInt, aslice, abuiltin, asrc, afill, placeOf, asetAll, undef, aload, apart, AV.cells, AV.one, aeval, updO, upd, initE, gdst, thenQ, blockQ, srcOk, Array.isEmpty, List.isEmpty, bytesV, reduceCtorEq, ↓reduceIte, Nat.reduceLT, Nat.reduceLeDiff, Nat.reduceEqDiff, Nat.reduceAdd, Nat.reduceMul, Nat.reducePow, Nat.reduceSub, Int.reduceLT, Int.reduceLE, Int.reduceToNat, RSha6124, Tryd.ntmps124]
            simp only [upd, k0, k1, k2, k4, Nat.reduceEqDiff, ↓reduceIte, and_self]
          · rintro G4 E4 s4 a4 w4 hle4 hr4 ⟨rfl, k0, k1, k2, k4, k30⟩
            show Code.wpIn Fence.wide 0 _ (Code.cond _ _ _) _ a4 w4
            refine AWp.wide (Q := fun x E' s' => x = .normal ∧ s' = S (i + 1) ∧ E' 0 = .v (.func (.yield l) #[] #[]) ∧ E' 1 = .rop [.sl 1 (64 * m) cs (.own t e)] ∧ E' 2 = .rop [.v (.int .i64 64)] ∧ E' 4 = .v (.int .i64 ((64 * i : Nat) : Int))) ?_ hr4 ?_
            · refine awp_cond_false k30 (awp_skip ?_)
              simp only [k0, k1, k2, k4, and_self]
            · rintro x G5 E5 s5 a5 w5 hle5 hr5 ⟨rfl, rfl, q0, q1, q2, q4⟩
              show Code.wpIn Fence.wide 0 _ (Code.region _ _ _) _ a5 w5
              refine wpIn_reg (l := none) (K := fun E' s' => s' = S (i + 1) ∧ E' 0 = .v (.func (.yield l) #[] #[]) ∧ E' 1 = .rop [.sl 1 (64 * m) cs (.own t e)] ∧ E' 2 = .rop [.v (.int .i64 64)] ∧ E' 4 = .v (.int .i64 ((64 * (i + 1) : Nat) : Int))) ?_ hr5 ?_
              · simp only [↓DN, UP, implies_true, forall_eq', ne_eq, if_true, if_false, aval, abin, aint, ashift, abool, astr, anil, aun, aconv, aindexAddr, aindex, optInt, aslice, abuiltin, asrc, afill, placeOf, asetAll, undef, aload, apart, AV.cells, AV.one, aeval, updO, upd, initE, gdst, thenQ, blockQ, srcOk, Array.isEmpty, List.isEmpty, bytesV, reduceCtorEq, ↓reduceIte, Nat.reduceLT, Nat.reduceLeDiff, Nat.reduceEqDiff, Nat.reduceAdd, Nat.reduceMul, Nat.reducePow, Nat.reduceSub, Int.reduceLT, Int.reduceLE, Int.reduceToNat, RSha6124, Tryd.ntmps124, q0, q1, q2, q4, hadd]
                rfl
              · rintro G6 E6 s6 a6 w6 hle6 hr6 ⟨rfl, p0, p1, p2, p4⟩
                refine ⟨⟨i + 1, G6, E6, hi', hle.trans (hle2.trans (hle3'.trans (hle4.trans (hle5.trans hle6)))), hr6, p0, p1, p2, p4⟩, ?_⟩
                have := hr6.tmps 4
                rw [p4] at this
                simp only [VRel] at this
                rw [this, hmu]
                simp only [Int.toNat_natCast]
                omega
    · obtain rfl : i = m := by omega
      have hlt : ¬ ((64 * i : Nat) : Int) < ((64 * i : Nat) : Int) := by omega
      refine AWp.wide (Q := fun x E' s' => x = .exit 0 ∧ s' = S i) ?_ hr ?_
      · refine awp_reg_seq ?_
        intro K hK
        simp only [↓DN, UP, implies_true, forall_eq', ne_eq, if_true, if_false, aval, abin, aint, ashift, abool, astr, anil, aun, aconv, aindexAddr, aindex, optInt, aslice, abuiltin, asrc, afill, placeOf, asetAll, undef, aload, apart, AV.cells, AV.one, aeval, updO, upd, initE, gdst, thenQ, blockQ, srcOk, Array.isEmpty, List.isEmpty, bytesV, reduceCtorEq, ↓reduceIte, Nat.reduceLT, Nat.reduceLeDiff, Nat.reduceEqDiff, Nat.reduceAdd, Nat.reduceMul, Nat.reducePow, Nat.reduceSub, Int.reduceLT, Int.reduceLE, Int.reduceToNat, RSha6124, Tryd.ntmps124, e1, e4, decide_eq_false hlt]
        refine hK _ _ ?_
        clear hK K
        refine awp_cond_k ?_
        intro X Y hX hY
        simp only [↓DN, UP, implies_true, forall_eq', ne_eq, if_true, if_false, aval, abin, aint, ashift, abool, astr, anil, aun, aconv, aindexAddr, aindex, optInt, aslice, abuiltin, asrc, afill, placeOf, asetAll, undef, aload, apart, AV.cells, AV.one, aeval, updO, upd, initE, gdst, thenQ, blockQ, srcOk, Array.isEmpty, List.isEmpty, bytesV, reduceCtorEq, ↓reduceIte, Nat.reduceLT, Nat.reduceLeDiff, Nat.reduceEqDiff, Nat.reduceAdd, Nat.reduceMul, Nat.reducePow, Nat.reduceSub, Int.reduceLT, Int.reduceLE, Int.reduceToNat, RSha6124, Tryd.ntmps124, Bool.not_true, Bool.not_false, Bool.false_eq_true, Bool.true_eq_false, false_imp_iff, true_imp_iff, decide_eq_true_eq, decide_eq_false_iff_not]
        refine hY ?_
        clear hX hY X Y
        refine awp_exit ?_
        exact ⟨rfl, rfl⟩
      · rintro x G2 E2 s2 a2 w2 hle2 hr2 ⟨rfl, rfl⟩
        refine ⟨hr2.defers.trans (hle2.df.trans (hle.df.trans hdf)), .tuple #[], ?_, ⟨_, rfl⟩, G2, hle.trans hle2, by simpa using hr2.st⟩
        rw [results_eq, Tryd.results124]
        simp

end Go.Proofs.YtpakgjmcaefnmaaDoor


