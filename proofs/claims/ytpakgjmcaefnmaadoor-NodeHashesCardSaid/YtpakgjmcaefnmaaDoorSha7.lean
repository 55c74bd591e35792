/- Contracts of the program's functions, each walked once; the conditions stand in each theorem. -/
import Derived.Test.YtpakgjmcaefnmaaDoorSha6
import Derived.Test.YtpakgjmcaefnmaaDoorAMp6
set_option linter.unusedSimpArgs false
set_option linter.unusedVariables false
set_option autoImplicit false
namespace Go.Proofs.YtpakgjmcaefnmaaDoor
open Go Go.AM Go.Proofs

theorem RSha781 : type_of% (And.intro (And.intro (And.intro (And.intro @Tryd.underlying3 T.c3) (And.intro T.g3 (And.intro T.b3 T.z3))) (And.intro (And.intro @Tryd.underlying5 T.c5) (And.intro T.g5 (And.intro T.b5 T.z5)))) (And.intro (And.intro (And.intro @Tryd.underlying9 T.c9) (And.intro T.g9 (And.intro T.b9 T.z9))) (And.intro (And.intro @Tryd.underlying22 (And.intro T.c22 T.g22)) (And.intro T.b22 (And.intro T.z22 T.s22))))) :=
  (And.intro (And.intro (And.intro (And.intro @Tryd.underlying3 T.c3) (And.intro T.g3 (And.intro T.b3 T.z3))) (And.intro (And.intro @Tryd.underlying5 T.c5) (And.intro T.g5 (And.intro T.b5 T.z5)))) (And.intro (And.intro (And.intro @Tryd.underlying9 T.c9) (And.intro T.g9 (And.intro T.b9 T.z9))) (And.intro (And.intro @Tryd.underlying22 (And.intro T.c22 T.g22)) (And.intro T.b22 (And.intro T.z22 T.s22)))))
theorem RSha723 : type_of% (And.intro (And.intro (And.intro (And.intro (And.intro @Tryd.underlying3 T.c3) (And.intro T.g3 T.b3)) (And.intro (And.intro T.z3 @Tryd.underlying5) (And.intro T.c5 (And.intro T.g5 T.b5)))) (And.intro (And.intro (And.intro T.z5 @Tryd.underlying22) (And.intro T.c22 T.g22)) (And.intro (And.intro T.b22 T.z22) (And.intro T.s22 (And.intro @Tryd.underlying98 T.c98))))) (And.intro (And.intro (And.intro (And.intro T.g98 T.b98) (And.intro T.z98 T.s98)) (And.intro (And.intro @Tryd.underlying99 T.c99) (And.intro T.g99 (And.intro T.b99 T.z99)))) (And.intro (And.intro (And.intro @Tryd.underlying100 T.c100) (And.intro T.g100 T.b100)) (And.intro (And.intro T.z100 T.k81) (And.intro T.k83 (And.intro T.k82 T.k84)))))) :=
  (And.intro (And.intro (And.intro (And.intro (And.intro @Tryd.underlying3 T.c3) (And.intro T.g3 T.b3)) (And.intro (And.intro T.z3 @Tryd.underlying5) (And.intro T.c5 (And.intro T.g5 T.b5)))) (And.intro (And.intro (And.intro T.z5 @Tryd.underlying22) (And.intro T.c22 T.g22)) (And.intro (And.intro T.b22 T.z22) (And.intro T.s22 (And.intro @Tryd.underlying98 T.c98))))) (And.intro (And.intro (And.intro (And.intro T.g98 T.b98) (And.intro T.z98 T.s98)) (And.intro (And.intro @Tryd.underlying99 T.c99) (And.intro T.g99 (And.intro T.b99 T.z99)))) (And.intro (And.intro (And.intro @Tryd.underlying100 T.c100) (And.intro T.g100 T.b100)) (And.intro (And.intro T.z100 T.k81) (And.intro T.k83 (And.intro T.k82 T.k84))))))

variable {Γ : Nat → List AV}

set_option maxHeartbeats 2000000 in
theorem chunk_calls (cs : List AV) (n t e : Nat) (s : AS) :
    ACalls Tryd.prog Γ 81 [.sl 1 n cs (.own t e), .v (.int .i64 64)] s (fun r s' => r = .clo 124 [.rop [.sl 1 n cs (.own t e)], .rop [.v (.int .i64 64)]] ∧ s' = s) := by
  refine acalls_body Tryd.func81 rfl Tryd.ntmps81 Tryd.results81 (by simp) ?_
  refine awp_reg_frz2 2 3 (by decide) (by decide) (by decide) ?_
  intro K hK
  simp only [↓AXq_nil, ↓AXq_cons, pval, List.contains_cons, List.contains_nil, Nat.reduceBEq, Bool.or_false, Bool.or_true, Bool.or_self, Bool.false_eq_true, Bool.false_or, ↓DN, UP, implies_true, forall_eq', ne_eq, if_true, if_false, aval, abin, aint, ashift, abool, astr, anil, aun, aconv, aindexAddr, aindex, optInt, aslice, abuiltin, asrc, afill, placeOf, asetAll, undef, aload, apart, AV.cells, AV.one, aeval, updO, upd, initE, gdst, thenQ, blockQ, srcOk, Array.isEmpty, List.isEmpty, bytesV, reduceCtorEq, ↓reduceIte, Nat.reduceLT, Nat.reduceLeDiff, Nat.reduceEqDiff, Nat.reduceAdd, Nat.reduceMul, Nat.reducePow, Nat.reduceSub, Int.reduceLT, Int.reduceLE, Int.reduceToNat, RSha781, Tryd.ntmps81]
  intro o1 h1 o2 h2
  refine hK _ _ o1 o2 _ _ (by simp only [upd, Nat.reduceEqDiff, ↓reduceIte]) (by simp only [upd, Nat.reduceEqDiff, ↓reduceIte]) h1 (by rw [AS.set_objs_eq]; exact h2) ?_
  clear hK K
  refine awp_seq_k ?_
  intro K hK
  refine awp_reg_seq ?_
  intro K hK
  simp only [↓DN, UP, implies_true, forall_eq', ne_eq, if_true, if_false, aval, abin, aint, ashift, abool, astr, anil, aun, aconv, aindexAddr, aindex, optInt, aslice, abuiltin, asrc, afill, placeOf, asetAll, undef, aload, apart, AV.cells, AV.one, aeval, updO, upd, initE, gdst, thenQ, blockQ, srcOk, Array.isEmpty, List.isEmpty, bytesV, reduceCtorEq, ↓reduceIte, Nat.reduceLT, Nat.reduceLeDiff, Nat.reduceEqDiff, Nat.reduceAdd, Nat.reduceMul, Nat.reducePow, Nat.reduceSub, Int.reduceLT, Int.reduceLE, Int.reduceToNat, RSha781, Tryd.ntmps81]
  refine hK _ _ ?_
  clear hK K
  refine awp_cond_k ?_
  intro X Y hX hY
  simp only [↓DN, UP, implies_true, forall_eq', ne_eq, if_true, if_false, aval, abin, aint, ashift, abool, astr, anil, aun, aconv, aindexAddr, aindex, optInt, aslice, abuiltin, asrc, afill, placeOf, asetAll, undef, aload, apart, AV.cells, AV.one, aeval, updO, upd, initE, gdst, thenQ, blockQ, srcOk, Array.isEmpty, List.isEmpty, bytesV, reduceCtorEq, ↓reduceIte, Nat.reduceLT, Nat.reduceLeDiff, Nat.reduceEqDiff, Nat.reduceAdd, Nat.reduceMul, Nat.reducePow, Nat.reduceSub, Int.reduceLT, Int.reduceLE, Int.reduceToNat, RSha781, Tryd.ntmps81, Bool.not_true, Bool.not_false, Bool.false_eq_true, Bool.true_eq_false, false_imp_iff, true_imp_iff, decide_eq_true_eq, decide_eq_false_iff_not]
  refine hY ?_
  clear hX hY X Y
  refine awp_skip ?_
  refine hK _ _ ?_
  clear hK K
  refine awp_reg_seq ?_
  intro K hK
  simp only [↓DN, UP, implies_true, forall_eq', ne_eq, if_true, if_false, aval, abin, aint, ashift, abool, astr, anil, aun, aconv, aindexAddr, aindex, optInt, aslice, abuiltin, asrc, afill, placeOf, asetAll, undef, aload, apart, AV.cells, AV.one, aeval, updO, upd, initE, gdst, thenQ, blockQ, srcOk, Array.isEmpty, List.isEmpty, bytesV, reduceCtorEq, ↓reduceIte, Nat.reduceLT, Nat.reduceLeDiff, Nat.reduceEqDiff, Nat.reduceAdd, Nat.reduceMul, Nat.reducePow, Nat.reduceSub, Int.reduceLT, Int.reduceLE, Int.reduceToNat, RSha781, Tryd.ntmps81]
  refine hK _ _ ?_
  clear hK K
  refine awp_ret ?_
  simp only [retQ, AEnds, aresL, ares, List.toList_toArray, ↓upd_same]; try simp only [↓DN, UP, implies_true, forall_eq', ne_eq, if_true, if_false, aval, abin, aint, ashift, abool, astr, anil, aun, aconv, aindexAddr, aindex, optInt, aslice, abuiltin, asrc, afill, placeOf, asetAll, undef, aload, apart, AV.cells, AV.one, aeval, updO, upd, initE, gdst, thenQ, blockQ, srcOk, Array.isEmpty, List.isEmpty, bytesV, reduceCtorEq, ↓reduceIte, Nat.reduceLT, Nat.reduceLeDiff, Nat.reduceEqDiff, Nat.reduceAdd, Nat.reduceMul, Nat.reducePow, Nat.reduceSub, Int.reduceLT, Int.reduceLE, Int.reduceToNat, RSha781, Tryd.ntmps81, atuple_nil, atuple_one, atuple_two, atuple_three, atuple_four, atuple_five]
  exact ⟨_, _, AV.weak.refl _, AS.le.refl _, rfl, rfl⟩

theorem chunk_blk (l : List UInt8) (i : Nat) (h : 64 * (i + 1) ≤ l.length) : chunkV (l.map byteV) i = .sl 1 64 ((Sha.blk l i).map byteV) .full ∧ (Sha.blk l i).length = 64 := by
  have e1 : Sha.blk l i = List.drop (64 * i) (List.take (64 * i + 64) l) := by
    rw [Sha.blk, List.drop_take]
    congr 1
    omega
  constructor
  · rw [chunkV, e1]
    simp only [List.map_drop, List.map_take]
  · simp only [Sha.blk, List.length_take, List.length_drop]
    omega

/-- The octets of a state's first words. -/
def outB (t : Sha.St) (i : Nat) : List UInt8 := ((t.list.take i).map Sha.be).flatten
theorem outB_succ (t : Sha.St) (i : Nat) (h : i < 8) : outB t i ++ Sha.be (t.list.getD i 0) = outB t (i + 1) := by
  rcases at8 h with rfl | rfl | rfl | rfl | rfl | rfl | rfl | rfl <;> rfl
theorem rep4 (x : AV) : List.replicate 4 x = [x, x, x, x] := rfl
theorem outB_full (t : Sha.St) : outB t 8 = t.bytes := rfl
theorem outB_len (t : Sha.St) (i : Nat) (h : i ≤ 8) : (outB t i).length = 4 * i := by
  rcases Nat.lt_or_ge i 8 with h' | h'
  · rcases at8 h' with rfl | rfl | rfl | rfl | rfl | rfl | rfl | rfl <;> rfl
  · obtain rfl : i = 8 := by omega
    rfl
theorem stC_get (t : Sha.St) (i : Nat) (h : i < 8) : (stC t)[i]? = some (wV (t.list.getD i 0)) := by
  rcases at8 h with rfl | rfl | rfl | rfl | rfl | rfl | rfl | rfl <;> rfl

set_option maxHeartbeats 4000000 in
theorem sum_calls (hG0 : Γ 0 = stC Sha.H0) (hG : Γ 1 = Sha.K.map wV) (ls : List (List UInt8)) (sp : Sp) (hn : ls.length ≤ 2 ^ 40) (hl : ls.flatten.length ≤ 2 ^ 40) (s : AS) :
    ACalls Tryd.prog Γ 23 [.sl 1 ls.length (PartsB ls) sp] s (fun r s' => OutS s (Sha.sum ls.flatten) r s') := by
  generalize hfl : ls.flatten = l at *
  have hf := Tryd.func23
  refine acalls_of_range hf rfl (by rw [Tryd.ntmps23]; simp) ?_
  rw [Tryd.ntmps23]
  intro G a w hdf hr
  refine wpIn_seq ?_
  refine wpIn_reg (l := none) (K := fun E' s' => s' = s ∧ E' 0 = .sl 1 ls.length (PartsB ls) sp) ?_ hr ?_
  · simp only [↓DN, UP, implies_true, forall_eq', ne_eq, if_true, if_false, aval, abin, aint, ashift, abool, astr, anil, aun, aconv, aindexAddr, aindex, optInt, aslice, abuiltin, asrc, afill, placeOf, asetAll, undef, aload, apart, AV.cells, AV.one, aeval, updO, upd, initE, gdst, thenQ, blockQ, srcOk, Array.isEmpty, List.isEmpty, bytesV, reduceCtorEq, ↓reduceIte, Nat.reduceLT, Nat.reduceLeDiff, Nat.reduceEqDiff, Nat.reduceAdd, Nat.reduceMul, Nat.reducePow, Nat.reduceSub, Int.reduceLT, Int.reduceLE, Int.reduceToNat, RSha723, Tryd.ntmps23]
  · rintro G1 E1 s1 a1 w1 hle1 hr1 ⟨rfl, e0⟩
    refine wpIn_seq ?_
    refine wpIn_reg (l := none) (K := fun E' s' => ∃ o3, s1.objs o3 = none ∧ s' = s1.set o3 (stC Sha.H0) ∧ E' 0 = .sl 1 ls.length (PartsB ls) sp ∧ E' 3 = .ptr o3 0) ?_ hr1 ?_
    · simp only [↓DN, UP, implies_true, forall_eq', ne_eq, if_true, if_false, aval, abin, aint, ashift, abool, astr, anil, aun, aconv, aindexAddr, aindex, optInt, aslice, abuiltin, asrc, afill, placeOf, asetAll, undef, aload, apart, AV.cells, AV.one, aeval, updO, upd, initE, gdst, thenQ, blockQ, srcOk, Array.isEmpty, List.isEmpty, bytesV, reduceCtorEq, ↓reduceIte, Nat.reduceLT, Nat.reduceLeDiff, Nat.reduceEqDiff, Nat.reduceAdd, Nat.reduceMul, Nat.reducePow, Nat.reduceSub, Int.reduceLT, Int.reduceLE, Int.reduceToNat, RSha723, Tryd.ntmps23, hG0]
      intro o ho
      exact ⟨o, ho, rfl, e0, rfl⟩
    · rintro G2 E2 s2 a2 w2 hle2 hr2 ⟨o3, ho3, rfl, f0, f3⟩
      refine wpIn_seq (wpIn_seq ?_)
      have hpl := Sha.pad_length l
      have hpm := Sha.pad_mod l
      obtain ⟨m, hm⟩ : ∃ m, (Sha.pad l).length = 64 * m := ⟨(Sha.pad l).length / 64, by omega⟩
      have hz : Sha.zeros l.length < 64 := by rw [Sha.zeros]; omega
      refine wpIn_reg (l := none) (K := fun E' s' => ∃ t e, (s1.set o3 (stC Sha.H0)).le s' ∧ E' 3 = .ptr o3 0 ∧ E' 12 = .clo 124 [.rop [.sl 1 (64 * m) ((Sha.pad l).map byteV) (.own t e)], .rop [.v (.int .i64 64)]]) ?_ hr2 ?_
      · simp only [↓DN, UP, implies_true, forall_eq', ne_eq, if_true, if_false, aval, abin, aint, ashift, abool, astr, anil, aun, aconv, aindexAddr, aindex, optInt, aslice, abuiltin, asrc, afill, placeOf, asetAll, undef, aload, apart, AV.cells, AV.one, aeval, updO, upd, initE, gdst, thenQ, blockQ, srcOk, Array.isEmpty, List.isEmpty, bytesV, reduceCtorEq, ↓reduceIte, Nat.reduceLT, Nat.reduceLeDiff, Nat.reduceEqDiff, Nat.reduceAdd, Nat.reduceMul, Nat.reducePow, Nat.reduceSub, Int.reduceLT, Int.reduceLE, Int.reduceToNat, RSha723, Tryd.ntmps23, f0]
        refine acallk (concat_calls ls sp (by omega) (by rw [hfl]; omega) _) ?_
        intro r sa hout
        rw [hfl] at hout
        simp only [↓DN, UP, implies_true, forall_eq', ne_eq, if_true, if_false, aval, abin, aint, ashift, abool, astr, anil, aun, aconv, aindexAddr, aindex, optInt, aslice, abuiltin, asrc, afill, placeOf, asetAll, undef, aload, apart, AV.cells, AV.one, aeval, updO, upd, initE, gdst, thenQ, blockQ, srcOk, Array.isEmpty, List.isEmpty, bytesV, reduceCtorEq, ↓reduceIte, Nat.reduceLT, Nat.reduceLeDiff, Nat.reduceEqDiff, Nat.reduceAdd, Nat.reduceMul, Nat.reducePow, Nat.reduceSub, Int.reduceLT, Int.reduceLE, Int.reduceToNat, RSha723, Tryd.ntmps23]
        refine acallk (padded_calls l (by omega) _ _ _ hout) ?_
        intro r sb hout
        obtain ⟨t, e, hr0⟩ := outS_own hout (by rw [← List.length_pos_iff]; omega)
        rw [hr0, hm] at *
        simp only [↓DN, UP, implies_true, forall_eq', ne_eq, if_true, if_false, aval, abin, aint, ashift, abool, astr, anil, aun, aconv, aindexAddr, aindex, optInt, aslice, abuiltin, asrc, afill, placeOf, asetAll, undef, aload, apart, AV.cells, AV.one, aeval, updO, upd, initE, gdst, thenQ, blockQ, srcOk, Array.isEmpty, List.isEmpty, bytesV, reduceCtorEq, ↓reduceIte, Nat.reduceLT, Nat.reduceLeDiff, Nat.reduceEqDiff, Nat.reduceAdd, Nat.reduceMul, Nat.reducePow, Nat.reduceSub, Int.reduceLT, Int.reduceLE, Int.reduceToNat, RSha723, Tryd.ntmps23]
        refine acallk (chunk_calls _ _ t e _) ?_
        rintro r sc ⟨rfl, rfl⟩
        simp only [↓DN, UP, implies_true, forall_eq', ne_eq, if_true, if_false, aval, abin, aint, ashift, abool, astr, anil, aun, aconv, aindexAddr, aindex, optInt, aslice, abuiltin, asrc, afill, placeOf, asetAll, undef, aload, apart, AV.cells, AV.one, aeval, updO, upd, initE, gdst, thenQ, blockQ, srcOk, Array.isEmpty, List.isEmpty, bytesV, reduceCtorEq, ↓reduceIte, Nat.reduceLT, Nat.reduceLeDiff, Nat.reduceEqDiff, Nat.reduceAdd, Nat.reduceMul, Nat.reducePow, Nat.reduceSub, Int.reduceLT, Int.reduceLE, Int.reduceToNat, RSha723, Tryd.ntmps23]
        exact ⟨t, e, hout.1, f3, rfl⟩
      · rintro G3 E3 s3 a3 w3 hle3 hr3 ⟨t, e, hse, g3, g12⟩
        refine wpIn_block ?_
        have hle03 : G.le G3 := hle1.trans (hle2.trans hle3)
        have hdf3 : G3.df = [] := hle03.df.trans hdf
        have hoc : s3.objs o3 = some (stC Sha.H0) := hse.objs _ _ (AS.set_objs_same _ _ _)
        have hm40 : m ≤ 2 ^ 40 := by omega
        refine wpIn_mono (wpIn_range_rel (p := 13) (g := .tmp 12) hr3 hdf3 g12 (by kernel_rfl) (chunk1_iter ((Sha.pad l).map byteV) t e m (by simpa using hm) hm40) (by decide) (fun i => s3.set o3 (stC (Sha.hash (Sha.pad l) i))) (AS.set_self hoc) (fun x => upd (upd E3 13 x) 4 x) ?_ ?_) ?_
        · rintro lp i x G4 a4 W hx hr4
          refine wpIn_reg (l := some lp) (K := fun E' s' => E' = upd (upd E3 13 x) 4 x ∧ s' = s3.set o3 (stC (Sha.hash (Sha.pad l) i))) ?_ hr4 ?_
          · simp only [↓DN, UP, implies_true, forall_eq', ne_eq, if_true, if_false, aval, abin, aint, ashift, abool, astr, anil, aun, aconv, aindexAddr, aindex, optInt, aslice, abuiltin, asrc, afill, placeOf, asetAll, undef, aload, apart, AV.cells, AV.one, aeval, updO, upd, initE, gdst, thenQ, blockQ, srcOk, Array.isEmpty, List.isEmpty, bytesV, reduceCtorEq, ↓reduceIte, Nat.reduceLT, Nat.reduceLeDiff, Nat.reduceEqDiff, Nat.reduceAdd, Nat.reduceMul, Nat.reducePow, Nat.reduceSub, Int.reduceLT, Int.reduceLE, Int.reduceToNat, RSha723, Tryd.ntmps23]
          · rintro G5 E5 s5 a5 w5 hle5 hr5 ⟨rfl, rfl⟩
            exact ⟨rfl, G5, hle5, hr5⟩
        · rintro lp i x G4 a4 W hx hr4
          refine wpIn_block ?_
          have hi : i < m := by
            have := (List.getElem?_eq_some_iff.1 hx).1
            simpa using this
          obtain rfl : chunkV ((Sha.pad l).map byteV) i = x := by simpa [hi] using hx
          obtain ⟨hcv, hcl⟩ := chunk_blk (Sha.pad l) i (by omega)
          refine wpIn_reg (l := some lp) (K := fun E' s' => s' = s3.set o3 (stC (Sha.hash (Sha.pad l) (i + 1)))) ?_ hr4 ?_
          · simp only [↓DN, UP, implies_true, forall_eq', ne_eq, if_true, if_false, aval, abin, aint, ashift, abool, astr, anil, aun, aconv, aindexAddr, aindex, optInt, aslice, abuiltin, asrc, afill, placeOf, asetAll, undef, aload, apart, AV.cells, AV.one, aeval, updO, upd, initE, gdst, thenQ, blockQ, srcOk, Array.isEmpty, List.isEmpty, bytesV, reduceCtorEq, ↓reduceIte, Nat.reduceLT, Nat.reduceLeDiff, Nat.reduceEqDiff, Nat.reduceAdd, Nat.reduceMul, Nat.reducePow, Nat.reduceSub, Int.reduceLT, Int.reduceLE, Int.reduceToNat, RSha723, Tryd.ntmps23, g3]
            rw [hcv]
            have hmx := mix_calls hG (Sha.hash (Sha.pad l) i) (Sha.hash_ok _ i) (Sha.blk (Sha.pad l) i) hcl (s3.set o3 (stC (Sha.hash (Sha.pad l) i)))
            rw [bytesV, hcl] at hmx
            refine acallk (ACalls.weaks (.cons (.refl _) (.cons AV.weak_any .nil)) hmx) ?_
            rintro r sd ⟨rfl, rfl⟩
            simp only [↓DN, UP, implies_true, forall_eq', ne_eq, if_true, if_false, aval, abin, aint, ashift, abool, astr, anil, aun, aconv, aindexAddr, aindex, optInt, aslice, abuiltin, asrc, afill, placeOf, asetAll, undef, aload, apart, AV.cells, AV.one, aeval, updO, upd, initE, gdst, thenQ, blockQ, srcOk, Array.isEmpty, List.isEmpty, bytesV, reduceCtorEq, ↓reduceIte, Nat.reduceLT, Nat.reduceLeDiff, Nat.reduceEqDiff, Nat.reduceAdd, Nat.reduceMul, Nat.reducePow, Nat.reduceSub, Int.reduceLT, Int.reduceLE, Int.reduceToNat, RSha723, Tryd.ntmps23, g3]
            rfl
          · rintro G5 E5 s5 a5 w5 hle5 hr5 rfl
            exact ⟨rfl, G5, hle5, hr5.st⟩
        · rintro x a4 w4 ⟨rfl, D, G4, hle4, hD, hDk, rfl, hs4⟩
          have hxl : ((List.range m).map (chunkV ((Sha.pad l).map byteV))).length = m := by simp
          rw [hxl] at hs4
          obtain ⟨u, hu⟩ : ∃ u, u = Sha.hash (Sha.pad l) m := ⟨_, rfl⟩
          have hbytes : u.bytes = Sha.sum l := by rw [hu, Sha.sum, hm, Nat.mul_div_cancel_left _ (by decide)]
          rw [← hu] at hs4
          have hle1' : s1.le (s3.set o3 (stC u)) := by
            refine AS.le_set (AS.le.trans ?_ hse) ho3 _
            exact AS.le_set (AS.le.refl s1) ho3 _
          have ho4 : (s3.set o3 (stC u)).objs o3 = some (stC u) := AS.set_objs_same _ _ _
          obtain ⟨s4, hs4e⟩ : ∃ s4, s4 = s3.set o3 (stC u) := ⟨_, rfl⟩
          rw [← hs4e] at hs4 hle1' ho4
          show Code.wpIn Fence.wide 0 _ _ _ _ w4
          refine AWp.behind (Q := retQ Tryd.prog Tryd.f23.results.toList (fun r s' => OutS s1 (Sha.sum l) r s')) hr3 hle4 hDk hs4 hdf3 ?_ ?_
          · refine awp_reg_seq ?_
            intro K hK
            simp only [↓DN, UP, implies_true, forall_eq', ne_eq, if_true, if_false, aval, abin, aint, ashift, abool, astr, anil, aun, aconv, aindexAddr, aindex, optInt, aslice, abuiltin, asrc, afill, placeOf, asetAll, undef, aload, apart, AV.cells, AV.one, aeval, updO, upd, initE, gdst, thenQ, blockQ, srcOk, Array.isEmpty, List.isEmpty, bytesV, reduceCtorEq, ↓reduceIte, Nat.reduceLT, Nat.reduceLeDiff, Nat.reduceEqDiff, Nat.reduceAdd, Nat.reduceMul, Nat.reducePow, Nat.reduceSub, Int.reduceLT, Int.reduceLE, Int.reduceToNat, RSha723, Tryd.ntmps23]
            refine hK _ _ ?_
            clear hK K
            refine awp_seq_k ?_
            intro K hK
            refine awp_reg_seq ?_
            intro K hK
            simp only [↓DN, UP, implies_true, forall_eq', ne_eq, if_true, if_false, aval, abin, aint, ashift, abool, astr, anil, aun, aconv, aindexAddr, aindex, optInt, aslice, abuiltin, asrc, afill, placeOf, asetAll, undef, aload, apart, AV.cells, AV.one, aeval, updO, upd, initE, gdst, thenQ, blockQ, srcOk, Array.isEmpty, List.isEmpty, bytesV, reduceCtorEq, ↓reduceIte, Nat.reduceLT, Nat.reduceLeDiff, Nat.reduceEqDiff, Nat.reduceAdd, Nat.reduceMul, Nat.reducePow, Nat.reduceSub, Int.reduceLT, Int.reduceLE, Int.reduceToNat, RSha723, Tryd.ntmps23, g3, ho4]
            refine hK _ _ ?_
            clear hK K
            refine awp_block ?_
            obtain ⟨Z0, hZ0⟩ : ∃ Z0, Z0 = stC u := ⟨_, rfl⟩
            refine awp_loop (fun E s2 => ∃ i : Nat, i ≤ 8 ∧ E 17 = .agg Z0 ∧ E 18 = .v (.int .i64 i) ∧ OutS s1 (outB u i) (E 5) s2)
              (fun E _ => match E 18 with | .v (.int _ i) => 8 - i.toNat | _ => 0) ?_ ?_
            · exact ⟨0, by omega, by simp only [upd, Nat.reduceEqDiff, ↓reduceIte, hZ0], by simp only [upd, ↓reduceIte]; rfl, hle1', .inl ⟨rfl, by simp only [upd, Nat.reduceEqDiff, ↓reduceIte]⟩⟩
            · rintro E5 s5 ⟨i, hi, p17, p18, pout⟩ -
              by_cases hi' : i < 8
              · have hi2 : (i : Int) < 8 := by omega
                have hi0 : (0 : Int) ≤ (i : Int) := by omega
                refine awp_reg_seq ?_
                intro K hK
                simp only [↓DN, UP, implies_true, forall_eq', ne_eq, if_true, if_false, aval, abin, aint, ashift, abool, astr, anil, aun, aconv, aindexAddr, aindex, optInt, aslice, abuiltin, asrc, afill, placeOf, asetAll, undef, aload, apart, AV.cells, AV.one, aeval, updO, upd, initE, gdst, thenQ, blockQ, srcOk, Array.isEmpty, List.isEmpty, bytesV, reduceCtorEq, ↓reduceIte, Nat.reduceLT, Nat.reduceLeDiff, Nat.reduceEqDiff, Nat.reduceAdd, Nat.reduceMul, Nat.reducePow, Nat.reduceSub, Int.reduceLT, Int.reduceLE, Int.reduceToNat, RSha723, Tryd.ntmps23, p18, decide_eq_true hi2]
                refine hK _ _ ?_
                clear hK K
                refine awp_seq_k ?_
                intro K2 hK2
                refine awp_cond_k ?_
                intro X Y hX hY
                simp only [↓DN, UP, implies_true, forall_eq', ne_eq, if_true, if_false, aval, abin, aint, ashift, abool, astr, anil, aun, aconv, aindexAddr, aindex, optInt, aslice, abuiltin, asrc, afill, placeOf, asetAll, undef, aload, apart, AV.cells, AV.one, aeval, updO, upd, initE, gdst, thenQ, blockQ, srcOk, Array.isEmpty, List.isEmpty, bytesV, reduceCtorEq, ↓reduceIte, Nat.reduceLT, Nat.reduceLeDiff, Nat.reduceEqDiff, Nat.reduceAdd, Nat.reduceMul, Nat.reducePow, Nat.reduceSub, Int.reduceLT, Int.reduceLE, Int.reduceToNat, RSha723, Tryd.ntmps23, Bool.not_true, Bool.not_false, Bool.false_eq_true, Bool.true_eq_false, false_imp_iff, true_imp_iff, decide_eq_true_eq, decide_eq_false_iff_not]
                refine hX ?_
                clear hX hY X Y
                refine awp_skip ?_
                refine hK2 _ _ ?_
                clear hK2 K2
                refine awp_seq_k ?_
                intro K3 hK3
                refine awp_block ?_
                have hget := stC_get u i hi'
                rw [← hZ0] at hget
                have hsucc := outB_succ u i hi'
                have hol := outB_len u i hi
                generalize u.list.getD i 0 = x at *
                have s24 : ishr .u32 (x : Int) 24 = ((x / 2 ^ 24 : Nat) : Int) := wshr x 24 (by decide)
                have s16 : ishr .u32 (x : Int) 16 = ((x / 2 ^ 16 : Nat) : Int) := wshr x 16 (by decide)
                have s8 : ishr .u32 (x : Int) 8 = ((x / 2 ^ 8 : Nat) : Int) := wshr x 8 (by decide)
                refine awp_reg_seq ?_
                intro K hK
                simp only [↓DN, UP, implies_true, forall_eq', ne_eq, if_true, if_false, aval, abin, aint, ashift, abool, astr, anil, aun, aconv, aindexAddr, aindex, optInt, aslice, abuiltin, asrc, afill, placeOf, asetAll, undef, aload, apart, AV.cells, AV.one, aeval, updO, upd, initE, gdst, thenQ, blockQ, srcOk, Array.isEmpty, List.isEmpty, bytesV, reduceCtorEq, ↓reduceIte, Nat.reduceLT, Nat.reduceLeDiff, Nat.reduceEqDiff, Nat.reduceAdd, Nat.reduceMul, Nat.reducePow, Nat.reduceSub, Int.reduceLT, Int.reduceLE, Int.reduceToNat, RSha723, Tryd.ntmps23, p17, p18, hi0, hi2, c8, hget]
                refine hK _ _ ?_
                clear hK K
                generalize hr6 : E5 5 = r6 at pout
                refine awp_reg_end ?_
                intro K hK
                simp only [↓DN, UP, implies_true, forall_eq', ne_eq, if_true, if_false, aval, abin, aint, ashift, abool, astr, anil, aun, aconv, aindexAddr, aindex, optInt, aslice, abuiltin, asrc, afill, placeOf, asetAll, undef, aload, apart, AV.cells, AV.one, aeval, updO, upd, initE, gdst, thenQ, blockQ, srcOk, Array.isEmpty, List.isEmpty, bytesV, reduceCtorEq, ↓reduceIte, Nat.reduceLT, Nat.reduceLeDiff, Nat.reduceEqDiff, Nat.reduceAdd, Nat.reduceMul, Nat.reducePow, Nat.reduceSub, Int.reduceLT, Int.reduceLE, Int.reduceToNat, RSha723, Tryd.ntmps23, hr6, s24, s16, s8, rep4]
                refine aappend_out (ds := Sha.be x) pout rfl (by simp only [Sha.be, List.map_cons, List.map_nil, byte_of]) T.c5 T.b5 (by rw [hol]; simp only [Sha.be, List.length_cons, List.length_nil]; omega) ?_
                intro r2 s6 h6
                rw [hsucc] at h6
                refine hK _ _ ?_
                clear hK
                simp only [thenQ, blockQ, if_true, if_false]
                refine hK3 _ _ ?_
                clear hK3 K3
                refine awp_reg_end ?_
                intro K hK
                simp only [↓DN, UP, implies_true, forall_eq', ne_eq, if_true, if_false, aval, abin, aint, ashift, abool, astr, anil, aun, aconv, aindexAddr, aindex, optInt, aslice, abuiltin, asrc, afill, placeOf, asetAll, undef, aload, apart, AV.cells, AV.one, aeval, updO, upd, initE, gdst, thenQ, blockQ, srcOk, Array.isEmpty, List.isEmpty, bytesV, reduceCtorEq, ↓reduceIte, Nat.reduceLT, Nat.reduceLeDiff, Nat.reduceEqDiff, Nat.reduceAdd, Nat.reduceMul, Nat.reducePow, Nat.reduceSub, Int.reduceLT, Int.reduceLE, Int.reduceToNat, RSha723, Tryd.ntmps23, p18, w_succ i (by omega)]
                refine hK _ _ ?_
                clear hK K
                refine ⟨⟨i + 1, by omega, by simp only [upd, p17, Nat.reduceEqDiff, ↓reduceIte], by simp only [upd, ↓reduceIte], by simpa only [upd, Nat.reduceEqDiff, ↓reduceIte] using h6⟩, ?_⟩
                simp only [p18, upd, ↓reduceIte]
                omega
              · have hi2 : ¬ (i : Int) < 8 := by omega
                obtain rfl : i = 8 := by omega
                refine awp_reg_seq ?_
                intro K hK
                simp only [↓DN, UP, implies_true, forall_eq', ne_eq, if_true, if_false, aval, abin, aint, ashift, abool, astr, anil, aun, aconv, aindexAddr, aindex, optInt, aslice, abuiltin, asrc, afill, placeOf, asetAll, undef, aload, apart, AV.cells, AV.one, aeval, updO, upd, initE, gdst, thenQ, blockQ, srcOk, Array.isEmpty, List.isEmpty, bytesV, reduceCtorEq, ↓reduceIte, Nat.reduceLT, Nat.reduceLeDiff, Nat.reduceEqDiff, Nat.reduceAdd, Nat.reduceMul, Nat.reducePow, Nat.reduceSub, Int.reduceLT, Int.reduceLE, Int.reduceToNat, RSha723, Tryd.ntmps23, p18, decide_eq_false hi2]
                refine hK _ _ ?_
                clear hK K
                refine awp_seq_k ?_
                intro K2 hK2
                refine awp_cond_k ?_
                intro X Y hX hY
                simp only [↓DN, UP, implies_true, forall_eq', ne_eq, if_true, if_false, aval, abin, aint, ashift, abool, astr, anil, aun, aconv, aindexAddr, aindex, optInt, aslice, abuiltin, asrc, afill, placeOf, asetAll, undef, aload, apart, AV.cells, AV.one, aeval, updO, upd, initE, gdst, thenQ, blockQ, srcOk, Array.isEmpty, List.isEmpty, bytesV, reduceCtorEq, ↓reduceIte, Nat.reduceLT, Nat.reduceLeDiff, Nat.reduceEqDiff, Nat.reduceAdd, Nat.reduceMul, Nat.reducePow, Nat.reduceSub, Int.reduceLT, Int.reduceLE, Int.reduceToNat, RSha723, Tryd.ntmps23, Bool.not_true, Bool.not_false, Bool.false_eq_true, Bool.true_eq_false, false_imp_iff, true_imp_iff, decide_eq_true_eq, decide_eq_false_iff_not]
                refine hY ?_
                clear hX hY X Y
                refine awp_exit ?_
                simp only [thenQ, blockQ, if_true]
                clear hK2 K2
                refine hK _ _ ?_
                clear hK K
                rw [outB_full, hbytes] at pout
                generalize hr6 : E5 5 = r6 at pout
                refine awp_reg_seq ?_
                intro K hK
                simp only [↓DN, UP, implies_true, forall_eq', ne_eq, if_true, if_false, aval, abin, aint, ashift, abool, astr, anil, aun, aconv, aindexAddr, aindex, optInt, aslice, abuiltin, asrc, afill, placeOf, asetAll, undef, aload, apart, AV.cells, AV.one, aeval, updO, upd, initE, gdst, thenQ, blockQ, srcOk, Array.isEmpty, List.isEmpty, bytesV, reduceCtorEq, ↓reduceIte, Nat.reduceLT, Nat.reduceLeDiff, Nat.reduceEqDiff, Nat.reduceAdd, Nat.reduceMul, Nat.reducePow, Nat.reduceSub, Int.reduceLT, Int.reduceLE, Int.reduceToNat, RSha723, Tryd.ntmps23, hr6]
                refine hK _ _ ?_
                clear hK K
                refine awp_ret ?_
                rw [Tryd.results23]
                simp only [retQ, AEnds, aresL, ares, List.toList_toArray, ↓upd_same]; try simp only [↓DN, UP, implies_true, forall_eq', ne_eq, if_true, if_false, aval, abin, aint, ashift, abool, astr, anil, aun, aconv, aindexAddr, aindex, optInt, aslice, abuiltin, asrc, afill, placeOf, asetAll, undef, aload, apart, AV.cells, AV.one, aeval, updO, upd, initE, gdst, thenQ, blockQ, srcOk, Array.isEmpty, List.isEmpty, bytesV, reduceCtorEq, ↓reduceIte, Nat.reduceLT, Nat.reduceLeDiff, Nat.reduceEqDiff, Nat.reduceAdd, Nat.reduceMul, Nat.reducePow, Nat.reduceSub, Int.reduceLT, Int.reduceLE, Int.reduceToNat, RSha723, Tryd.ntmps23, atuple_nil, atuple_one, atuple_two, atuple_three, atuple_four, atuple_five]
                exact ⟨_, _, AV.weak.refl _, AS.le.refl _, pout⟩
          · intro e5 G5 E5 s5 a5 w5 hle5 hD5 hdf5 hr5 hret
            refine ⟨?_, D, G5, E5, s5, hle03.trans hle5, ?_, hD5, hdf5, hr5, ?_⟩
            · cases e5 <;> simp only [retQ] at hret <;> simp
            · have q1 := hr3.st.below.size
              have q2 := hr3.st.base
              rw [hle03.w0] at q1
              rw [hle03.B] at q2
              exact ⟨Nat.le_trans q1 hD, Nat.le_trans q2 hD⟩
            · cases e5 <;> simp only [retQ] at hret <;> exact hret
end Go.Proofs.YtpakgjmcaefnmaaDoor


