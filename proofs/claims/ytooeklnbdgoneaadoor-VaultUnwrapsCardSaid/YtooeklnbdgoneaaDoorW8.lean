/- Contracts of the program's functions, each walked once; the conditions stand in each theorem. -/
import Derived.Test.YtooeklnbdgoneaaDoorAMp6
import Derived.Test.YtooeklnbdgoneaaDoorW7
set_option linter.unusedSimpArgs false
set_option linter.unusedVariables false
open Nat renaming reduceLT → nLT, reduceLeDiff → nLE, reduceEqDiff → nEQ, reduceAdd → nAdd, reduceMul → nMul, reducePow → nPow, reduceSub → nSub
open Int renaming reduceLT → zLT, reduceLE → zLE, reduceToNat → zNat
set_option autoImplicit false
namespace Go.Proofs.YtooeklnbdgoneaaDoor
open Go Go.AM Go.Proofs

theorem RAes9105 : type_of% (And.intro (And.intro (And.intro (And.intro (And.intro (And.intro @Tryd.underlying3 T.c3) (And.intro T.g3 T.b3)) (And.intro (And.intro T.z3 @Tryd.underlying4) (And.intro T.c4 T.g4))) (And.intro (And.intro (And.intro T.b4 T.z4) (And.intro @Tryd.underlying5 T.c5)) (And.intro (And.intro T.g5 T.b5) (And.intro T.z5 @Tryd.underlying138)))) (And.intro (And.intro (And.intro (And.intro T.c138 T.g138) (And.intro T.b138 T.z138)) (And.intro (And.intro @Tryd.underlying147 T.c147) (And.intro T.g147 T.b147))) (And.intro (And.intro (And.intro @Tryd.underlying149 T.c149) (And.intro T.g149 T.b149)) (And.intro (And.intro T.k121 T.k119) (And.intro T.k120 T.k122))))) Tryd.ntmps105) :=
  (And.intro (And.intro (And.intro (And.intro (And.intro (And.intro @Tryd.underlying3 T.c3) (And.intro T.g3 T.b3)) (And.intro (And.intro T.z3 @Tryd.underlying4) (And.intro T.c4 T.g4))) (And.intro (And.intro (And.intro T.b4 T.z4) (And.intro @Tryd.underlying5 T.c5)) (And.intro (And.intro T.g5 T.b5) (And.intro T.z5 @Tryd.underlying138)))) (And.intro (And.intro (And.intro (And.intro T.c138 T.g138) (And.intro T.b138 T.z138)) (And.intro (And.intro @Tryd.underlying147 T.c147) (And.intro T.g147 T.b147))) (And.intro (And.intro (And.intro @Tryd.underlying149 T.c149) (And.intro T.g149 T.b149)) (And.intro (And.intro T.k121 T.k119) (And.intro T.k120 T.k122))))) Tryd.ntmps105)

variable {Γ : Nat → List AV}

theorem keys_at (key : List UInt8) (hk : key.length = 16) (q : Nat) (hq : q < 11) : List.take 16 (List.drop (q * 16) ((keysL key).map byteV)) = (Aes.kr key q).map byteV := by
  have h := keys_take key hk (fun _ => 0) q 176 hq (by omega)
  rw [fillG_full] at h
  exact h

set_option maxHeartbeats 8000000 in
set_option maxRecDepth 100000 in
theorem aesBlock_calls (key b : List UInt8) (hk : key.length = 16) (hb : b.length = 16) (s : AS) :
    ACalls Tryd.prog Γ 105 [.agg (key.map byteV), .agg (b.map byteV)] s (fun r s' => r = .agg ((Aes.block key b).map byteV) ∧ s' = s) := by
  refine acalls_body Tryd.func105 rfl Tryd.ntmps105 Tryd.results105 (by simp) ?_
  have hkl : (key.map byteV).length = 16 := by rw [List.length_map, hk]
  have hktk : List.take 16 (key.map byteV) = key.map byteV := List.take_of_length_le (by omega)
  have hbl : (b.map byteV).length = 16 := by rw [List.length_map, hb]
  have hbtk : List.take 16 (b.map byteV) = b.map byteV := List.take_of_length_le (by omega)
  have hsl : (Aes.sb.map byteV).length = 256 := by rw [List.length_map, Aes.sb_len]
  have hstk : List.take 256 (Aes.sb.map byteV) = Aes.sb.map byteV := List.take_of_length_le (by omega)
  have hsall := all_bytes Aes.sb
  have hKl : ((keysL key).map byteV).length = 176 := by rw [List.length_map, keysL_len]
  have hKall := all_bytes (keysL key)
  have hKat := keys_at key hk
  have hex := fun s => expandA_calls (Γ := Γ) key hk s
  have hbx := fun s => boxes_calls (Γ := Γ) s
  have had := fun s => aesAdd_calls (Γ := Γ) b (Aes.kr key 0) hb (Aes.kr_len hk 0) s
  rw [show Aes.add b (Aes.kr key 0) = Aes.state key b 0 from rfl] at had
  have hrd := fun q s => aesRound_calls (Γ := Γ) (Aes.state key b q) (Aes.state_len key b q) (q + 1 == 10) s
  have hnx := fun q s => aesAdd_calls (Γ := Γ) (Aes.rnd (Aes.state key b q) (q + 1 == 10)) (Aes.kr key (q + 1)) (Aes.rnd_len _ _) (Aes.kr_len hk (q + 1)) s
  have hst : ∀ q, Aes.add (Aes.rnd (Aes.state key b q) (q + 1 == 10)) (Aes.kr key (q + 1)) = Aes.state key b (q + 1) := fun q => rfl
  simp only [hst] at hnx
  have hk0 : List.take 16 ((keysL key).map byteV) = (Aes.kr key 0).map byteV := by
    have := hKat 0 (by omega)
    rwa [Nat.zero_mul, List.drop_zero] at this
  generalize Aes.sb.map byteV = Y at *
  generalize (keysL key).map byteV = KS at *
  refine awp_reg_seq ?_
  intro K hK
  simp only [↓DN, UP, DF, ashift, aconv, aindexAddr, aindex, aslice, abuiltin, AV.cells, AV.one, reduceCtorEq, ↓reduceIte, nLT, nLE, nEQ, nAdd, nMul, nPow, nSub, zLT, zLE, zNat, RAes9105]
  intro o2 ho2 o3 ho3
  obtain ⟨h32, ho3'⟩ := AS.fresh_set ho3
  intro o4 ho4
  obtain ⟨h43, h42, ho4'⟩ := fresh_two ho4
  rw [z16]
  refine hK _ _ ?_
  clear hK K
  generalize hs0 : ((s.set o2 (key.map byteV)).set o3 (b.map byteV)).set o4 (List.replicate 16 (bV 0)) = s0 at *
  have j2 : s0.objs o2 = some (key.map byteV) := by rw [← hs0, AS.set_objs_ne _ h42.symm, AS.set_objs_ne _ h32.symm, AS.set_objs_same]
  have j3 : s0.objs o3 = some (b.map byteV) := by rw [← hs0, AS.set_objs_ne _ h43.symm, AS.set_objs_same]
  have j4 : s0.objs o4 = some (List.replicate 16 (bV 0)) := by rw [← hs0]; exact AS.set_objs_same _ _ _
  have hle : s.le s0 := by rw [← hs0]; exact AS.le_set (AS.le_set (AS.le_set (AS.le.refl s) ho2 _) ho3' _) ho4' _
  clear hs0 ho3 ho4
  have hzl : (List.replicate 16 (bV 0)).length = 16 := by simp
  generalize List.replicate 16 (bV 0) = Z at *
  refine awp_reg_seq ?_
  intro K hK
  simp only [↓DN, UP, DF, ashift, aconv, aindexAddr, aindex, aslice, abuiltin, AV.cells, AV.one, reduceCtorEq, ↓reduceIte, nLT, nLE, nEQ, nAdd, nMul, nPow, nSub, zLT, zLE, zNat, RAes9105]
  refine acallk (hbx _) ?_
  rintro r s1 ⟨rfl, rfl⟩
  simp only [↓AXq_nil, ↓AXq_cons, pval, DX, Nat.reduceBEq, ↓DN, UP, DF, ashift, aconv, aindexAddr, aindex, aslice, abuiltin, AV.cells, AV.one, reduceCtorEq, ↓reduceIte, nLT, nLE, nEQ, nAdd, nMul, nPow, nSub, zLT, zLE, zNat, RAes9105, z165, hsl, hsall, Nat.le_refl, List.length_replicate]
  intro o5 ho5
  rw [asetAll_whole (List.replicate 256 (bV 0)) Y (by rw [hsl]; simp)]
  refine hK _ _ ?_
  clear hK K
  have n52 : o5 ≠ o2 := fun e => by rw [e, j2] at ho5; cases ho5
  have n53 : o5 ≠ o3 := fun e => by rw [e, j3] at ho5; cases ho5
  have n54 : o5 ≠ o4 := fun e => by rw [e, j4] at ho5; cases ho5
  have hs5 : s.objs o5 = none := by
    cases h : s.objs o5 with
    | none => rfl
    | some cs => rw [hle.objs _ _ h] at ho5; cases ho5
  generalize hs1 : s1.set o5 Y = s2 at *
  have q2 : s2.objs o2 = some (key.map byteV) := by rw [← hs1, AS.set_objs_ne _ n52.symm]; exact j2
  have q3 : s2.objs o3 = some (b.map byteV) := by rw [← hs1, AS.set_objs_ne _ n53.symm]; exact j3
  have q4 : s2.objs o4 = some Z := by rw [← hs1, AS.set_objs_ne _ n54.symm]; exact j4
  have q5 : s2.objs o5 = some Y := by rw [← hs1]; exact AS.set_objs_same _ _ _
  have hle2 : s.le s2 := by rw [← hs1]; exact AS.le_set hle hs5 _
  clear hs1 j2 j3 j4 hle ho5
  refine awp_reg_seq ?_
  intro K hK
  simp only [↓DN, UP, DF, ashift, aconv, aindexAddr, aindex, aslice, abuiltin, AV.cells, AV.one, reduceCtorEq, ↓reduceIte, nLT, nLE, nEQ, nAdd, nMul, nPow, nSub, zLT, zLE, zNat, RAes9105, q2, q5, hkl, hktk, hsl, hstk, Nat.le_refl]
  refine acallk (hex _) ?_
  rintro r s3 ⟨rfl, rfl⟩
  simp only [↓AXq_nil, ↓AXq_cons, pval, DX, Nat.reduceBEq, ↓DN, UP, DF, ashift, aconv, aindexAddr, aindex, aslice, abuiltin, AV.cells, AV.one, reduceCtorEq, ↓reduceIte, nLT, nLE, nEQ, nAdd, nMul, nPow, nSub, zLT, zLE, zNat, RAes9105, z167, hKl, hKall, Nat.le_refl, List.length_replicate]
  intro o6 ho6
  rw [asetAll_whole (List.replicate 176 (bV 0)) KS (by rw [hKl]; simp)]
  refine hK _ _ ?_
  clear hK K
  have n63 : o6 ≠ o3 := fun e => by rw [e, q3] at ho6; cases ho6
  have n64 : o6 ≠ o4 := fun e => by rw [e, q4] at ho6; cases ho6
  have n65 : o6 ≠ o5 := fun e => by rw [e, q5] at ho6; cases ho6
  have hs6 : s.objs o6 = none := by
    cases h : s.objs o6 with
    | none => rfl
    | some cs => rw [hle2.objs _ _ h] at ho6; cases ho6
  generalize hs1 : s3.set o6 KS = s4 at *
  have t3 : s4.objs o3 = some (b.map byteV) := by rw [← hs1, AS.set_objs_ne _ n63.symm]; exact q3
  have t4 : s4.objs o4 = some Z := by rw [← hs1, AS.set_objs_ne _ n64.symm]; exact q4
  have t5 : s4.objs o5 = some Y := by rw [← hs1, AS.set_objs_ne _ n65.symm]; exact q5
  have t6 : s4.objs o6 = some KS := by rw [← hs1]; exact AS.set_objs_same _ _ _
  have hle4 : s.le s4 := by rw [← hs1]; exact AS.le_set hle2 hs6 _
  clear hs1 q2 q3 q4 q5 hle2 ho6
  have hB0 := all_bytes (Aes.state key b 0)
  have hB0l : ((Aes.state key b 0).map byteV).length = 16 := by rw [List.length_map, Aes.state_len]
  refine awp_reg_seq ?_
  intro K hK
  simp only [↓DN, UP, DF, ashift, aconv, aindexAddr, aindex, aslice, abuiltin, AV.cells, AV.one, reduceCtorEq, ↓reduceIte, nLT, nLE, nEQ, nAdd, nMul, nPow, nSub, zLT, zLE, zNat, RAes9105, t3, t6, hbl, hbtk, hKl, hk0, show (0 : Int) < ((11 : Nat) : Int) from by decide]
  refine acallk (had _) ?_
  rintro r s5 ⟨rfl, rfl⟩
  simp only [↓AXq_nil, ↓AXq_cons, pval, DX, Nat.reduceBEq, ↓DN, UP, DF, ashift, aconv, aindexAddr, aindex, aslice, abuiltin, AV.cells, AV.one, reduceCtorEq, ↓reduceIte, nLT, nLE, nEQ, nAdd, nMul, nPow, nSub, zLT, zLE, zNat, RAes9105, hB0, hB0l, Nat.le_refl]
  intro o7 ho7
  rw [z16, asetAll_whole (List.replicate 16 (bV 0)) ((Aes.state key b 0).map byteV) (by rw [hB0l]; simp)]
  refine hK _ _ ?_
  clear hK K
  have n74 : o7 ≠ o4 := fun e => by rw [e, t4] at ho7; cases ho7
  have n75 : o7 ≠ o5 := fun e => by rw [e, t5] at ho7; cases ho7
  have n76 : o7 ≠ o6 := fun e => by rw [e, t6] at ho7; cases ho7
  have hs7 : s.objs o7 = none := by
    cases h : s.objs o7 with
    | none => rfl
    | some cs => rw [hle4.objs _ _ h] at ho7; cases ho7
  generalize hs1 : s5.set o7 ((Aes.state key b 0).map byteV) = s6 at *
  have j4 : s6.objs o4 = some Z := by rw [← hs1, AS.set_objs_ne _ n74.symm]; exact t4
  have j5 : s6.objs o5 = some Y := by rw [← hs1, AS.set_objs_ne _ n75.symm]; exact t5
  have j6 : s6.objs o6 = some KS := by rw [← hs1, AS.set_objs_ne _ n76.symm]; exact t6
  have j7 : s6.objs o7 = some ((Aes.state key b 0).map byteV) := by rw [← hs1]; exact AS.set_objs_same _ _ _
  have hle6 : s.le s6 := by rw [← hs1]; exact AS.le_set hle4 hs7 _
  clear hs1 t3 t4 t5 t6 hle4 ho7 hB0 hB0l
  refine awp_seq_k ?_
  intro K hK
  refine awp_reg_seq ?_
  intro K hK
  simp only [↓DN, UP, DF, ashift, aconv, aindexAddr, aindex, aslice, abuiltin, AV.cells, AV.one, reduceCtorEq, ↓reduceIte, nLT, nLE, nEQ, nAdd, nMul, nPow, nSub, zLT, zLE, zNat, RAes9105]
  refine hK _ _ ?_
  clear hK K
  refine awp_block ?_
  refine awp_loop (fun E s2 => ∃ q : Nat, q ≤ 10 ∧ E 4 = .ptr o4 0 ∧ E 5 = .ptr o5 0 ∧ E 6 = .ptr o6 0 ∧ E 7 = .ptr o7 0 ∧ E 8 = .v (.int .i64 ((q + 1 : Nat) : Int)) ∧ s2.objs o4 = some Z ∧ s2.objs o5 = some Y ∧ s2.objs o6 = some KS ∧ s2.objs o7 = some ((Aes.state key b q).map byteV) ∧ s.le s2)
    (fun E _ => match E 8 with | .v (.int _ i) => 11 - i.toNat | _ => 0) ?_ ?_
  · exact ⟨0, by omega, by simp only [upd, Nat.reduceEqDiff, ↓reduceIte], by simp only [upd, Nat.reduceEqDiff, ↓reduceIte], by simp only [upd, Nat.reduceEqDiff, ↓reduceIte], by simp only [upd, Nat.reduceEqDiff, ↓reduceIte], by simp only [upd, ↓reduceIte]; rfl, j4, j5, j6, j7, hle6⟩
  · clear j4 j5 j6 j7 hle6
    rintro E1 s7 ⟨q, hq, e4, e5, e6, e7, e8, j4, j5, j6, j7, hle⟩ -
    refine awp_seq_k ?_
    intro K2 hK2
    by_cases hq' : q < 10
    · refine awp_reg_seq ?_
      intro K hK
      simp only [↓DN, UP, DF, ashift, aconv, aindexAddr, aindex, aslice, abuiltin, AV.cells, AV.one, reduceCtorEq, ↓reduceIte, nLT, nLE, nEQ, nAdd, nMul, nPow, nSub, zLT, zLE, zNat, RAes9105, e8, decide_eq_true (show ((q + 1 : Nat) : Int) ≤ 10 by omega)]
      refine hK _ _ ?_
      clear hK K
      refine awp_cond_k ?_
      intro X Y hX hY
      simp only [↓DN, UP, DF, ashift, aconv, aindexAddr, aindex, aslice, abuiltin, AV.cells, AV.one, reduceCtorEq, ↓reduceIte, nLT, nLE, nEQ, nAdd, nMul, nPow, nSub, zLT, zLE, zNat, RAes9105, DB]
      refine hX ?_
      clear hX hY X Y
      refine awp_skip ?_
      refine hK2 _ _ ?_
      clear hK2 K2
      refine awp_seq_k ?_
      intro K3 hK3
      refine awp_block ?_
      have heq : (((q + 1 : Nat) : Int) == 10) = (q + 1 == 10) := by
        by_cases h : q + 1 = 10
        · rw [h]; rfl
        · rw [show (q + 1 == 10) = false by simpa using h]
          simp; omega
      have hrdq := hrd q
      have hnxq := hnx q
      have hKq := hKat (q + 1) (by omega)
      have hKd : 16 ≤ (List.drop ((q + 1) * 16) KS).length := by rw [List.length_drop, hKl]; omega
      have hSl : ((Aes.state key b q).map byteV).length = 16 := by rw [List.length_map, Aes.state_len]
      have hStk : List.take 16 ((Aes.state key b q).map byteV) = (Aes.state key b q).map byteV := List.take_of_length_le (by omega)
      have hNl : ((Aes.state key b (q + 1)).map byteV).length = 16 := by rw [List.length_map, Aes.state_len]
      have hNall := all_bytes (Aes.state key b (q + 1))
      generalize hN : (Aes.state key b (q + 1)).map byteV = NB at *
      generalize (Aes.state key b q).map byteV = SB at *
      generalize (Aes.kr key (q + 1)).map byteV = KQ at *
      have m0 : (0 : Int) ≤ ((q + 1 : Nat) : Int) := by omega
      have m1 : ((q + 1 : Nat) : Int) < ((11 : Nat) : Int) := by omega
      refine awp_mrk_end T.mixed [(o7, SB), (o5, Y), (o6, KS)] [4, 8] [0, 1, 7] [9] (by kernel_rfl) (by simp only [Pres_cons, Pres_nil, and_true]; simp [AS.set, upd, j5, j6, j7]) ?_
      intro K hK
      simp only [↓AXr_nil, ↓AXr_cons, gval, lval, fzGet_cons, fzGet_nil, Pres_cons, Pres_nil, List.any_cons, List.any_nil, List.contains_cons, List.contains_nil, Nat.reduceBEq, Bool.or_false, Bool.or_true, Bool.or_self, Bool.false_or, ↓DN, UP, DF, ashift, aconv, aindexAddr, aindex, aslice, abuiltin, AV.cells, AV.one, reduceCtorEq, ↓reduceIte, nLT, nLE, nEQ, nAdd, nMul, nPow, nSub, zLT, zLE, zNat, RAes9105, e5, e6, e7, e8, heq, j5, j6, j7, m0, m1, hsl, hstk, hKl, hKq, hKd, hSl, hStk, n75, n75.symm, n76, n76.symm, n65, n65.symm, Nat.le_refl]
      refine acallk (hrdq _) ?_
      rintro r sa ⟨rfl, rfl⟩
      simp only [↓AXq_nil, ↓AXq_cons, pval, ↓AXr_nil, ↓AXr_cons, gval, lval, fzGet_cons, fzGet_nil, Pres_cons, Pres_nil, List.any_cons, List.any_nil, DX, Nat.reduceBEq, ↓DN, UP, DF, ashift, aconv, aindexAddr, aindex, aslice, abuiltin, AV.cells, AV.one, reduceCtorEq, ↓reduceIte, nLT, nLE, nEQ, nAdd, nMul, nPow, nSub, zLT, zLE, zNat, RAes9105, e5, e6, e7, e8, heq, j5, j6, j7, m0, m1, hsl, hstk, hKl, hKq, hKd, hSl, hStk, n75, n75.symm, n76, n76.symm, n65, n65.symm, Nat.le_refl]
      refine acallk (hnxq _) ?_
      rintro r sb ⟨rfl, rfl⟩
      simp only [↓AXq_nil, ↓AXq_cons, pval, ↓AXr_nil, ↓AXr_cons, gval, lval, fzGet_cons, fzGet_nil, Pres_cons, Pres_nil, List.any_cons, List.any_nil, DX, Nat.reduceBEq, ↓DN, UP, DF, ashift, aconv, aindexAddr, aindex, aslice, abuiltin, AV.cells, AV.one, reduceCtorEq, ↓reduceIte, nLT, nLE, nEQ, nAdd, nMul, nPow, nSub, zLT, zLE, zNat, RAes9105, e7, j7, hSl, hNl, hNall, Nat.le_refl]
      refine ⟨⟨j5, j6⟩, ?_⟩
      rw [asetAll_whole SB NB (by omega)]
      refine hK _ _ ?_
      clear hK K
      simp only [blockQ, thenQ, if_true, if_false]
      refine hK3 _ _ ?_
      clear hK3 K3
      refine awp_reg_end ?_
      intro K hK
      simp only [↓DN, UP, DF, ashift, aconv, aindexAddr, aindex, aslice, abuiltin, AV.cells, AV.one, reduceCtorEq, ↓reduceIte, nLT, nLE, nEQ, nAdd, nMul, nPow, nSub, zLT, zLE, zNat, RAes9105, e8, w_succ (q + 1) (by omega)]
      refine hK _ _ ?_
      clear hK K
      refine ⟨⟨q + 1, by omega, by simp only [upd, e4, Nat.reduceEqDiff, ↓reduceIte], by simp only [upd, e5, Nat.reduceEqDiff, ↓reduceIte], by simp only [upd, e6, Nat.reduceEqDiff, ↓reduceIte], by simp only [upd, e7, Nat.reduceEqDiff, ↓reduceIte], by simp only [upd, ↓reduceIte], by rw [AS.set_objs_ne _ n74.symm]; exact j4, by rw [AS.set_objs_ne _ n75.symm]; exact j5, by rw [AS.set_objs_ne _ n76.symm]; exact j6, by rw [hN]; exact AS.set_objs_same _ _ _, AS.le_set hle hs7 _⟩, ?_⟩
      simp only [e8, upd, ↓reduceIte]
      omega
    · obtain rfl : q = 10 := by omega
      refine awp_reg_seq ?_
      intro K hK
      simp only [↓DN, UP, DF, ashift, aconv, aindexAddr, aindex, aslice, abuiltin, AV.cells, AV.one, reduceCtorEq, ↓reduceIte, nLT, nLE, nEQ, nAdd, nMul, nPow, nSub, zLT, zLE, zNat, RAes9105, e8, decide_eq_false (show ¬ ((10 + 1 : Nat) : Int) ≤ 10 by decide)]
      refine hK _ _ ?_
      clear hK K
      refine awp_cond_k ?_
      intro X Y hX hY
      simp only [↓DN, UP, DF, ashift, aconv, aindexAddr, aindex, aslice, abuiltin, AV.cells, AV.one, reduceCtorEq, ↓reduceIte, nLT, nLE, nEQ, nAdd, nMul, nPow, nSub, zLT, zLE, zNat, RAes9105, DB]
      refine hY ?_
      clear hX hY X Y
      refine awp_exit ?_
      simp only [thenQ, blockQ, if_true]
      clear hK2 K2
      refine hK _ _ ?_
      clear hK K
      rw [show Aes.state key b 10 = Aes.block key b from rfl] at j7
      have hwl : ((Aes.block key b).map byteV).length = 16 := by rw [List.length_map, Aes.block_len]
      have hall := all_bytes (Aes.block key b)
      have htk : List.take 16 ((Aes.block key b).map byteV) = (Aes.block key b).map byteV := List.take_of_length_le (by omega)
      generalize (Aes.block key b).map byteV = X at *
      refine awp_reg_seq ?_
      intro K hK
      simp only [↓DN, UP, DF, ashift, aconv, aindexAddr, aindex, aslice, abuiltin, AV.cells, AV.one, reduceCtorEq, ↓reduceIte, nLT, nLE, nEQ, nAdd, nMul, nPow, nSub, zLT, zLE, zNat, RAes9105, e4, e7, j4, j7, hwl, htk, hall, n74, n74.symm, Nat.le_refl]
      rw [asetAll_whole Z X (by omega)]
      refine ⟨by omega, hK _ _ ?_⟩
      clear hK K
      refine awp_ret ?_
      refine aends_cell (v := .agg X) (o := o4) (off := 0) (by simp only [upd, e4, Nat.reduceEqDiff, ↓reduceIte]) (AS.set_objs_same _ _ _) (by rw [T.c138]; decide) (by simp only [↓DN, UP, DF, ashift, aconv, aindexAddr, aindex, aslice, abuiltin, AV.cells, AV.one, reduceCtorEq, ↓reduceIte, nLT, nLE, nEQ, nAdd, nMul, nPow, nSub, zLT, zLE, zNat, RAes9105, hwl, htk]) ?_
      exact ⟨_, s, AV.weak.refl _, AS.le_set hle ho4' _, rfl, rfl⟩

end Go.Proofs.YtooeklnbdgoneaaDoor


set_option autoImplicit false
namespace Go.Proofs.YtooeklnbdgoneaaDoor
open Go Go.AM Go.Proofs

theorem RAes10123 : type_of% (And.intro (And.intro (And.intro @Tryd.underlying3 T.c3) (And.intro T.g3 (And.intro T.b3 T.z3))) Tryd.ntmps123) :=
  (And.intro (And.intro (And.intro @Tryd.underlying3 T.c3) (And.intro T.g3 (And.intro T.b3 T.z3))) Tryd.ntmps123)

variable {Γ : Nat → List AV}

/-- A number, as an int. -/
abbrev nV (n : Nat) : AV := .v (.int .i64 (n : Int))
theorem n_shr (b i : Nat) (hi : i < 64) : ishr .i64 (b : Int) (i : Int) = ((b / 2 ^ i : Nat) : Int) := by
  rw [ishr_u]
  simp only [IntKind.bits]
  rw [Nat.min_eq_left (by omega)]
theorem n_shl (a i : Nat) (hi : i < 64) (h : a * 2 ^ i < 2 ^ 62) : ishl .i64 (a : Int) (i : Int) = ((a * 2 ^ i : Nat) : Int) := by
  rw [ishl]
  simp only [Int.toNat_natCast, IntKind.bits]
  rw [Nat.min_eq_left (by omega)]
  have e : (a : Int) * 2 ^ i = ((a * 2 ^ i : Nat) : Int) := by rw [Int.natCast_mul, Int.natCast_pow]; rfl
  rw [e, IntWalk.i64_in _ (by omega)]
theorem n_xor (a b : Nat) (ha : a < 2 ^ 62) (hb : b < 2 ^ 62) : ixor .i64 (a : Int) (b : Int) = ((a ^^^ b : Nat) : Int) := by
  have hx : a ^^^ b < 2 ^ 62 := Nat.xor_lt_two_pow ha hb
  rw [ixor, BitVec.ofInt_natCast, BitVec.ofInt_natCast, BitVec.toNat_xor, BitVec.toNat_ofNat, BitVec.toNat_ofNat]
  simp only [IntKind.bits]
  rw [Nat.mod_eq_of_lt (by omega), Nat.mod_eq_of_lt (by omega), IntWalk.i64_in _ (by omega)]
theorem rem2 (a : Nat) : irem (a : Int) 2 = ((a % 2 : Nat) : Int) := irem_u a 2
theorem two_ne : ¬ (2 : Int) = 0 := by decide
theorem mul_bound (a i : Nat) (ha : a < 256) (hi : i < 8) : a * 2 ^ i < 2 ^ 15 := by
  have h1 : 2 ^ i ≤ 2 ^ 7 := Nat.pow_le_pow_right (by decide) (by omega)
  have h2 : a * 2 ^ i ≤ 255 * 2 ^ 7 := Nat.mul_le_mul (by omega) h1
  omega
theorem poly_bound (k : Nat) (hk : k < 7) : 283 * 2 ^ k < 2 ^ 15 := by
  have h1 : 2 ^ k ≤ 2 ^ 6 := Nat.pow_le_pow_right (by decide) (by omega)
  have h2 : 283 * 2 ^ k ≤ 283 * 2 ^ 6 := Nat.mul_le_mul_left _ h1
  omega
theorem mod2_cases (a : Nat) : a % 2 = 1 ∨ a % 2 = 0 := by omega

set_option maxHeartbeats 4000000 in
theorem refMul05_calls (a b : Nat) (ha : a < 256) (hb : b < 256) (s : AS) : ACalls Tryd.prog Γ 123 [nV a, nV b] s (fun r s' => r = nV (Aes.rmul a b) ∧ s' = s) := by
  refine acalls_body Tryd.func123 rfl Tryd.ntmps123 Tryd.results123 (by simp) ?_
  refine awp_reg_seq ?_
  intro K hK
  simp only [↓DN, UP, DF, ashift, aconv, aindexAddr, aindex, aslice, abuiltin, AV.cells, AV.one, reduceCtorEq, ↓reduceIte, nLT, nLE, nEQ, nAdd, nMul, nPow, nSub, zLT, zLE, zNat, RAes10123]
  refine hK _ _ ?_
  clear hK K
  refine awp_reg_seq ?_
  intro K hK
  simp only [↓DN, UP, DF, ashift, aconv, aindexAddr, aindex, aslice, abuiltin, AV.cells, AV.one, reduceCtorEq, ↓reduceIte, nLT, nLE, nEQ, nAdd, nMul, nPow, nSub, zLT, zLE, zNat, RAes10123]
  refine hK _ _ ?_
  clear hK K
  refine awp_seq_k ?_
  intro K hK
  refine awp_reg_seq ?_
  intro K hK
  simp only [↓DN, UP, DF, ashift, aconv, aindexAddr, aindex, aslice, abuiltin, AV.cells, AV.one, reduceCtorEq, ↓reduceIte, nLT, nLE, nEQ, nAdd, nMul, nPow, nSub, zLT, zLE, zNat, RAes10123]
  refine hK _ _ ?_
  clear hK K
  refine awp_block ?_
  refine awp_loop (fun E s1 => ∃ i p : Nat, i ≤ 8 ∧ E 0 = nV a ∧ E 1 = nV b ∧ E 5 = nV p ∧ E 6 = nV i ∧ p < 2 ^ 15 ∧ Aes.mulL a b (8 - i) p = Aes.mulL a b 8 0 ∧ s1 = s)
    (fun E _ => match E 6 with | .v (.int _ i) => 8 - i.toNat | _ => 0) ?_ ?_
  · exact ⟨0, 0, by omega, by simp only [upd, initE, Nat.reduceEqDiff, ↓reduceIte]; rfl, by simp only [upd, initE, Nat.reduceEqDiff, ↓reduceIte]; rfl, by simp only [upd, Nat.reduceEqDiff, ↓reduceIte]; rfl, by simp only [upd, ↓reduceIte]; rfl, by decide, rfl, rfl⟩
  · rintro E1 s1 ⟨i, p, hi, e0, e1, e5, e6, hp, hinv, rfl⟩ -
    refine awp_seq_k ?_
    intro K2 hK2
    by_cases hi' : i < 8
    · refine awp_reg_seq ?_
      intro K hK
      simp only [↓DN, UP, DF, ashift, aconv, aindexAddr, aindex, aslice, abuiltin, AV.cells, AV.one, reduceCtorEq, ↓reduceIte, nLT, nLE, nEQ, nAdd, nMul, nPow, nSub, zLT, zLE, zNat, RAes10123, e6, decide_eq_true (show (i : Int) < 8 by omega)]
      refine hK _ _ ?_
      clear hK K
      refine awp_cond_k ?_
      intro X Y hX hY
      simp only [↓DN, UP, DF, ashift, aconv, aindexAddr, aindex, aslice, abuiltin, AV.cells, AV.one, reduceCtorEq, ↓reduceIte, nLT, nLE, nEQ, nAdd, nMul, nPow, nSub, zLT, zLE, zNat, RAes10123, DB]
      refine hX ?_
      clear hX hY X Y
      refine awp_skip ?_
      refine hK2 _ _ ?_
      clear hK2 K2
      refine awp_seq_k ?_
      intro K3 hK3
      refine awp_block ?_
      have hstep : Aes.mulL a b (8 - i) p = Aes.mulL a b (8 - (i + 1)) (if b / 2 ^ i % 2 = 1 then p ^^^ (a * 2 ^ i) else p) := by
        rw [show 8 - i = (8 - (i + 1)) + 1 by omega, Aes.mulL, show 7 - (8 - (i + 1)) = i by omega]
      have hmb := mul_bound a i ha hi'
      have hgo : ∀ (E2 : Env) (p2 : Nat), E2 0 = nV a → E2 1 = nV b → E2 5 = nV p2 → E2 6 = nV i → p2 < 2 ^ 15 → Aes.mulL a b (8 - (i + 1)) p2 = Aes.mulL a b 8 0 → K3 E2 s1 := by
        intro E2 p2 f0 f1 f5 f6 hp2 hinv2
        refine hK3 _ _ ?_
        clear hK3 K3
        refine awp_reg_end ?_
        intro K hK
        simp only [↓DN, UP, DF, ashift, aconv, aindexAddr, aindex, aslice, abuiltin, AV.cells, AV.one, reduceCtorEq, ↓reduceIte, nLT, nLE, nEQ, nAdd, nMul, nPow, nSub, zLT, zLE, zNat, RAes10123, f6, w_succ i (by omega)]
        refine hK _ _ ?_
        clear hK K
        refine ⟨⟨i + 1, p2, by omega, by simp only [upd, f0, Nat.reduceEqDiff, ↓reduceIte], by simp only [upd, f1, Nat.reduceEqDiff, ↓reduceIte], by simp only [upd, f5, Nat.reduceEqDiff, ↓reduceIte], by simp only [upd, ↓reduceIte], hp2, hinv2, rfl⟩, ?_⟩
        simp only [e6, upd, ↓reduceIte]
        omega
      clear hK3
      have hsh := n_shr b i (by omega)
      rcases mod2_cases (b / 2 ^ i) with hodd | heven
      · rw [if_pos hodd] at hstep
        refine awp_reg_seq ?_
        intro K hK
        simp only [↓DN, UP, DF, ashift, aconv, aindexAddr, aindex, aslice, abuiltin, AV.cells, AV.one, reduceCtorEq, ↓reduceIte, nLT, nLE, nEQ, nAdd, nMul, nPow, nSub, zLT, zLE, zNat, RAes10123, e1, e6, nat_not_neg, hsh, rem2, two_ne, hodd, one_beq]
        refine hK _ _ ?_
        clear hK K
        refine awp_cond_k ?_
        intro X Y hX hY
        simp only [↓DN, UP, DF, ashift, aconv, aindexAddr, aindex, aslice, abuiltin, AV.cells, AV.one, reduceCtorEq, ↓reduceIte, nLT, nLE, nEQ, nAdd, nMul, nPow, nSub, zLT, zLE, zNat, RAes10123, DB]
        refine hX ?_
        clear hX hY X Y
        refine awp_reg_end ?_
        intro K hK
        simp only [↓DN, UP, DF, ashift, aconv, aindexAddr, aindex, aslice, abuiltin, AV.cells, AV.one, reduceCtorEq, ↓reduceIte, nLT, nLE, nEQ, nAdd, nMul, nPow, nSub, zLT, zLE, zNat, RAes10123, e0, e5, e6, nat_not_neg, n_shl a i (by omega) (by omega), n_xor p (a * 2 ^ i) (by omega) (by omega)]
        refine hK _ _ ?_
        clear hK K
        simp only [blockQ, thenQ, if_true, if_false]
        exact hgo _ (p ^^^ (a * 2 ^ i)) (by simp only [upd, e0, Nat.reduceEqDiff, ↓reduceIte]) (by simp only [upd, e1, Nat.reduceEqDiff, ↓reduceIte]) (by simp only [upd, ↓reduceIte]) (by simp only [upd, e6, Nat.reduceEqDiff, ↓reduceIte]) (Nat.xor_lt_two_pow hp hmb) (by rw [← hstep]; exact hinv)
      · rw [if_neg (by omega)] at hstep
        refine awp_reg_seq ?_
        intro K hK
        simp only [↓DN, UP, DF, ashift, aconv, aindexAddr, aindex, aslice, abuiltin, AV.cells, AV.one, reduceCtorEq, ↓reduceIte, nLT, nLE, nEQ, nAdd, nMul, nPow, nSub, zLT, zLE, zNat, RAes10123, e1, e6, nat_not_neg, hsh, rem2, two_ne, heven, zero_beq1]
        refine hK _ _ ?_
        clear hK K
        refine awp_cond_k ?_
        intro X Y hX hY
        simp only [↓DN, UP, DF, ashift, aconv, aindexAddr, aindex, aslice, abuiltin, AV.cells, AV.one, reduceCtorEq, ↓reduceIte, nLT, nLE, nEQ, nAdd, nMul, nPow, nSub, zLT, zLE, zNat, RAes10123, DB]
        refine hY ?_
        clear hX hY X Y
        refine awp_skip ?_
        simp only [blockQ, thenQ, if_true, if_false]
        exact hgo _ p (by simp only [upd, e0, Nat.reduceEqDiff, ↓reduceIte]) (by simp only [upd, e1, Nat.reduceEqDiff, ↓reduceIte]) (by simp only [upd, e5, Nat.reduceEqDiff, ↓reduceIte]) (by simp only [upd, e6, Nat.reduceEqDiff, ↓reduceIte]) hp (by rw [← hstep]; exact hinv)
    · obtain rfl : i = 8 := by omega
      refine awp_reg_seq ?_
      intro K hK
      simp only [↓DN, UP, DF, ashift, aconv, aindexAddr, aindex, aslice, abuiltin, AV.cells, AV.one, reduceCtorEq, ↓reduceIte, nLT, nLE, nEQ, nAdd, nMul, nPow, nSub, zLT, zLE, zNat, RAes10123, e6, decide_eq_false (show ¬ ((8 : Nat) : Int) < 8 by decide)]
      refine hK _ _ ?_
      clear hK K
      refine awp_cond_k ?_
      intro X Y hX hY
      simp only [↓DN, UP, DF, ashift, aconv, aindexAddr, aindex, aslice, abuiltin, AV.cells, AV.one, reduceCtorEq, ↓reduceIte, nLT, nLE, nEQ, nAdd, nMul, nPow, nSub, zLT, zLE, zNat, RAes10123, DB]
      refine hY ?_
      clear hX hY X Y
      refine awp_exit ?_
      simp only [thenQ, blockQ, if_true]
      refine hK _ _ ?_
      clear hK hK2 K K2
      have hp0 : p = Aes.mulL a b 8 0 := hinv
      refine awp_seq_k ?_
      intro K hK
      refine awp_reg_seq ?_
      intro K hK
      simp only [↓DN, UP, DF, ashift, aconv, aindexAddr, aindex, aslice, abuiltin, AV.cells, AV.one, reduceCtorEq, ↓reduceIte, nLT, nLE, nEQ, nAdd, nMul, nPow, nSub, zLT, zLE, zNat, RAes10123]
      refine hK _ _ ?_
      clear hK K
      refine awp_block ?_
      refine awp_loop (fun E s2 => ∃ k p2 : Nat, k ≤ 7 ∧ E 5 = nV p2 ∧ E 7 = nV (7 + k) ∧ p2 < 2 ^ 15 ∧ Aes.redL k p2 = Aes.redL 7 p ∧ s2 = s1)
        (fun E _ => match E 7 with | .v (.int _ i) => i.toNat | _ => 0) ?_ ?_
      · exact ⟨7, p, by omega, by simp only [upd, e5, Nat.reduceEqDiff, ↓reduceIte], by simp only [upd, ↓reduceIte]; rfl, hp, rfl, rfl⟩
      · clear e0 e1 e5 e6
        rintro E2 s2 ⟨k, p2, hk, f5, f7, hp2, hinv2, rfl⟩ -
        refine awp_seq_k ?_
        intro K2 hK2
        by_cases hk' : k = 0
        · subst hk'
          refine awp_reg_seq ?_
          intro K hK
          simp only [↓DN, UP, DF, ashift, aconv, aindexAddr, aindex, aslice, abuiltin, AV.cells, AV.one, reduceCtorEq, ↓reduceIte, nLT, nLE, nEQ, nAdd, nMul, nPow, nSub, zLT, zLE, zNat, RAes10123, f7, decide_eq_false (show ¬ (8 : Int) ≤ ((7 + 0 : Nat) : Int) by decide)]
          refine hK _ _ ?_
          clear hK K
          refine awp_cond_k ?_
          intro X Y hX hY
          simp only [↓DN, UP, DF, ashift, aconv, aindexAddr, aindex, aslice, abuiltin, AV.cells, AV.one, reduceCtorEq, ↓reduceIte, nLT, nLE, nEQ, nAdd, nMul, nPow, nSub, zLT, zLE, zNat, RAes10123, DB]
          refine hY ?_
          clear hX hY X Y
          refine awp_exit ?_
          simp only [thenQ, blockQ, if_true]
          refine hK _ _ ?_
          clear hK hK2 K K2
          refine awp_reg_seq ?_
          intro K hK
          simp only [↓DN, UP, DF, ashift, aconv, aindexAddr, aindex, aslice, abuiltin, AV.cells, AV.one, reduceCtorEq, ↓reduceIte, nLT, nLE, nEQ, nAdd, nMul, nPow, nSub, zLT, zLE, zNat, RAes10123, f5]
          refine hK _ _ ?_
          clear hK K
          refine awp_ret ?_
          simp only [retQ, AEnds, aresL, ares, List.toList_toArray, ↓upd_same]; try simp only [↓DN, UP, DF, ashift, aconv, aindexAddr, aindex, aslice, abuiltin, AV.cells, AV.one, reduceCtorEq, ↓reduceIte, nLT, nLE, nEQ, nAdd, nMul, nPow, nSub, zLT, zLE, zNat, RAes10123, DT]
          refine ⟨_, _, AV.weak.refl _, AS.le.refl _, ?_, rfl⟩
          have : p2 = Aes.redL 7 p := hinv2
          rw [this, hp0]
          rfl
        · obtain ⟨m, rfl⟩ : ∃ m, k = m + 1 := ⟨k - 1, by omega⟩
          refine awp_reg_seq ?_
          intro K hK
          simp only [↓DN, UP, DF, ashift, aconv, aindexAddr, aindex, aslice, abuiltin, AV.cells, AV.one, reduceCtorEq, ↓reduceIte, nLT, nLE, nEQ, nAdd, nMul, nPow, nSub, zLT, zLE, zNat, RAes10123, f7, decide_eq_true (show (8 : Int) ≤ ((7 + (m + 1) : Nat) : Int) by omega)]
          refine hK _ _ ?_
          clear hK K
          refine awp_cond_k ?_
          intro X Y hX hY
          simp only [↓DN, UP, DF, ashift, aconv, aindexAddr, aindex, aslice, abuiltin, AV.cells, AV.one, reduceCtorEq, ↓reduceIte, nLT, nLE, nEQ, nAdd, nMul, nPow, nSub, zLT, zLE, zNat, RAes10123, DB]
          refine hX ?_
          clear hX hY X Y
          refine awp_skip ?_
          refine hK2 _ _ ?_
          clear hK2 K2
          refine awp_seq_k ?_
          intro K3 hK3
          refine awp_block ?_
          have hstep : Aes.redL (m + 1) p2 = Aes.redL m (if p2 / 2 ^ (8 + m) % 2 = 1 then p2 ^^^ (283 * 2 ^ m) else p2) := rfl
          have hpb := poly_bound m (by omega)
          have h78 : 7 + (m + 1) = 8 + m := by omega
          have hsub1 : isub .i64 ((8 + m : Nat) : Int) 1 = ((7 + m : Nat) : Int) := by
            have := i64_sub (8 + m) 1 (by omega) (by omega)
            rw [show 8 + m - 1 = 7 + m by omega] at this
            exact this
          have hsub8 : isub .i64 ((8 + m : Nat) : Int) 8 = ((m : Nat) : Int) := by
            have := i64_sub (8 + m) 8 (by omega) (by omega)
            rw [show 8 + m - 8 = m by omega] at this
            exact this
          have h283 : ishl .i64 283 ((m : Nat) : Int) = ((283 * 2 ^ m : Nat) : Int) := n_shl 283 m (by omega) (by omega)
          rw [h78] at f7
          have hgo : ∀ (E3 : Env) (p3 : Nat), E3 5 = nV p3 → E3 7 = nV (8 + m) → p3 < 2 ^ 15 → Aes.redL m p3 = Aes.redL 7 p → K3 E3 s2 := by
            intro E3 p3 g5 g7 hp3 hinv3
            refine hK3 _ _ ?_
            clear hK3 K3
            refine awp_reg_end ?_
            intro K hK
            simp only [↓DN, UP, DF, ashift, aconv, aindexAddr, aindex, aslice, abuiltin, AV.cells, AV.one, reduceCtorEq, ↓reduceIte, nLT, nLE, nEQ, nAdd, nMul, nPow, nSub, zLT, zLE, zNat, RAes10123, g7, hsub1]
            refine hK _ _ ?_
            clear hK K
            refine ⟨⟨m, p3, by omega, by simp only [upd, g5, Nat.reduceEqDiff, ↓reduceIte], by simp only [upd, ↓reduceIte], hp3, hinv3, rfl⟩, ?_⟩
            simp only [f7, upd, ↓reduceIte]
            omega
          clear hK3
          have hsh := n_shr p2 (8 + m) (by omega)
          rcases mod2_cases (p2 / 2 ^ (8 + m)) with hodd | heven
          · rw [if_pos hodd] at hstep
            refine awp_reg_seq ?_
            intro K hK
            simp only [↓DN, UP, DF, ashift, aconv, aindexAddr, aindex, aslice, abuiltin, AV.cells, AV.one, reduceCtorEq, ↓reduceIte, nLT, nLE, nEQ, nAdd, nMul, nPow, nSub, zLT, zLE, zNat, RAes10123, f5, f7, nat_not_neg, hsh, rem2, two_ne, hodd, one_beq]
            refine hK _ _ ?_
            clear hK K
            refine awp_cond_k ?_
            intro X Y hX hY
            simp only [↓DN, UP, DF, ashift, aconv, aindexAddr, aindex, aslice, abuiltin, AV.cells, AV.one, reduceCtorEq, ↓reduceIte, nLT, nLE, nEQ, nAdd, nMul, nPow, nSub, zLT, zLE, zNat, RAes10123, DB]
            refine hX ?_
            clear hX hY X Y
            refine awp_reg_end ?_
            intro K hK
            simp only [↓DN, UP, DF, ashift, aconv, aindexAddr, aindex, aslice, abuiltin, AV.cells, AV.one, reduceCtorEq, ↓reduceIte, nLT, nLE, nEQ, nAdd, nMul, nPow, nSub, zLT, zLE, zNat, RAes10123, f5, f7, nat_not_neg, hsub8, h283, n_xor p2 (283 * 2 ^ m) (by omega) (by omega)]
            refine hK _ _ ?_
            clear hK K
            simp only [blockQ, thenQ, if_true, if_false]
            exact hgo _ (p2 ^^^ (283 * 2 ^ m)) (by simp only [upd, ↓reduceIte]) (by simp only [upd, f7, Nat.reduceEqDiff, ↓reduceIte]) (Nat.xor_lt_two_pow hp2 hpb) (by rw [← hstep]; exact hinv2)
          · rw [if_neg (by omega)] at hstep
            refine awp_reg_seq ?_
            intro K hK
            simp only [↓DN, UP, DF, ashift, aconv, aindexAddr, aindex, aslice, abuiltin, AV.cells, AV.one, reduceCtorEq, ↓reduceIte, nLT, nLE, nEQ, nAdd, nMul, nPow, nSub, zLT, zLE, zNat, RAes10123, f5, f7, nat_not_neg, hsh, rem2, two_ne, heven, zero_beq1]
            refine hK _ _ ?_
            clear hK K
            refine awp_cond_k ?_
            intro X Y hX hY
            simp only [↓DN, UP, DF, ashift, aconv, aindexAddr, aindex, aslice, abuiltin, AV.cells, AV.one, reduceCtorEq, ↓reduceIte, nLT, nLE, nEQ, nAdd, nMul, nPow, nSub, zLT, zLE, zNat, RAes10123, DB]
            refine hY ?_
            clear hX hY X Y
            refine awp_skip ?_
            simp only [blockQ, thenQ, if_true, if_false]
            exact hgo _ p2 (by simp only [upd, f5, Nat.reduceEqDiff, ↓reduceIte]) (by simp only [upd, f7, Nat.reduceEqDiff, ↓reduceIte]) hp2 (by rw [← hstep]; exact hinv2)

end Go.Proofs.YtooeklnbdgoneaaDoor


set_option autoImplicit false
namespace Go.Proofs.YtooeklnbdgoneaaDoor
open Go Go.AM Go.Proofs

theorem RAes11107 : type_of% (And.intro (And.intro (And.intro (And.intro @Tryd.underlying3 (And.intro T.c3 T.g3)) (And.intro T.b3 (And.intro T.z3 @Tryd.underlying140))) (And.intro (And.intro T.c140 (And.intro T.g140 T.b140)) (And.intro T.z140 (And.intro T.s140 T.k123)))) Tryd.ntmps107) :=
  (And.intro (And.intro (And.intro (And.intro @Tryd.underlying3 (And.intro T.c3 T.g3)) (And.intro T.b3 (And.intro T.z3 @Tryd.underlying140))) (And.intro (And.intro T.c140 (And.intro T.g140 T.b140)) (And.intro T.z140 (And.intro T.s140 T.k123)))) Tryd.ntmps107)

variable {Γ : Nat → List AV}

def spinI (v : Nat) : Nat → Nat
  | 0 => v
  | k + 1 => Aes.spin (spinI v k)
def yI (v : Nat) : Nat → Nat
  | 0 => 99 ^^^ v
  | k + 1 => yI v k ^^^ spinI v (k + 1)
theorem spin_lt (v : Nat) : Aes.spin v < 256 := Nat.mod_lt _ (by decide)
theorem spinI_lt (v : Nat) (h : v < 256) : ∀ k, spinI v k < 256
  | 0 => h
  | k + 1 => spin_lt _
theorem yI_lt (v : Nat) (h : v < 256) : ∀ k, yI v k < 256
  | 0 => Nat.xor_lt_two_pow (n := 8) (by decide) h
  | k + 1 => Nat.xor_lt_two_pow (n := 8) (yI_lt v h k) (spinI_lt v h (k + 1))
theorem spin_walk (v : Nat) (h : v < 256) : irem (iadd .i64 (imul .i64 (v : Int) 2) (iquo .i64 (v : Int) 128)) 256 = ((Aes.spin v : Nat) : Int) := by
  have h1 : imul .i64 (v : Int) 2 = ((v * 2 : Nat) : Int) := by rw [imul_i64 (by omega)]; omega
  have h2 : iquo .i64 (v : Int) 128 = ((v / 128 : Nat) : Int) := by
    have : iquo .i64 (v : Int) ((128 : Nat) : Int) = ((v / 128 : Nat) : Int) := by
      rw [iquo]
      have e : Int.tdiv (v : Int) ((128 : Nat) : Int) = ((v / 128 : Nat) : Int) := (Int.ofNat_tdiv v 128).symm
      rw [e, IntWalk.i64_in _ (by omega)]
    exact this
  rw [h1, h2, i64_add _ _ (by omega)]
  exact irem_u (v * 2 + v / 128) 256

theorem expS_len : ∀ n, (Aes.expS n).length = 256
  | 0 => List.length_replicate
  | n + 1 => by rw [Aes.expS, List.length_set, expS_len n]
theorem logS_len : ∀ n, (Aes.logS n).length = 256
  | 0 => List.length_replicate
  | n + 1 => by rw [Aes.logS, List.length_set, logS_len n]
theorem expS_set (i : Nat) : ((Aes.expS i).map fun n => nV n).set i (nV (Aes.xp i)) = (Aes.expS (i + 1)).map fun n => nV n := by
  rw [← List.map_set, Aes.expS]
theorem logS_set (i : Nat) : ((Aes.logS i).map fun n => nV n).set (Aes.xp i) (nV i) = (Aes.logS (i + 1)).map fun n => nV n := by
  rw [← List.map_set, Aes.logS]
theorem nV_drop {l : List Nat} (j : Nat) (h : j < l.length) : List.drop j (l.map fun n => nV n) = nV (l.getD j 0) :: List.drop (j + 1) (l.map fun n => nV n) := by
  apply drop_cons
  simp [List.getElem?_eq_getElem h]
theorem expT_lt : ∀ j, j < 256 → Aes.expT.getD j 0 < 256 := by decide +kernel
theorem expT_len : Aes.expT.length = 256 := by decide +kernel
theorem logT_len : Aes.logT.length = 256 := by decide +kernel
/-- Octets, as ints. -/
def intL (l : List UInt8) : List AV := l.map fun x => nV x.toNat
theorem intL_len (l : List UInt8) : (intL l).length = l.length := by simp [intL]
theorem intL_drop {l : List UInt8} (j : Nat) (h : j < l.length) : List.drop j (intL l) = nV (l.getD j 0).toNat :: List.drop (j + 1) (intL l) := by
  apply drop_cons
  simp [intL, List.getElem?_eq_getElem h]
/-- A row of octets as ints, the first i of them new. -/
def fillI (F G : Nat → UInt8) (N i : Nat) : List AV := (List.range N).map fun n => nV (if n < i then F n else G n).toNat
theorem fillI_len (F G : Nat → UInt8) (N i : Nat) : (fillI F G N i).length = N := by simp [fillI]
theorem fillI_set (F G : Nat → UInt8) (N i : Nat) (x : Nat) (hx : x = (F i).toNat) : (fillI F G N i).set i (nV x) = fillI F G N (i + 1) := by
  subst hx
  apply List.ext_getElem?
  intro k
  by_cases e : k = i
  · subst e
    by_cases hk : k < N
    · rw [List.getElem?_set_self (by rw [fillI_len]; exact hk)]
      simp [fillI, hk]
    · rw [List.getElem?_eq_none (by simp [fillI]; omega), List.getElem?_eq_none (by simp [fillI]; omega)]
  · rw [List.getElem?_set_ne (by omega)]
    by_cases hk : k < N
    · simp only [fillI, List.getElem?_map, List.getElem?_range hk, Option.map_some]
      by_cases h2 : k < i
      · rw [if_pos h2, if_pos (by omega)]
      · rw [if_neg h2, if_neg (by omega)]
    · rw [List.getElem?_eq_none (by simp [fillI]; omega), List.getElem?_eq_none (by simp [fillI]; omega)]
theorem fillI_full (F G : Nat → UInt8) (N : Nat) : fillI F G N N = intL ((List.range N).map F) := by
  rw [fillI, intL, List.map_map]
  apply List.map_congr_left
  intro n hn
  rw [if_pos (List.mem_range.1 hn)]
  rfl
theorem fillI_nought (F : Nat → UInt8) (N : Nat) : fillI F (fun _ => 0) N 0 = List.replicate N (nV 0) := by
  apply List.ext_getElem
  · simp [fillI]
  · intro k h1 h2
    simp [fillI]
set_option maxHeartbeats 8000000 in
set_option maxRecDepth 100000 in
theorem refBoxes_calls (s : AS) : ACalls Tryd.prog Γ 107 [] s (fun r s' => r = .sl 1 256 (intL Aes.sb) .no ∧ s' = s) := by
  refine gcalls_body Tryd.func107 rfl Tryd.ntmps107 Tryd.results107 (by simp) ?_
  refine gwp_seq_k ?_
  intro K1 hK1
  refine awp_reg_end ?_
  intro K hK
  simp only [↓DN, UP, DF, ashift, aconv, aindexAddr, aindex, aslice, abuiltin, AV.cells, AV.one, reduceCtorEq, ↓reduceIte, nLT, nLE, nEQ, nAdd, nMul, nPow, nSub, zLT, zLE, zNat, RAes11107]
  refine hK _ _ ?_
  clear hK K
  simp only [thenQ]
  refine hK1 _ _ ?_
  clear hK1 K1
  refine gwp_seq_k ?_
  intro K1 hK1
  refine awp_reg_end ?_
  intro K hK
  simp only [↓DN, UP, DF, ashift, aconv, aindexAddr, aindex, aslice, abuiltin, AV.cells, AV.one, reduceCtorEq, ↓reduceIte, nLT, nLE, nEQ, nAdd, nMul, nPow, nSub, zLT, zLE, zNat, RAes11107]
  refine ⟨by decide, by decide, fun o1 ho1 => ?_⟩
  refine hK _ _ ?_
  clear hK K
  simp only [thenQ]
  refine hK1 _ _ ?_
  clear hK1 K1
  refine gwp_seq_k ?_
  intro K1 hK1
  refine awp_reg_end ?_
  intro K hK
  simp only [↓DN, UP, DF, ashift, aconv, aindexAddr, aindex, aslice, abuiltin, AV.cells, AV.one, reduceCtorEq, ↓reduceIte, nLT, nLE, nEQ, nAdd, nMul, nPow, nSub, zLT, zLE, zNat, RAes11107]
  refine ⟨by decide, by decide, fun o2 ho2 => ?_⟩
  refine hK _ _ ?_
  clear hK K
  simp only [thenQ]
  refine hK1 _ _ ?_
  clear hK1 K1
  obtain ⟨h21, ho2'⟩ := AS.fresh_set ho2
  refine gwp_seq_k ?_
  intro K1 hK1
  refine awp_reg_end ?_
  intro K hK
  simp only [↓DN, UP, DF, ashift, aconv, aindexAddr, aindex, aslice, abuiltin, AV.cells, AV.one, reduceCtorEq, ↓reduceIte, nLT, nLE, nEQ, nAdd, nMul, nPow, nSub, zLT, zLE, zNat, RAes11107]
  refine hK _ _ ?_
  clear hK K
  simp only [thenQ]
  refine hK1 _ _ ?_
  clear hK1 K1
  rw [show List.replicate 256 (AV.v (.int .i64 0)) = (Aes.expS 0).map fun n => nV n from by rw [Aes.expS, List.map_replicate]; rfl]
  generalize hs0 : (s.set o1 ((Aes.expS 0).map fun n => nV n)).set o2 ((Aes.expS 0).map fun n => nV n) = s0 at *
  have j1 : s0.objs o1 = some ((Aes.expS 0).map fun n => nV n) := by rw [← hs0, AS.set_objs_ne _ h21.symm, AS.set_objs_same]
  have j2 : s0.objs o2 = some ((Aes.logS 0).map fun n => nV n) := by rw [← hs0]; exact AS.set_objs_same _ _ _
  have hle : s.le s0 := by rw [← hs0]; exact AS.le_set (AS.le_set (AS.le.refl s) ho1 _) ho2' _
  clear hs0 ho2
  refine gwp_seq_k ?_
  intro K1 hK1
  refine awp_reg_seq ?_
  intro K hK
  simp only [↓DN, UP, DF, ashift, aconv, aindexAddr, aindex, aslice, abuiltin, AV.cells, AV.one, reduceCtorEq, ↓reduceIte, nLT, nLE, nEQ, nAdd, nMul, nPow, nSub, zLT, zLE, zNat, RAes11107]
  refine hK _ _ ?_
  clear hK K
  refine awp_block ?_
  refine awp_loop (fun E s1 => ∃ i : Nat, i ≤ 255 ∧ E 1 = .osl o1 0 1 256 256 ∧ E 2 = .osl o2 0 1 256 256 ∧ E 3 = nV (Aes.xp i) ∧ E 4 = nV i ∧ s1.objs o1 = some ((Aes.expS i).map fun n => nV n) ∧ s1.objs o2 = some ((Aes.logS i).map fun n => nV n) ∧ s.le s1)
    (fun E _ => match E 4 with | .v (.int _ i) => 255 - i.toNat | _ => 0) ?_ ?_
  · exact ⟨0, by omega, by simp only [upd, Nat.reduceEqDiff, ↓reduceIte], by simp only [upd, Nat.reduceEqDiff, ↓reduceIte], by simp only [upd, Nat.reduceEqDiff, ↓reduceIte]; rfl, by simp only [upd, ↓reduceIte]; rfl, j1, j2, hle⟩
  · clear j1 j2 hle
    rintro E1 s1 ⟨i, hi, e1, e2, e3, e4, j1, j2, hle⟩ -
    refine awp_seq_k ?_
    intro K2 hK2
    by_cases hi' : i < 255
    · refine awp_reg_seq ?_
      intro K hK
      simp only [↓DN, UP, DF, ashift, aconv, aindexAddr, aindex, aslice, abuiltin, AV.cells, AV.one, reduceCtorEq, ↓reduceIte, nLT, nLE, nEQ, nAdd, nMul, nPow, nSub, zLT, zLE, zNat, RAes11107, e4, decide_eq_true (show (i : Int) < 255 by omega)]
      refine hK _ _ ?_
      clear hK K
      refine awp_cond_k ?_
      intro X Y hX hY
      simp only [↓DN, UP, DF, ashift, aconv, aindexAddr, aindex, aslice, abuiltin, AV.cells, AV.one, reduceCtorEq, ↓reduceIte, nLT, nLE, nEQ, nAdd, nMul, nPow, nSub, zLT, zLE, zNat, RAes11107, DB]
      refine hX ?_
      clear hX hY X Y
      refine awp_skip ?_
      refine hK2 _ _ ?_
      clear hK2 K2
      refine awp_seq_k ?_
      intro K3 hK3
      refine awp_block ?_
      have hx := Aes.xp_lt i
      have hset1 := expS_set i
      have hset2 := logS_set i
      have hl1 : ((Aes.expS i).map fun n => nV n).length = 256 := by rw [List.length_map, expS_len]
      have hl2 : ((Aes.logS i).map fun n => nV n).length = 256 := by rw [List.length_map, logS_len]
      have hmul := fun s => refMul05_calls (Γ := Γ) (Aes.xp i) 3 hx (by decide) s
      rw [show Aes.rmul (Aes.xp i) 3 = Aes.xp (i + 1) from rfl] at hmul
      generalize hA' : ((Aes.expS (i + 1)).map fun n => nV n) = A' at *
      generalize hB' : ((Aes.logS (i + 1)).map fun n => nV n) = B' at *
      generalize ((Aes.expS i).map fun n => nV n) = A at *
      generalize ((Aes.logS i).map fun n => nV n) = B at *
      generalize hxn : Aes.xp (i + 1) = xn at *
      generalize Aes.xp i = x at *
      have m0 : (0 : Int) ≤ (i : Int) := by omega
      have m1 : (i : Int) < ((256 : Nat) : Int) := by omega
      have m2 : (0 : Int) ≤ (x : Int) := by omega
      have m3 : (x : Int) < ((256 : Nat) : Int) := by omega
      have m4 : i < 256 := by omega
      refine awp_reg_seq ?_
      intro K hK
      simp only [↓DN, UP, DF, ashift, aconv, aindexAddr, aindex, aslice, abuiltin, AV.cells, AV.one, reduceCtorEq, ↓reduceIte, nLT, nLE, nEQ, nAdd, nMul, nPow, nSub, zLT, zLE, zNat, RAes11107, e1, e3, e4, j1, m0, m1, m4, hset1, hl1]
      refine ⟨by omega, hK _ _ ?_⟩
      clear hK K
      generalize hs2 : s1.set o1 A' = s2 at *
      have q1 : s2.objs o1 = some A' := by rw [← hs2]; exact AS.set_objs_same _ _ _
      have q2 : s2.objs o2 = some B := by rw [← hs2, AS.set_objs_ne _ h21]; exact j2
      have hle2 : s.le s2 := by rw [← hs2]; exact AS.le_set hle ho1 _
      clear hs2 j1 j2 hle
      have m5 : x + 1 ≤ 256 := by omega
      refine awp_reg_seq ?_
      intro K hK
      simp only [↓DN, UP, DF, ashift, aconv, aindexAddr, aindex, aslice, abuiltin, AV.cells, AV.one, reduceCtorEq, ↓reduceIte, nLT, nLE, nEQ, nAdd, nMul, nPow, nSub, zLT, zLE, zNat, RAes11107, e2, e3, e4, q2, m2, m3, m5, hx, hset2, hl2]
      refine hK _ _ ?_
      clear hK K
      refine awp_reg_end ?_
      intro K hK
      simp only [↓DN, UP, DF, ashift, aconv, aindexAddr, aindex, aslice, abuiltin, AV.cells, AV.one, reduceCtorEq, ↓reduceIte, nLT, nLE, nEQ, nAdd, nMul, nPow, nSub, zLT, zLE, zNat, RAes11107, e3]
      refine acallk (hmul _) ?_
      rintro r s3 ⟨rfl, rfl⟩
      simp only [↓AXq_nil, ↓AXq_cons, pval, DX, Nat.reduceBEq, ↓DN, UP, DF, ashift, aconv, aindexAddr, aindex, aslice, abuiltin, AV.cells, AV.one, reduceCtorEq, ↓reduceIte, nLT, nLE, nEQ, nAdd, nMul, nPow, nSub, zLT, zLE, zNat, RAes11107]
      refine hK _ _ ?_
      clear hK K
      simp only [blockQ, thenQ, if_true, if_false]
      refine hK3 _ _ ?_
      clear hK3 K3
      refine awp_reg_end ?_
      intro K hK
      simp only [↓DN, UP, DF, ashift, aconv, aindexAddr, aindex, aslice, abuiltin, AV.cells, AV.one, reduceCtorEq, ↓reduceIte, nLT, nLE, nEQ, nAdd, nMul, nPow, nSub, zLT, zLE, zNat, RAes11107, e4, w_succ i (by omega)]
      refine hK _ _ ?_
      clear hK K
      refine ⟨⟨i + 1, by omega, by simp only [upd, e1, Nat.reduceEqDiff, ↓reduceIte], by simp only [upd, e2, Nat.reduceEqDiff, ↓reduceIte], by simp only [upd, Nat.reduceEqDiff, ↓reduceIte]; rw [hxn], by simp only [upd, ↓reduceIte], by rw [AS.set_objs_ne _ h21.symm, hA']; exact q1, by rw [hB']; exact AS.set_objs_same _ _ _, AS.le_set hle2 ho2' _⟩, ?_⟩
      simp only [e4, upd, ↓reduceIte]
      omega
    · obtain rfl : i = 255 := by omega
      refine awp_reg_seq ?_
      intro K hK
      simp only [↓DN, UP, DF, ashift, aconv, aindexAddr, aindex, aslice, abuiltin, AV.cells, AV.one, reduceCtorEq, ↓reduceIte, nLT, nLE, nEQ, nAdd, nMul, nPow, nSub, zLT, zLE, zNat, RAes11107, e4, decide_eq_false (show ¬ ((255 : Nat) : Int) < 255 by decide)]
      refine hK _ _ ?_
      clear hK K
      refine awp_cond_k ?_
      intro X Y hX hY
      simp only [↓DN, UP, DF, ashift, aconv, aindexAddr, aindex, aslice, abuiltin, AV.cells, AV.one, reduceCtorEq, ↓reduceIte, nLT, nLE, nEQ, nAdd, nMul, nPow, nSub, zLT, zLE, zNat, RAes11107, DB]
      refine hY ?_
      clear hX hY X Y
      refine awp_exit ?_
      simp only [thenQ, blockQ, if_true]
      clear hK2 K2
      refine hK1 _ _ ?_
      clear hK1 K1
      rw [Aes.exp_T] at j1
      rw [Aes.log_T] at j2
      clear e3 e4
      refine gwp_seq_k ?_
      intro K1 hK1
      refine awp_reg_end ?_
      intro K hK
      simp only [↓DN, UP, DF, ashift, aconv, aindexAddr, aindex, aslice, abuiltin, AV.cells, AV.one, reduceCtorEq, ↓reduceIte, nLT, nLE, nEQ, nAdd, nMul, nPow, nSub, zLT, zLE, zNat, RAes11107]
      refine ⟨by decide, by decide, fun o5 ho5 => ?_⟩
      refine hK _ _ ?_
      clear hK K
      simp only [thenQ]
      refine hK1 _ _ ?_
      clear hK1 K1
      have n51 : o5 ≠ o1 := fun e => by rw [e, j1] at ho5; cases ho5
      have n52 : o5 ≠ o2 := fun e => by rw [e, j2] at ho5; cases ho5
      have hs5 : s.objs o5 = none := by
        cases h : s.objs o5 with
        | none => rfl
        | some cs => rw [hle.objs _ _ h] at ho5; cases ho5
      rw [show List.replicate 256 (AV.v (.int .i64 0)) = List.replicate 256 (nV 0) from rfl, ← fillI_nought (fun n => Aes.sb.getD n 0) 256]
      generalize hs2 : s1.set o5 (fillI (fun n => Aes.sb.getD n 0) (fun _ => 0) 256 0) = s2 at *
      have q1 : s2.objs o1 = some (Aes.expT.map fun n => nV n) := by rw [← hs2, AS.set_objs_ne _ n51.symm]; exact j1
      have q2 : s2.objs o2 = some (Aes.logT.map fun n => nV n) := by rw [← hs2, AS.set_objs_ne _ n52.symm]; exact j2
      have q5 : s2.objs o5 = some (fillI (fun n => Aes.sb.getD n 0) (fun _ => 0) 256 0) := by rw [← hs2]; exact AS.set_objs_same _ _ _
      have hle2 : s.le s2 := by rw [← hs2]; exact AS.le_set hle hs5 _
      clear hs2 j1 j2 hle ho5
      refine gwp_seq_k ?_
      intro K1 hK1
      refine awp_reg_seq ?_
      intro K hK
      simp only [↓DN, UP, DF, ashift, aconv, aindexAddr, aindex, aslice, abuiltin, AV.cells, AV.one, reduceCtorEq, ↓reduceIte, nLT, nLE, nEQ, nAdd, nMul, nPow, nSub, zLT, zLE, zNat, RAes11107]
      refine hK _ _ ?_
      clear hK K
      refine awp_block ?_
      refine awp_loop (fun E s3 => ∃ c : Nat, c ≤ 256 ∧ E 1 = .osl o1 0 1 256 256 ∧ E 2 = .osl o2 0 1 256 256 ∧ E 5 = .osl o5 0 1 256 256 ∧ E 6 = nV c ∧ s3.objs o1 = some (Aes.expT.map fun n => nV n) ∧ s3.objs o2 = some (Aes.logT.map fun n => nV n) ∧ s3.objs o5 = some (fillI (fun n => Aes.sb.getD n 0) (fun _ => 0) 256 c) ∧ s.le s3)
        (fun E _ => match E 6 with | .v (.int _ i) => 256 - i.toNat | _ => 0) ?_ ?_
      · exact ⟨0, by omega, by simp only [upd, e1, Nat.reduceEqDiff, ↓reduceIte], by simp only [upd, e2, Nat.reduceEqDiff, ↓reduceIte], by simp only [upd, Nat.reduceEqDiff, ↓reduceIte], by simp only [upd, ↓reduceIte]; rfl, q1, q2, q5, hle2⟩
      · clear q1 q2 q5 hle2 e1 e2
        rintro E2 s3 ⟨c, hc, f1, f2, f5, f6, q1, q2, q5, hle2⟩ -
        refine awp_seq_k ?_
        intro K2 hK2
        by_cases hc' : c < 256
        · refine awp_reg_seq ?_
          intro K hK
          simp only [↓DN, UP, DF, ashift, aconv, aindexAddr, aindex, aslice, abuiltin, AV.cells, AV.one, reduceCtorEq, ↓reduceIte, nLT, nLE, nEQ, nAdd, nMul, nPow, nSub, zLT, zLE, zNat, RAes11107, f6, decide_eq_true (show (c : Int) < 256 by omega)]
          refine hK _ _ ?_
          clear hK K
          refine awp_cond_k ?_
          intro X Y hX hY
          simp only [↓DN, UP, DF, ashift, aconv, aindexAddr, aindex, aslice, abuiltin, AV.cells, AV.one, reduceCtorEq, ↓reduceIte, nLT, nLE, nEQ, nAdd, nMul, nPow, nSub, zLT, zLE, zNat, RAes11107, DB]
          refine hX ?_
          clear hX hY X Y
          refine awp_skip ?_
          refine hK2 _ _ ?_
          clear hK2 K2
          refine awp_seq_k ?_
          intro K3 hK3
          refine awp_block ?_
          refine awp_reg_seq ?_
          intro K hK
          simp only [↓DN, UP, DF, ashift, aconv, aindexAddr, aindex, aslice, abuiltin, AV.cells, AV.one, reduceCtorEq, ↓reduceIte, nLT, nLE, nEQ, nAdd, nMul, nPow, nSub, zLT, zLE, zNat, RAes11107]
          refine hK _ _ ?_
          clear hK K
          refine awp_seq_k ?_
          intro K4 hK4
          have hout := Aes.outV_sb c hc'
          have hgo : ∀ (E3 : Env) (v : Nat), v < 256 → Aes.outV Aes.expT Aes.logT c = yI v 4 → E3 1 = .osl o1 0 1 256 256 → E3 2 = .osl o2 0 1 256 256 → E3 5 = .osl o5 0 1 256 256 → E3 6 = nV c → E3 7 = nV v → K4 E3 s3 := by
            intro E3 v hv hov g1 g2 g5 g6 g7
            refine hK4 _ _ ?_
            clear hK4 K4
            have h99 : ixor .i64 (99 : Int) (v : Int) = ((99 ^^^ v : Nat) : Int) := n_xor 99 v (by omega) (by omega)
            refine awp_reg_seq ?_
            intro K hK
            simp only [↓DN, UP, DF, ashift, aconv, aindexAddr, aindex, aslice, abuiltin, AV.cells, AV.one, reduceCtorEq, ↓reduceIte, nLT, nLE, nEQ, nAdd, nMul, nPow, nSub, zLT, zLE, zNat, RAes11107, g7, h99]
            refine hK _ _ ?_
            clear hK K
            refine awp_seq_k ?_
            intro K5 hK5
            refine awp_reg_seq ?_
            intro K hK
            simp only [↓DN, UP, DF, ashift, aconv, aindexAddr, aindex, aslice, abuiltin, AV.cells, AV.one, reduceCtorEq, ↓reduceIte, nLT, nLE, nEQ, nAdd, nMul, nPow, nSub, zLT, zLE, zNat, RAes11107]
            refine hK _ _ ?_
            clear hK K
            refine awp_block ?_
            refine awp_loop (fun E s4 => ∃ k : Nat, k ≤ 4 ∧ E 1 = .osl o1 0 1 256 256 ∧ E 2 = .osl o2 0 1 256 256 ∧ E 5 = .osl o5 0 1 256 256 ∧ E 6 = nV c ∧ E 7 = nV (spinI v k) ∧ E 8 = nV (yI v k) ∧ E 9 = nV k ∧ s4 = s3)
              (fun E _ => match E 9 with | .v (.int _ i) => 4 - i.toNat | _ => 0) ?_ ?_
            · exact ⟨0, by omega, by simp only [upd, g1, Nat.reduceEqDiff, ↓reduceIte], by simp only [upd, g2, Nat.reduceEqDiff, ↓reduceIte], by simp only [upd, g5, Nat.reduceEqDiff, ↓reduceIte], by simp only [upd, g6, Nat.reduceEqDiff, ↓reduceIte], by simp only [upd, g7, Nat.reduceEqDiff, ↓reduceIte]; rfl, by simp only [upd, Nat.reduceEqDiff, ↓reduceIte]; rfl, by simp only [upd, ↓reduceIte]; rfl, rfl⟩
            · clear g1 g2 g5 g6 g7
              rintro E4 s4 ⟨k, hk, g1, g2, g5, g6, g7, g8, g9, rfl⟩ -
              refine awp_seq_k ?_
              intro K6 hK6
              by_cases hk' : k < 4
              · refine awp_reg_seq ?_
                intro K hK
                simp only [↓DN, UP, DF, ashift, aconv, aindexAddr, aindex, aslice, abuiltin, AV.cells, AV.one, reduceCtorEq, ↓reduceIte, nLT, nLE, nEQ, nAdd, nMul, nPow, nSub, zLT, zLE, zNat, RAes11107, g9, decide_eq_true (show (k : Int) < 4 by omega)]
                refine hK _ _ ?_
                clear hK K
                refine awp_cond_k ?_
                intro X Y hX hY
                simp only [↓DN, UP, DF, ashift, aconv, aindexAddr, aindex, aslice, abuiltin, AV.cells, AV.one, reduceCtorEq, ↓reduceIte, nLT, nLE, nEQ, nAdd, nMul, nPow, nSub, zLT, zLE, zNat, RAes11107, DB]
                refine hX ?_
                clear hX hY X Y
                refine awp_skip ?_
                refine hK6 _ _ ?_
                clear hK6 K6
                refine awp_seq_k ?_
                intro K7 hK7
                refine awp_block ?_
                have hsv := spinI_lt v hv k
                have hyv := yI_lt v hv k
                have hsw := spin_walk (spinI v k) hsv
                have hs2 := spin_lt (spinI v k)
                have hs3 : spinI v (k + 1) = Aes.spin (spinI v k) := rfl
                have hy3 : yI v (k + 1) = yI v k ^^^ Aes.spin (spinI v k) := rfl
                have hxr := n_xor (yI v k) (Aes.spin (spinI v k)) (by omega) (by omega)
                rw [← hs3] at hsw hs2 hxr hy3
                rw [← hy3] at hxr
                generalize hsn : spinI v (k + 1) = sn at *
                generalize hyn : yI v (k + 1) = yn at *
                generalize spinI v k = sk at *
                generalize yI v k = yk at *
                refine awp_reg_seq ?_
                intro K hK
                simp only [↓DN, UP, DF, ashift, aconv, aindexAddr, aindex, aslice, abuiltin, AV.cells, AV.one, reduceCtorEq, ↓reduceIte, nLT, nLE, nEQ, nAdd, nMul, nPow, nSub, zLT, zLE, zNat, RAes11107, g7, hsw, show ¬ ((128 : Int) = 0) from by decide, show ¬ ((256 : Int) = 0) from by decide]
                refine hK _ _ ?_
                clear hK K
                refine awp_reg_end ?_
                intro K hK
                simp only [↓DN, UP, DF, ashift, aconv, aindexAddr, aindex, aslice, abuiltin, AV.cells, AV.one, reduceCtorEq, ↓reduceIte, nLT, nLE, nEQ, nAdd, nMul, nPow, nSub, zLT, zLE, zNat, RAes11107, g8, hxr]
                refine hK _ _ ?_
                clear hK K
                simp only [blockQ, thenQ, if_true, if_false]
                refine hK7 _ _ ?_
                clear hK7 K7
                refine awp_reg_end ?_
                intro K hK
                simp only [↓DN, UP, DF, ashift, aconv, aindexAddr, aindex, aslice, abuiltin, AV.cells, AV.one, reduceCtorEq, ↓reduceIte, nLT, nLE, nEQ, nAdd, nMul, nPow, nSub, zLT, zLE, zNat, RAes11107, g9, w_succ k (by omega)]
                refine hK _ _ ?_
                clear hK K
                refine ⟨⟨k + 1, by omega, by simp only [upd, g1, Nat.reduceEqDiff, ↓reduceIte], by simp only [upd, g2, Nat.reduceEqDiff, ↓reduceIte], by simp only [upd, g5, Nat.reduceEqDiff, ↓reduceIte], by simp only [upd, g6, Nat.reduceEqDiff, ↓reduceIte], by simp only [upd, Nat.reduceEqDiff, ↓reduceIte]; rw [hsn], by simp only [upd, Nat.reduceEqDiff, ↓reduceIte]; rw [hyn], by simp only [upd, ↓reduceIte], rfl⟩, ?_⟩
                simp only [g9, upd, ↓reduceIte]
                omega
              · obtain rfl : k = 4 := by omega
                refine awp_reg_seq ?_
                intro K hK
                simp only [↓DN, UP, DF, ashift, aconv, aindexAddr, aindex, aslice, abuiltin, AV.cells, AV.one, reduceCtorEq, ↓reduceIte, nLT, nLE, nEQ, nAdd, nMul, nPow, nSub, zLT, zLE, zNat, RAes11107, g9, decide_eq_false (show ¬ ((4 : Nat) : Int) < 4 by decide)]
                refine hK _ _ ?_
                clear hK K
                refine awp_cond_k ?_
                intro X Y hX hY
                simp only [↓DN, UP, DF, ashift, aconv, aindexAddr, aindex, aslice, abuiltin, AV.cells, AV.one, reduceCtorEq, ↓reduceIte, nLT, nLE, nEQ, nAdd, nMul, nPow, nSub, zLT, zLE, zNat, RAes11107, DB]
                refine hY ?_
                clear hX hY X Y
                refine awp_exit ?_
                simp only [thenQ, blockQ, if_true]
                clear hK6 K6
                refine hK5 _ _ ?_
                clear hK5 K5
                rw [← hov, hout] at g8
                have hset := fillI_set (fun n => Aes.sb.getD n 0) (fun _ => 0) 256 c _ rfl
                have hlen := fillI_len (fun n => Aes.sb.getD n 0) (fun _ => 0) 256 c
                generalize hR' : fillI (fun n => Aes.sb.getD n 0) (fun _ => 0) 256 (c + 1) = R' at *
                generalize fillI (fun n => Aes.sb.getD n 0) (fun _ => 0) 256 c = R at *
                generalize (Aes.sb.getD c 0).toNat = y at *
                have m0 : (0 : Int) ≤ (c : Int) := by omega
                have m1 : (c : Int) < ((256 : Nat) : Int) := by omega
                have m2 : c + 1 ≤ 256 := by omega
                refine awp_reg_end ?_
                intro K hK
                simp only [↓DN, UP, DF, ashift, aconv, aindexAddr, aindex, aslice, abuiltin, AV.cells, AV.one, reduceCtorEq, ↓reduceIte, nLT, nLE, nEQ, nAdd, nMul, nPow, nSub, zLT, zLE, zNat, RAes11107, g5, g6, g8, m0, m1, m2, hc', q5, hset, hlen]
                refine hK _ _ ?_
                clear hK K
                simp only [blockQ, thenQ, if_true, if_false]
                refine hK3 _ _ ?_
                clear hK3 K3
                refine awp_reg_end ?_
                intro K hK
                simp only [↓DN, UP, DF, ashift, aconv, aindexAddr, aindex, aslice, abuiltin, AV.cells, AV.one, reduceCtorEq, ↓reduceIte, nLT, nLE, nEQ, nAdd, nMul, nPow, nSub, zLT, zLE, zNat, RAes11107, g6, w_succ c (by omega)]
                refine hK _ _ ?_
                clear hK K
                refine ⟨⟨c + 1, by omega, by simp only [upd, g1, Nat.reduceEqDiff, ↓reduceIte], by simp only [upd, g2, Nat.reduceEqDiff, ↓reduceIte], by simp only [upd, g5, Nat.reduceEqDiff, ↓reduceIte], by simp only [upd, ↓reduceIte], by rw [AS.set_objs_ne _ n51.symm]; exact q1, by rw [AS.set_objs_ne _ n52.symm]; exact q2, by rw [hR']; exact AS.set_objs_same _ _ _, AS.le_set hle2 hs5 _⟩, ?_⟩
                simp only [f6, upd, ↓reduceIte]
                omega
          clear hK3
          by_cases hc0 : c = 0
          · subst hc0
            refine awp_reg_seq ?_
            intro K hK
            simp only [↓DN, UP, DF, ashift, aconv, aindexAddr, aindex, aslice, abuiltin, AV.cells, AV.one, reduceCtorEq, ↓reduceIte, nLT, nLE, nEQ, nAdd, nMul, nPow, nSub, zLT, zLE, zNat, RAes11107, f6, decide_eq_false (show ¬ (0 : Int) < ((0 : Nat) : Int) by decide)]
            refine hK _ _ ?_
            clear hK K
            refine awp_cond_k ?_
            intro X Y hX hY
            simp only [↓DN, UP, DF, ashift, aconv, aindexAddr, aindex, aslice, abuiltin, AV.cells, AV.one, reduceCtorEq, ↓reduceIte, nLT, nLE, nEQ, nAdd, nMul, nPow, nSub, zLT, zLE, zNat, RAes11107, DB]
            refine hY ?_
            clear hX hY X Y
            refine awp_skip ?_
            exact hgo _ 0 (by decide) rfl (by simp only [upd, f1, Nat.reduceEqDiff, ↓reduceIte]) (by simp only [upd, f2, Nat.reduceEqDiff, ↓reduceIte]) (by simp only [upd, f5, Nat.reduceEqDiff, ↓reduceIte]) (by simp only [upd, f6, Nat.reduceEqDiff, ↓reduceIte]) (by simp only [upd, Nat.reduceEqDiff, ↓reduceIte]; rfl)
          · have hg := Aes.log_le c hc'
            have hd1 := nV_drop (l := Aes.logT) c (by rw [logT_len]; exact hc')
            have hov : Aes.outV Aes.expT Aes.logT c = yI (Aes.expT.getD ((255 - Aes.logT.getD c 0) % 255) 0) 4 := by
              unfold Aes.outV
              rw [if_pos (by omega)]
              rfl
            generalize Aes.logT.getD c 0 = g at *
            have hd2 := nV_drop (l := Aes.expT) ((255 - g) % 255) (by rw [expT_len]; omega)
            have hv := expT_lt ((255 - g) % 255) (by omega)
            have hsub : isub .i64 255 ((g : Nat) : Int) = ((255 - g : Nat) : Int) := i64_sub 255 g (by omega) (by omega)
            have hrem : irem ((255 - g : Nat) : Int) 255 = (((255 - g) % 255 : Nat) : Int) := irem_u (255 - g) 255
            generalize hm : (255 - g) % 255 = m at *
            have hm2 : m < 255 := by omega
            generalize Aes.expT.getD m 0 = v at *
            have hl1 : (Aes.expT.map fun n => nV n).length = 256 := by rw [List.length_map, expT_len]
            have hl2 : (Aes.logT.map fun n => nV n).length = 256 := by rw [List.length_map, logT_len]
            generalize hA : (Aes.expT.map fun n => nV n) = A at *
            generalize hB : (Aes.logT.map fun n => nV n) = B at *
            have m0 : (0 : Int) ≤ (c : Int) := by omega
            have m1 : (c : Int) < ((256 : Nat) : Int) := by omega
            have m2 : (0 : Int) ≤ (m : Int) := by omega
            have m3 : (m : Int) < ((256 : Nat) : Int) := by omega
            have m4 : m < 256 := by omega
            refine awp_reg_seq ?_
            intro K hK
            simp only [↓DN, UP, DF, ashift, aconv, aindexAddr, aindex, aslice, abuiltin, AV.cells, AV.one, reduceCtorEq, ↓reduceIte, nLT, nLE, nEQ, nAdd, nMul, nPow, nSub, zLT, zLE, zNat, RAes11107, f6, decide_eq_true (show (0 : Int) < (c : Int) by omega)]
            refine hK _ _ ?_
            clear hK K
            refine awp_cond_k ?_
            intro X Y hX hY
            simp only [↓DN, UP, DF, ashift, aconv, aindexAddr, aindex, aslice, abuiltin, AV.cells, AV.one, reduceCtorEq, ↓reduceIte, nLT, nLE, nEQ, nAdd, nMul, nPow, nSub, zLT, zLE, zNat, RAes11107, DB]
            refine hX ?_
            clear hX hY X Y
            refine awp_reg_end ?_
            intro K hK
            simp only [↓DN, UP, DF, ashift, aconv, aindexAddr, aindex, aslice, abuiltin, AV.cells, AV.one, reduceCtorEq, ↓reduceIte, nLT, nLE, nEQ, nAdd, nMul, nPow, nSub, zLT, zLE, zNat, RAes11107, f1, f2, f6, m0, m1, m2, m3, m4, hc', q1, q2, hd1, hd2, hsub, hrem, hl1, hl2, show ¬ ((255 : Int) = 0) from by decide]
            refine hK _ _ ?_
            clear hK K
            exact hgo _ v hv hov (by simp only [upd, f1, Nat.reduceEqDiff, ↓reduceIte]) (by simp only [upd, f2, Nat.reduceEqDiff, ↓reduceIte]) (by simp only [upd, f5, Nat.reduceEqDiff, ↓reduceIte]) (by simp only [upd, f6, Nat.reduceEqDiff, ↓reduceIte]) (by simp only [upd, ↓reduceIte])
        · obtain rfl : c = 256 := by omega
          refine awp_reg_seq ?_
          intro K hK
          simp only [↓DN, UP, DF, ashift, aconv, aindexAddr, aindex, aslice, abuiltin, AV.cells, AV.one, reduceCtorEq, ↓reduceIte, nLT, nLE, nEQ, nAdd, nMul, nPow, nSub, zLT, zLE, zNat, RAes11107, f6, decide_eq_false (show ¬ ((256 : Nat) : Int) < 256 by decide)]
          refine hK _ _ ?_
          clear hK K
          refine awp_cond_k ?_
          intro X Y hX hY
          simp only [↓DN, UP, DF, ashift, aconv, aindexAddr, aindex, aslice, abuiltin, AV.cells, AV.one, reduceCtorEq, ↓reduceIte, nLT, nLE, nEQ, nAdd, nMul, nPow, nSub, zLT, zLE, zNat, RAes11107, DB]
          refine hY ?_
          clear hX hY X Y
          refine awp_exit ?_
          simp only [thenQ, blockQ, if_true]
          clear hK2 K2
          refine hK1 _ _ ?_
          clear hK1 K1
          rw [fillI_full, show (List.range 256).map (fun n => Aes.sb.getD n 0) = Aes.sb from sb_range] at q5
          have hl5 : (intL Aes.sb).length = 256 := by rw [intL_len, Aes.sb_len]
          refine gwp_ghost (Ghost.freeze (d := 5) (o := o5) (off := 0) (sz := 1) (n := 256) (cap := 256) (by simp only [upd, Nat.reduceEqDiff, ↓reduceIte]; exact f5) q5 (by omega)) (AWp.g ?_)
          have hle3 : s.le (s3.drop o5) := AS.le_drop hle2 hs5
          generalize s3.drop o5 = s4 at *
          rw [show ((intL Aes.sb).drop 0).take (256 * 1) = intL Aes.sb from by rw [List.drop_zero, List.take_of_length_le (by omega)]]
          generalize intL Aes.sb = X at *
          refine awp_reg_seq ?_
          intro K hK
          simp only [↓DN, UP, DF, ashift, aconv, aindexAddr, aindex, aslice, abuiltin, AV.cells, AV.one, reduceCtorEq, ↓reduceIte, nLT, nLE, nEQ, nAdd, nMul, nPow, nSub, zLT, zLE, zNat, RAes11107]
          refine hK _ _ ?_
          clear hK K
          refine awp_ret ?_
          simp only [retQ, AEnds, aresL, ares, List.toList_toArray, ↓upd_same]; try simp only [↓DN, UP, DF, ashift, aconv, aindexAddr, aindex, aslice, abuiltin, AV.cells, AV.one, reduceCtorEq, ↓reduceIte, nLT, nLE, nEQ, nAdd, nMul, nPow, nSub, zLT, zLE, zNat, RAes11107, DT]
          exact ⟨_, s, AV.weak.refl _, hle3, rfl, rfl⟩

end Go.Proofs.YtooeklnbdgoneaaDoor


set_option autoImplicit false
namespace Go.Proofs.YtooeklnbdgoneaaDoor
open Go Go.AM Go.Proofs

theorem RAes12109 : type_of% (And.intro (And.intro (And.intro (And.intro (And.intro @Tryd.underlying3 T.c3) (And.intro T.g3 (And.intro T.b3 T.z3))) (And.intro (And.intro @Tryd.underlying5 T.c5) (And.intro T.g5 (And.intro T.b5 T.z5)))) (And.intro (And.intro (And.intro @Tryd.underlying9 T.c9) (And.intro T.g9 (And.intro T.b9 T.z9))) (And.intro (And.intro @Tryd.underlying140 (And.intro T.c140 T.g140)) (And.intro T.b140 (And.intro T.z140 T.s140))))) Tryd.ntmps109) :=
  (And.intro (And.intro (And.intro (And.intro (And.intro @Tryd.underlying3 T.c3) (And.intro T.g3 (And.intro T.b3 T.z3))) (And.intro (And.intro @Tryd.underlying5 T.c5) (And.intro T.g5 (And.intro T.b5 T.z5)))) (And.intro (And.intro (And.intro @Tryd.underlying9 T.c9) (And.intro T.g9 (And.intro T.b9 T.z9))) (And.intro (And.intro @Tryd.underlying140 (And.intro T.c140 T.g140)) (And.intro T.b140 (And.intro T.z140 T.s140))))) Tryd.ntmps109)

variable {Γ : Nat → List AV}

/-- Cells gathered in a slice of one's own. -/
def IOut (s : AS) (cs : List AV) (r : AV) (s' : AS) : Prop :=
  s.le s' ∧ ((cs = [] ∧ r = .v (.slice none 0 0)) ∨ ∃ t e, s.own t = none ∧ s'.own t = some e ∧ r = .sl 1 cs.length cs (.own t e))
theorem IOut.nil (s : AS) : IOut s [] (.v (.slice none 0 0)) s := ⟨AS.le.refl s, .inl ⟨rfl, rfl⟩⟩
theorem aappend_iout {P : Program} {e : TypeId} {K : AV → AS → Prop} {s s1 : AS} {cs : List AV} {x : AV} {r : AV} (h : IOut s cs r s1) (h1 : x.one = true) (he : P.cellsOf e = 1) (hb : P.bytesOf e = 8) (hlen : cs.length ≤ 2 ^ 40)
    (hk : ∀ r2 s2, IOut s (cs ++ [x]) r2 s2 → K r2 s2) : aappend P e r 1 [x] s1 K := by
  rcases h.2 with ⟨rfl, rfl⟩ | ⟨t, g, k1, k2, rfl⟩
  · rw [aappend_nil, if_neg (by decide), he, hb]
    refine ⟨by omega, by omega, fun t ht => hk _ _ ?_⟩
    refine ⟨AS.le_gain h.1 ?_ 0, .inr ⟨t, 0, ?_, AS.gain_own_same _ _ _, by simp⟩⟩
    all_goals
      cases hs : s.own t with
      | none => rfl
      | some g => rw [h.1.own t g hs] at ht; cases ht
  · rw [aappend_own, if_neg (by decide), he, hb]
    refine ⟨rfl, by omega, by omega, by simp [h1], k2, hk _ _ ?_⟩
    exact ⟨AS.le_gain h.1 k1 _, .inr ⟨t, g + 1, k1, AS.gain_own_same _ _ _, by simp⟩⟩

set_option maxHeartbeats 2000000 in
theorem refInts05_calls (l : List UInt8) (hl : l.length ≤ 1000) (s : AS) :
    ACalls Tryd.prog Γ 109 [.v (.string ⟨l.toArray⟩)] s (fun r s' => IOut s (intL l) r s') := by
  refine acalls_body Tryd.func109 rfl Tryd.ntmps109 Tryd.results109 (by simp) ?_
  refine awp_reg_seq ?_
  intro K hK
  simp only [↓DN, UP, DF, ashift, aconv, aindexAddr, aindex, aslice, abuiltin, AV.cells, AV.one, reduceCtorEq, ↓reduceIte, nLT, nLE, nEQ, nAdd, nMul, nPow, nSub, zLT, zLE, zNat, RAes12109]
  refine hK _ _ ?_
  clear hK K
  refine awp_reg_seq ?_
  intro K hK
  simp only [↓DN, UP, DF, ashift, aconv, aindexAddr, aindex, aslice, abuiltin, AV.cells, AV.one, reduceCtorEq, ↓reduceIte, nLT, nLE, nEQ, nAdd, nMul, nPow, nSub, zLT, zLE, zNat, RAes12109]
  refine hK _ _ ?_
  clear hK K
  refine awp_seq_k ?_
  intro K hK
  refine awp_reg_seq ?_
  intro K hK
  simp only [↓DN, UP, DF, ashift, aconv, aindexAddr, aindex, aslice, abuiltin, AV.cells, AV.one, reduceCtorEq, ↓reduceIte, nLT, nLE, nEQ, nAdd, nMul, nPow, nSub, zLT, zLE, zNat, RAes12109]
  refine hK _ _ ?_
  clear hK K
  refine awp_block ?_
  refine awp_loop (fun E s1 => ∃ i : Nat, i ≤ l.length ∧ E 0 = .v (.string ⟨l.toArray⟩) ∧ E 4 = nV i ∧ IOut s (intL (l.take i)) (E 3) s1)
    (fun E _ => match E 4 with | .v (.int _ i) => l.length - i.toNat | _ => 0) ?_ ?_
  · exact ⟨0, by omega, by simp only [upd, initE, Nat.reduceEqDiff, ↓reduceIte]; rfl, by simp only [upd, ↓reduceIte]; rfl, by simp only [upd, Nat.reduceEqDiff, ↓reduceIte, List.take_zero]; exact IOut.nil s⟩
  · rintro E1 s1 ⟨i, hi, e0, e4, hout⟩ -
    refine awp_seq_k ?_
    intro K2 hK2
    by_cases hi' : i < l.length
    · refine awp_reg_seq ?_
      intro K hK
      simp only [↓DN, UP, DF, ashift, aconv, aindexAddr, aindex, aslice, abuiltin, AV.cells, AV.one, reduceCtorEq, ↓reduceIte, nLT, nLE, nEQ, nAdd, nMul, nPow, nSub, zLT, zLE, zNat, RAes12109, e0, e4, bs_size, decide_eq_true (show (i : Int) < (l.length : Int) by omega)]
      refine hK _ _ ?_
      clear hK K
      refine awp_cond_k ?_
      intro X Y hX hY
      simp only [↓DN, UP, DF, ashift, aconv, aindexAddr, aindex, aslice, abuiltin, AV.cells, AV.one, reduceCtorEq, ↓reduceIte, nLT, nLE, nEQ, nAdd, nMul, nPow, nSub, zLT, zLE, zNat, RAes12109, DB]
      refine hX ?_
      clear hX hY X Y
      refine awp_skip ?_
      refine hK2 _ _ ?_
      clear hK2 K2
      refine awp_seq_k ?_
      intro K3 hK3
      refine awp_block ?_
      have hx : (ByteArray.mk l.toArray)[i]? = some (l.getD i 0) := by rw [bs_get l i hi']; simp [List.getElem?_eq_getElem hi']
      have htk : intL (l.take (i + 1)) = intL (l.take i) ++ [nV (l.getD i 0).toNat] := by
        rw [List.take_succ_eq_append_getElem hi', intL, List.map_append, show l.getD i 0 = l[i] by simp [List.getElem?_eq_getElem hi']]
        rfl
      have hcl : (intL (l.take i)).length ≤ 2 ^ 40 := by rw [intL_len, List.length_take]; omega
      generalize l.getD i 0 = x at *
      generalize hA' : intL (l.take (i + 1)) = A' at *
      generalize intL (l.take i) = A at *
      have m0 : (0 : Int) ≤ (i : Int) := by omega
      have hxi : iconv .i64 (x.toNat : Int) = ((x.toNat : Nat) : Int) := i64_conv (by have := x.toNat_lt; omega)
      refine awp_reg_end ?_
      intro K hK
      simp only [↓DN, UP, DF, ashift, aconv, aindexAddr, aindex, aslice, abuiltin, AV.cells, AV.one, reduceCtorEq, ↓reduceIte, nLT, nLE, nEQ, nAdd, nMul, nPow, nSub, zLT, zLE, zNat, RAes12109, e0, e4, m0, hx, byteV, hxi, List.replicate_one]
      refine aappend_iout hout rfl T.c3 T.b3 hcl ?_
      intro r2 s2 hout2
      refine hK _ _ ?_
      clear hK K
      simp only [blockQ, thenQ, if_true, if_false]
      refine hK3 _ _ ?_
      clear hK3 K3
      refine awp_reg_end ?_
      intro K hK
      simp only [↓DN, UP, DF, ashift, aconv, aindexAddr, aindex, aslice, abuiltin, AV.cells, AV.one, reduceCtorEq, ↓reduceIte, nLT, nLE, nEQ, nAdd, nMul, nPow, nSub, zLT, zLE, zNat, RAes12109, e4, w_succ i (by omega)]
      refine hK _ _ ?_
      clear hK K
      refine ⟨⟨i + 1, by omega, by simp only [upd, e0, Nat.reduceEqDiff, ↓reduceIte], by simp only [upd, ↓reduceIte], ?_⟩, ?_⟩
      · simp only [upd, Nat.reduceEqDiff, ↓reduceIte]
        rw [hA', htk]
        exact hout2
      · simp only [e4, upd, ↓reduceIte]
        omega
    · obtain rfl : i = l.length := by omega
      refine awp_reg_seq ?_
      intro K hK
      simp only [↓DN, UP, DF, ashift, aconv, aindexAddr, aindex, aslice, abuiltin, AV.cells, AV.one, reduceCtorEq, ↓reduceIte, nLT, nLE, nEQ, nAdd, nMul, nPow, nSub, zLT, zLE, zNat, RAes12109, e0, e4, bs_size, decide_eq_false (show ¬ (l.length : Int) < (l.length : Int) by omega)]
      refine hK _ _ ?_
      clear hK K
      refine awp_cond_k ?_
      intro X Y hX hY
      simp only [↓DN, UP, DF, ashift, aconv, aindexAddr, aindex, aslice, abuiltin, AV.cells, AV.one, reduceCtorEq, ↓reduceIte, nLT, nLE, nEQ, nAdd, nMul, nPow, nSub, zLT, zLE, zNat, RAes12109, DB]
      refine hY ?_
      clear hX hY X Y
      refine awp_exit ?_
      simp only [thenQ, blockQ, if_true]
      clear hK2 K2
      refine hK _ _ ?_
      clear hK K
      rw [List.take_length] at hout
      refine awp_reg_seq ?_
      intro K hK
      simp only [↓DN, UP, DF, ashift, aconv, aindexAddr, aindex, aslice, abuiltin, AV.cells, AV.one, reduceCtorEq, ↓reduceIte, nLT, nLE, nEQ, nAdd, nMul, nPow, nSub, zLT, zLE, zNat, RAes12109]
      refine hK _ _ ?_
      clear hK K
      refine awp_ret ?_
      simp only [retQ, AEnds, aresL, ares, List.toList_toArray, ↓upd_same]; try simp only [↓DN, UP, DF, ashift, aconv, aindexAddr, aindex, aslice, abuiltin, AV.cells, AV.one, reduceCtorEq, ↓reduceIte, nLT, nLE, nEQ, nAdd, nMul, nPow, nSub, zLT, zLE, zNat, RAes12109, DT]
      exact ⟨_, _, AV.weak.refl _, AS.le.refl _, hout⟩

end Go.Proofs.YtooeklnbdgoneaaDoor


