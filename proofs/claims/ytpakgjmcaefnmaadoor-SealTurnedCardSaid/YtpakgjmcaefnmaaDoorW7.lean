/- Contracts of the program's functions, each walked once; the conditions stand in each theorem. -/
import Derived.Test.YtpakgjmcaefnmaaDoorAMp6
import Derived.Test.YtpakgjmcaefnmaaDoorW6
set_option linter.unusedSimpArgs false
set_option linter.unusedVariables false
open Nat renaming reduceLT → nLT, reduceLeDiff → nLE, reduceEqDiff → nEQ, reduceAdd → nAdd, reduceMul → nMul, reducePow → nPow, reduceSub → nSub
open Int renaming reduceLT → zLT, reduceLE → zLE, reduceToNat → zNat
set_option autoImplicit false
namespace Go.Proofs.YtpakgjmcaefnmaaDoor
open Go Go.AM Go.Proofs

theorem RAes8160 : type_of% (And.intro (And.intro (And.intro (And.intro (And.intro @Tryd.underlying3 (And.intro T.c3 T.g3)) (And.intro T.b3 (And.intro T.z3 @Tryd.underlying5))) (And.intro (And.intro T.c5 (And.intro T.g5 T.b5)) (And.intro T.z5 (And.intro @Tryd.underlying157 T.c157)))) (And.intro (And.intro (And.intro T.g157 (And.intro T.b157 T.z157)) (And.intro @Tryd.underlying165 (And.intro T.c165 T.g165))) (And.intro (And.intro T.b165 (And.intro @Tryd.underlying167 T.c167)) (And.intro T.g167 (And.intro T.b167 T.k166))))) Tryd.ntmps160) :=
  (And.intro (And.intro (And.intro (And.intro (And.intro @Tryd.underlying3 (And.intro T.c3 T.g3)) (And.intro T.b3 (And.intro T.z3 @Tryd.underlying5))) (And.intro (And.intro T.c5 (And.intro T.g5 T.b5)) (And.intro T.z5 (And.intro @Tryd.underlying157 T.c157)))) (And.intro (And.intro (And.intro T.g157 (And.intro T.b157 T.z157)) (And.intro @Tryd.underlying165 (And.intro T.c165 T.g165))) (And.intro (And.intro T.b165 (And.intro @Tryd.underlying167 T.c167)) (And.intro T.g167 (And.intro T.b167 T.k166))))) Tryd.ntmps160)

variable {Γ : Nat → List AV}

set_option maxHeartbeats 8000000 in
set_option maxRecDepth 100000 in
theorem expandA_calls (key : List UInt8) (hk : key.length = 16) (s : AS) :
    ACalls Tryd.prog Γ 160 [.agg (key.map byteV), .agg (Aes.sb.map byteV)] s (fun r s' => r = .agg ((keysL key).map byteV) ∧ s' = s) := by
  refine acalls_body Tryd.func160 rfl Tryd.ntmps160 Tryd.results160 (by simp) ?_
  have hkl : (key.map byteV).length = 16 := by rw [List.length_map, hk]
  have hktk : List.take 16 (key.map byteV) = key.map byteV := List.take_of_length_le (by omega)
  have hkall := all_bytes key
  have hsl : (Aes.sb.map byteV).length = 256 := by rw [List.length_map, Aes.sb_len]
  refine awp_reg_seq ?_
  intro K hK
  simp only [↓DN, UP, DF, ashift, aconv, aindexAddr, aindex, aslice, abuiltin, AV.cells, AV.one, reduceCtorEq, ↓reduceIte, nLT, nLE, nEQ, nAdd, nMul, nPow, nSub, zLT, zLE, zNat, RAes8160, z167]
  intro o2 ho2 o3 ho3
  obtain ⟨h32, ho3'⟩ := AS.fresh_set ho3
  intro o4 ho4
  obtain ⟨h43, h42, ho4'⟩ := fresh_two ho4
  refine hK _ _ ?_
  clear hK K
  refine awp_reg_seq ?_
  intro K hK
  simp only [↓DN, UP, DF, ashift, aconv, aindexAddr, aindex, aslice, abuiltin, AV.cells, AV.one, reduceCtorEq, ↓reduceIte, nLT, nLE, nEQ, nAdd, nMul, nPow, nSub, zLT, zLE, zNat, RAes8160, z167]
  intro o5 ho5
  obtain ⟨h54, h53, h52, ho5'⟩ := fresh_three ho5
  refine hK _ _ ?_
  clear hK K
  generalize hs0 : (((s.set o2 (key.map byteV)).set o3 (Aes.sb.map byteV)).set o4 (List.replicate 176 (bV 0))).set o5 (List.replicate 176 (bV 0)) = s0 at *
  have j2 : s0.objs o2 = some (key.map byteV) := by rw [← hs0, AS.set_objs_ne _ h52.symm, AS.set_objs_ne _ h42.symm, AS.set_objs_ne _ h32.symm, AS.set_objs_same]
  have j3 : s0.objs o3 = some (Aes.sb.map byteV) := by rw [← hs0, AS.set_objs_ne _ h53.symm, AS.set_objs_ne _ h43.symm, AS.set_objs_same]
  have j4 : s0.objs o4 = some (List.replicate 176 (bV 0)) := by rw [← hs0, AS.set_objs_ne _ h54.symm, AS.set_objs_same]
  have j5 : s0.objs o5 = some (List.replicate 176 (bV 0)) := by rw [← hs0]; exact AS.set_objs_same _ _ _
  have hle : s.le s0 := by rw [← hs0]; exact AS.le_set (AS.le_set (AS.le_set (AS.le_set (AS.le.refl s) ho2 _) ho3' _) ho4' _) ho5' _
  clear hs0 ho3 ho4 ho5
  have hzl : (List.replicate 176 (bV 0)).length = 176 := by simp
  rw [← fillG_nought (Aes.ak key) 176] at j5
  generalize List.replicate 176 (bV 0) = Z at *
  have hblit := fillG_blit (Aes.ak key) (fun _ => 0) 176 key 0 (fun k h => by rw [Nat.zero_add, Aes.ak_key k (by omega)])
  rw [Nat.zero_add, hk] at hblit
  have hl0 := fillG_len (Aes.ak key) (fun _ => 0) 176 0
  generalize fillG (Aes.ak key) (fun _ => 0) 176 0 = R0 at *
  refine awp_reg_seq ?_
  intro K hK
  simp only [↓DN, UP, DF, ashift, aconv, aindexAddr, aindex, aslice, abuiltin, AV.cells, AV.one, reduceCtorEq, ↓reduceIte, nLT, nLE, nEQ, nAdd, nMul, nPow, nSub, zLT, zLE, zNat, RAes8160, j2, j5, hkl, hktk, hkall, hl0, hblit, h52, h52.symm, show (0 : Int) < ((11 : Nat) : Int) from by decide]
  refine hK _ _ ?_
  clear hK K hblit
  generalize hs1 : s0.set o5 (fillG (Aes.ak key) (fun _ => 0) 176 16) = s1 at *
  have q3 : s1.objs o3 = some (Aes.sb.map byteV) := by rw [← hs1, AS.set_objs_ne _ h53.symm]; exact j3
  have q4 : s1.objs o4 = some Z := by rw [← hs1, AS.set_objs_ne _ h54.symm]; exact j4
  have q5 : s1.objs o5 = some (fillG (Aes.ak key) (fun _ => 0) 176 16) := by rw [← hs1]; exact AS.set_objs_same _ _ _
  have hle1 : s.le s1 := by rw [← hs1]; exact AS.le_set hle ho5' _
  clear hs1 j2 j3 j4 j5 hle
  refine awp_reg_seq ?_
  intro K hK
  simp only [↓DN, UP, DF, ashift, aconv, aindexAddr, aindex, aslice, abuiltin, AV.cells, AV.one, reduceCtorEq, ↓reduceIte, nLT, nLE, nEQ, nAdd, nMul, nPow, nSub, zLT, zLE, zNat, RAes8160]
  refine hK _ _ ?_
  clear hK K
  refine awp_seq_k ?_
  intro K hK
  refine awp_reg_seq ?_
  intro K hK
  simp only [↓DN, UP, DF, ashift, aconv, aindexAddr, aindex, aslice, abuiltin, AV.cells, AV.one, reduceCtorEq, ↓reduceIte, nLT, nLE, nEQ, nAdd, nMul, nPow, nSub, zLT, zLE, zNat, RAes8160]
  refine hK _ _ ?_
  clear hK K
  refine awp_block ?_
  refine awp_loop (fun E s2 => ∃ q : Nat, q ≤ 10 ∧ E 3 = .ptr o3 0 ∧ E 4 = .ptr o4 0 ∧ E 5 = .ptr o5 0 ∧ E 6 = bV (Aes.pwr q) ∧ E 7 = .v (.int .i64 ((q + 1 : Nat) : Int)) ∧ s2.objs o3 = some (Aes.sb.map byteV) ∧ s2.objs o4 = some Z ∧ s2.objs o5 = some (fillG (Aes.ak key) (fun _ => 0) 176 ((q + 1) * 16)) ∧ s.le s2)
    (fun E _ => match E 7 with | .v (.int _ i) => 11 - i.toNat | _ => 0) ?_ ?_
  · exact ⟨0, by omega, by simp only [upd, Nat.reduceEqDiff, ↓reduceIte], by simp only [upd, Nat.reduceEqDiff, ↓reduceIte], by simp only [upd, Nat.reduceEqDiff, ↓reduceIte], by simp only [upd, Nat.reduceEqDiff, ↓reduceIte]; rfl, by simp only [upd, ↓reduceIte]; rfl, q3, q4, q5, hle1⟩
  · clear q3 q4 q5 hle1
    rintro E1 s2 ⟨q, hq, e3, e4, e5, e6, e7, j3, j4, j5, hle⟩ -
    refine awp_seq_k ?_
    intro K2 hK2
    by_cases hq' : q < 10
    · have hl := Aes.kr_len hk q
      refine awp_reg_seq ?_
      intro K hK
      simp only [↓DN, UP, DF, ashift, aconv, aindexAddr, aindex, aslice, abuiltin, AV.cells, AV.one, reduceCtorEq, ↓reduceIte, nLT, nLE, nEQ, nAdd, nMul, nPow, nSub, zLT, zLE, zNat, RAes8160, e7, decide_eq_true (show ((q + 1 : Nat) : Int) ≤ 10 by omega)]
      refine hK _ _ ?_
      clear hK K
      refine awp_cond_k ?_
      intro X Y hX hY
      simp only [↓DN, UP, DF, ashift, aconv, aindexAddr, aindex, aslice, abuiltin, AV.cells, AV.one, reduceCtorEq, ↓reduceIte, nLT, nLE, nEQ, nAdd, nMul, nPow, nSub, zLT, zLE, zNat, RAes8160, DB]
      refine hX ?_
      clear hX hY X Y
      refine awp_skip ?_
      refine hK2 _ _ ?_
      clear hK2 K2
      refine awp_seq_k ?_
      intro K3 hK3
      refine awp_block ?_
      have hld := keys_take key hk (fun _ => 0) q ((q + 1) * 16) (by omega) (Nat.le_refl _)
      have hsub : isub .i64 ((q + 1 : Nat) : Int) 1 = ((q : Nat) : Int) := i64_sub (q + 1) 1 (by omega) (by omega)
      have hfl := fillG_len (Aes.ak key) (fun _ => 0) 176 ((q + 1) * 16)
      have hWl : ((Aes.kr key q).map byteV).length = 16 := by rw [List.length_map, hl]
      have hWall := all_bytes (Aes.kr key q)
      have k0 : (0 : Int) ≤ ((q : Nat) : Int) := by omega
      have k1 : ((q : Nat) : Int) < ((11 : Nat) : Int) := by omega
      have k2 : q * 16 + 16 ≤ 176 := by omega
      have hdl : 16 ≤ (List.drop (q * 16) (fillG (Aes.ak key) (fun _ => 0) 176 ((q + 1) * 16))).length := by rw [List.length_drop, hfl]; omega
      generalize hO : fillG (Aes.ak key) (fun _ => 0) 176 ((q + 1) * 16) = O at *
      generalize hW : (Aes.kr key q).map byteV = W at *
      refine awp_reg_seq ?_
      intro K hK
      simp only [↓DN, UP, DF, ashift, aconv, aindexAddr, aindex, aslice, abuiltin, AV.cells, AV.one, reduceCtorEq, ↓reduceIte, nLT, nLE, nEQ, nAdd, nMul, nPow, nSub, zLT, zLE, zNat, RAes8160, e5, e7, hsub, j5, hld, hWl, hWall, k0, k1, k2, hfl, hdl, Nat.le_refl]
      intro o8 ho8
      rw [z16, asetAll_whole (List.replicate 16 (bV 0)) W (by rw [hWl]; simp)]
      refine hK _ _ ?_
      clear hK K
      have n83 : o8 ≠ o3 := fun e => by rw [e, j3] at ho8; cases ho8
      have n84 : o8 ≠ o4 := fun e => by rw [e, j4] at ho8; cases ho8
      have n85 : o8 ≠ o5 := fun e => by rw [e, j5] at ho8; cases ho8
      have hs8 : s.objs o8 = none := by
        cases h : s.objs o8 with
        | none => rfl
        | some cs => rw [hle.objs _ _ h] at ho8; cases ho8
      generalize hs3 : s2.set o8 W = s3 at *
      have q3 : s3.objs o3 = some (Aes.sb.map byteV) := by rw [← hs3, AS.set_objs_ne _ n83.symm]; exact j3
      have q4 : s3.objs o4 = some Z := by rw [← hs3, AS.set_objs_ne _ n84.symm]; exact j4
      have q5 : s3.objs o5 = some O := by rw [← hs3, AS.set_objs_ne _ n85.symm]; exact j5
      have q8 : s3.objs o8 = some W := by rw [← hs3]; exact AS.set_objs_same _ _ _
      have hle3 : s.le s3 := by rw [← hs3]; exact AS.le_set hle hs8 _
      clear hs3 j3 j4 j5 ho8 hle
      have k3 : (0 : Int) ≤ ((q + 1 : Nat) : Int) := by omega
      have k4 : ((q + 1 : Nat) : Int) < ((11 : Nat) : Int) := by omega
      refine awp_reg_seq ?_
      intro K hK
      simp only [↓DN, UP, DF, ashift, aconv, aindexAddr, aindex, aslice, abuiltin, AV.cells, AV.one, reduceCtorEq, ↓reduceIte, nLT, nLE, nEQ, nAdd, nMul, nPow, nSub, zLT, zLE, zNat, RAes8160, e5, e7, k3, k4]
      refine hK _ _ ?_
      clear hK K
      rw [← hO, ← akP_fill key (fun _ => 0) q] at q5
      clear hld hfl hdl hO O
      refine awp_seq_k ?_
      intro K4 hK4
      refine awp_reg_seq ?_
      intro K hK
      simp only [↓DN, UP, DF, ashift, aconv, aindexAddr, aindex, aslice, abuiltin, AV.cells, AV.one, reduceCtorEq, ↓reduceIte, nLT, nLE, nEQ, nAdd, nMul, nPow, nSub, zLT, zLE, zNat, RAes8160]
      refine hK _ _ ?_
      clear hK K
      refine awp_block ?_
      refine awp_loop (fun E s4 => ∃ i : Nat, i ≤ 4 ∧ E 3 = .ptr o3 0 ∧ E 4 = .ptr o4 0 ∧ E 5 = .ptr o5 0 ∧ E 6 = bV (Aes.pwr q) ∧ E 7 = .v (.int .i64 ((q + 1 : Nat) : Int)) ∧ E 8 = .ptr o8 0 ∧ E 9 = .ptr o5 ((q + 1) * 16) ∧ E 24 = .v (.int .i64 i) ∧ s4.objs o3 = some (Aes.sb.map byteV) ∧ s4.objs o4 = some Z ∧ s4.objs o5 = some (fillG (akP key q) (fun _ => 0) 176 ((q + 1) * 16 + i)) ∧ s4.objs o8 = some W ∧ s.le s4)
        (fun E _ => match E 24 with | .v (.int _ i) => 4 - i.toNat | _ => 0) ?_ ?_
      · exact ⟨0, by omega, by simp only [upd, e3, Nat.reduceEqDiff, ↓reduceIte], by simp only [upd, e4, Nat.reduceEqDiff, ↓reduceIte], by simp only [upd, e5, Nat.reduceEqDiff, ↓reduceIte], by simp only [upd, e6, Nat.reduceEqDiff, ↓reduceIte], by simp only [upd, e7, Nat.reduceEqDiff, ↓reduceIte], by simp only [upd, Nat.reduceEqDiff, ↓reduceIte], by simp only [upd, Nat.reduceEqDiff, ↓reduceIte], by simp only [upd, ↓reduceIte]; rfl, q3, q4, q5, q8, hle3⟩
      · clear q3 q4 q5 q8 hle3
        rintro E4 s4 ⟨i, hi, g3, g4, g5, g6, g7, g8, g9, g24, q3, q4, q5, q8, hle3⟩ -
        by_cases hi' : i < 4
        · refine awp_reg_seq ?_
          intro K hK
          simp only [↓DN, UP, DF, ashift, aconv, aindexAddr, aindex, aslice, abuiltin, AV.cells, AV.one, reduceCtorEq, ↓reduceIte, nLT, nLE, nEQ, nAdd, nMul, nPow, nSub, zLT, zLE, zNat, RAes8160, g24, decide_eq_true (show (i : Int) < 4 by omega)]
          refine hK _ _ ?_
          clear hK K
          refine awp_seq_k ?_
          intro K6 hK6
          refine awp_cond_k ?_
          intro X Y hX hY
          simp only [↓DN, UP, DF, ashift, aconv, aindexAddr, aindex, aslice, abuiltin, AV.cells, AV.one, reduceCtorEq, ↓reduceIte, nLT, nLE, nEQ, nAdd, nMul, nPow, nSub, zLT, zLE, zNat, RAes8160, DB]
          refine hX ?_
          clear hX hY X Y
          refine awp_skip ?_
          refine hK6 _ _ ?_
          clear hK6 K6
          refine awp_seq_k ?_
          intro K7 hK7
          refine awp_block ?_
          refine awp_reg_seq ?_
          intro K hK
          simp only [↓DN, UP, DF, ashift, aconv, aindexAddr, aindex, aslice, abuiltin, AV.cells, AV.one, reduceCtorEq, ↓reduceIte, nLT, nLE, nEQ, nAdd, nMul, nPow, nSub, zLT, zLE, zNat, RAes8160, g24]
          refine hK _ _ ?_
          clear hK K
          have hset := fillG_set (akP key q) (fun _ => 0) 176 ((q + 1) * 16 + i) _ (akP_low key hk q i hi')
          have hlen := fillG_len (akP key q) (fun _ => 0) 176 ((q + 1) * 16 + i)
          have a1 := add_c1 i (by omega)
          have a2 := rem4 (i + 1)
          have a3 := add12 ((i + 1) % 4) (by omega)
          have d0 := bytes_drop (l := Aes.kr key q) i (by omega)
          have d1 := bytes_drop (l := Aes.kr key q) (12 + (i + 1) % 4) (by omega)
          rw [hW] at d0 d1
          have m0 : (0 : Int) ≤ (i : Int) := by omega
          have m1 : (i : Int) < ((16 : Nat) : Int) := by omega
          have m2 : (0 : Int) ≤ ((12 + (i + 1) % 4 : Nat) : Int) := by omega
          have m3 : ((12 + (i + 1) % 4 : Nat) : Int) < ((16 : Nat) : Int) := by omega
          have mc : (q + 1) * 16 + i + 1 ≤ 176 := by omega
          have mc2 : (q + 1) * 16 + i < 176 := by omega
          generalize hR' : fillG (akP key q) (fun _ => 0) 176 ((q + 1) * 16 + i + 1) = R' at *
          generalize fillG (akP key q) (fun _ => 0) 176 ((q + 1) * 16 + i) = R at *
          generalize 12 + (i + 1) % 4 = m at *
          have hx := ((Aes.kr key q).getD m 0).toNat_lt
          have ds := bytes_drop (l := Aes.sb) ((Aes.kr key q).getD m 0).toNat (by rw [Aes.sb_len]; omega)
          rw [S_at] at ds
          generalize Aes.S ((Aes.kr key q).getD m 0) = y at *
          generalize (Aes.kr key q).getD m 0 = x at *
          generalize (Aes.kr key q).getD i 0 = v at *
          have m4 : (0 : Int) ≤ ((x.toNat : Nat) : Int) := by omega
          have m5 : ((x.toNat : Nat) : Int) < ((256 : Nat) : Int) := by omega
          generalize hY2 : Aes.sb.map byteV = Y2 at *
          refine awp_mrk_end T.mixed [(o8, W), (o3, Y2), (o5, R)] [] [4, 10, 12] [16] (by kernel_rfl) (by simp only [Pres_cons, Pres_nil, and_true]; simp [AS.set, upd, q3, q5, q8]) ?_
          intro K hK
          simp only [↓AXr_nil, ↓AXr_cons, gval, lval, fzGet_cons, fzGet_nil, Pres_cons, Pres_nil, List.any_cons, List.any_nil, List.contains_cons, List.contains_nil, Nat.reduceBEq, Bool.or_false, Bool.or_true, Bool.or_self, Bool.false_or, ↓DN, UP, DF, ashift, aconv, aindexAddr, aindex, aslice, abuiltin, AV.cells, AV.one, reduceCtorEq, ↓reduceIte, nLT, nLE, nEQ, nAdd, nMul, nPow, nSub, zLT, zLE, zNat, RAes8160, g3, g5, g8, g9, g24, m0, m1, m2, m3, m4, m5, mc, mc2, d0, d1, ds, a1, a2, a3, four_ne, n83, n83.symm, n85, n85.symm, h53, h53.symm, q3, q5, q8, byteV, b_xor, hset, hlen, hWl, hsl]
          refine hK _ _ ?_
          clear hK K
          simp only [blockQ, thenQ, if_true, if_false]
          refine hK7 _ _ ?_
          clear hK7 K7
          refine awp_reg_end ?_
          intro K hK
          simp only [↓DN, UP, DF, ashift, aconv, aindexAddr, aindex, aslice, abuiltin, AV.cells, AV.one, reduceCtorEq, ↓reduceIte, nLT, nLE, nEQ, nAdd, nMul, nPow, nSub, zLT, zLE, zNat, RAes8160, g24, w_succ i (by omega)]
          refine hK _ _ ?_
          clear hK K
          refine ⟨⟨i + 1, by omega, by simp only [upd, g3, Nat.reduceEqDiff, ↓reduceIte], by simp only [upd, g4, Nat.reduceEqDiff, ↓reduceIte], by simp only [upd, g5, Nat.reduceEqDiff, ↓reduceIte], by simp only [upd, g6, Nat.reduceEqDiff, ↓reduceIte], by simp only [upd, g7, Nat.reduceEqDiff, ↓reduceIte], by simp only [upd, g8, Nat.reduceEqDiff, ↓reduceIte], by simp only [upd, g9, Nat.reduceEqDiff, ↓reduceIte], by simp only [upd, ↓reduceIte], by rw [AS.set_objs_ne _ h53.symm, q3], by rw [AS.set_objs_ne _ h54.symm]; exact q4, by rw [show (q + 1) * 16 + (i + 1) = (q + 1) * 16 + i + 1 from rfl, hR']; exact AS.set_objs_same _ _ _, by rw [AS.set_objs_ne _ n85]; exact q8, AS.le_set hle3 ho5' _⟩, ?_⟩
          simp only [g24, upd, ↓reduceIte]
          omega
        · obtain rfl : i = 4 := by omega
          refine awp_reg_seq ?_
          intro K hK
          simp only [↓DN, UP, DF, ashift, aconv, aindexAddr, aindex, aslice, abuiltin, AV.cells, AV.one, reduceCtorEq, ↓reduceIte, nLT, nLE, nEQ, nAdd, nMul, nPow, nSub, zLT, zLE, zNat, RAes8160, g24, decide_eq_false (show ¬ ((4 : Nat) : Int) < 4 by decide)]
          refine hK _ _ ?_
          clear hK K
          refine awp_seq_k ?_
          intro K6 hK6
          refine awp_cond_k ?_
          intro X Y hX hY
          simp only [↓DN, UP, DF, ashift, aconv, aindexAddr, aindex, aslice, abuiltin, AV.cells, AV.one, reduceCtorEq, ↓reduceIte, nLT, nLE, nEQ, nAdd, nMul, nPow, nSub, zLT, zLE, zNat, RAes8160, DB]
          refine hY ?_
          clear hX hY X Y
          refine awp_exit ?_
          simp only [thenQ, blockQ, if_true]
          clear hK6 K6
          refine hK4 _ _ ?_
          clear hK4 K4
          have hfix := akP_fix key (fun _ => 0) q hq'
          have hd0 := fillG_drop (akP key q) (fun _ => 0) 176 ((q + 1) * 16 + 4) ((q + 1) * 16) (by omega)
          rw [if_pos (by omega)] at hd0
          have hlen := fillG_len (akP key q) (fun _ => 0) 176 ((q + 1) * 16 + 4)
          generalize hR' : fillG (Aes.ak key) (fun _ => 0) 176 ((q + 1) * 16 + 4) = R' at *
          generalize fillG (akP key q) (fun _ => 0) 176 ((q + 1) * 16 + 4) = R at *
          generalize akP key q ((q + 1) * 16) = x at *
          have mc : (q + 1) * 16 + 1 ≤ 176 := by omega
          have mc2 : (q + 1) * 16 < 176 := by omega
          refine awp_mrk_seq T.mixed [(o5, R)] [] [3] [8] (by kernel_rfl) (by simp only [Pres_cons, Pres_nil, and_true]; simp [AS.set, upd, q5]) ?_
          intro K hK
          simp only [↓AXr_nil, ↓AXr_cons, gval, lval, fzGet_cons, fzGet_nil, Pres_cons, Pres_nil, List.any_cons, List.any_nil, List.contains_cons, List.contains_nil, Nat.reduceBEq, Bool.or_false, Bool.or_true, Bool.or_self, Bool.false_or, ↓DN, UP, DF, ashift, aconv, aindexAddr, aindex, aslice, abuiltin, AV.cells, AV.one, reduceCtorEq, ↓reduceIte, nLT, nLE, nEQ, nAdd, nMul, nPow, nSub, zLT, zLE, zNat, RAes8160, g6, g9, mc, mc2, q5, hd0, byteV, b_xor, hfix, hlen, show (0 : Int) < ((16 : Nat) : Int) from by decide]
          refine hK _ _ ?_
          clear hK K
          generalize hs5 : s4.set o5 R' = s5 at *
          have t3 : s5.objs o3 = some (Aes.sb.map byteV) := by rw [← hs5, AS.set_objs_ne _ h53.symm]; exact q3
          have t4 : s5.objs o4 = some Z := by rw [← hs5, AS.set_objs_ne _ h54.symm]; exact q4
          have t5 : s5.objs o5 = some R' := by rw [← hs5]; exact AS.set_objs_same _ _ _
          have t8 : s5.objs o8 = some W := by rw [← hs5, AS.set_objs_ne _ n85]; exact q8
          have hle5 : s.le s5 := by rw [← hs5]; exact AS.le_set hle3 ho5' _
          clear hs5 q3 q4 q5 q8 hle3 hd0 hfix hlen
          rw [← hR'] at t5
          clear hR' R'
          refine awp_seq_k ?_
          intro K4 hK4
          refine awp_reg_seq ?_
          intro K hK
          simp only [↓DN, UP, DF, ashift, aconv, aindexAddr, aindex, aslice, abuiltin, AV.cells, AV.one, reduceCtorEq, ↓reduceIte, nLT, nLE, nEQ, nAdd, nMul, nPow, nSub, zLT, zLE, zNat, RAes8160]
          refine hK _ _ ?_
          clear hK K
          refine awp_block ?_
          refine awp_loop (fun E s6 => ∃ i : Nat, 4 ≤ i ∧ i ≤ 16 ∧ E 3 = .ptr o3 0 ∧ E 4 = .ptr o4 0 ∧ E 5 = .ptr o5 0 ∧ E 6 = bV (Aes.pwr q) ∧ E 7 = .v (.int .i64 ((q + 1 : Nat) : Int)) ∧ E 8 = .ptr o8 0 ∧ E 9 = .ptr o5 ((q + 1) * 16) ∧ E 11 = .v (.int .i64 i) ∧ s6.objs o3 = some (Aes.sb.map byteV) ∧ s6.objs o4 = some Z ∧ s6.objs o5 = some (fillG (Aes.ak key) (fun _ => 0) 176 ((q + 1) * 16 + i)) ∧ s6.objs o8 = some W ∧ s.le s6)
            (fun E _ => match E 11 with | .v (.int _ i) => 16 - i.toNat | _ => 0) ?_ ?_
          · exact ⟨4, by omega, by omega, by simp only [upd, g3, Nat.reduceEqDiff, ↓reduceIte], by simp only [upd, g4, Nat.reduceEqDiff, ↓reduceIte], by simp only [upd, g5, Nat.reduceEqDiff, ↓reduceIte], by simp only [upd, g6, Nat.reduceEqDiff, ↓reduceIte], by simp only [upd, g7, Nat.reduceEqDiff, ↓reduceIte], by simp only [upd, g8, Nat.reduceEqDiff, ↓reduceIte], by simp only [upd, g9, Nat.reduceEqDiff, ↓reduceIte], by simp only [upd, ↓reduceIte]; rfl, t3, t4, t5, t8, hle5⟩
          · clear t3 t4 t5 t8 hle5 g3 g4 g5 g6 g7 g8 g9
            rintro E6 s6 ⟨i, hi4, hi, g3, g4, g5, g6, g7, g8, g9, g11, t3, t4, t5, t8, hle5⟩ -
            refine awp_seq_k ?_
            intro K6 hK6
            by_cases hi' : i < 16
            · refine awp_reg_seq ?_
              intro K hK
              simp only [↓DN, UP, DF, ashift, aconv, aindexAddr, aindex, aslice, abuiltin, AV.cells, AV.one, reduceCtorEq, ↓reduceIte, nLT, nLE, nEQ, nAdd, nMul, nPow, nSub, zLT, zLE, zNat, RAes8160, g11, decide_eq_true (show (i : Int) < 16 by omega)]
              refine hK _ _ ?_
              clear hK K
              refine awp_cond_k ?_
              intro X Y hX hY
              simp only [↓DN, UP, DF, ashift, aconv, aindexAddr, aindex, aslice, abuiltin, AV.cells, AV.one, reduceCtorEq, ↓reduceIte, nLT, nLE, nEQ, nAdd, nMul, nPow, nSub, zLT, zLE, zNat, RAes8160, DB]
              refine hX ?_
              clear hX hY X Y
              refine awp_skip ?_
              refine hK6 _ _ ?_
              clear hK6 K6
              refine awp_seq_k ?_
              intro K7 hK7
              refine awp_block ?_
              have hset := fillG_set (Aes.ak key) (fun _ => 0) 176 ((q + 1) * 16 + i) _ (ak_high16 key hk q i hi4 hi')
              have hlen := fillG_len (Aes.ak key) (fun _ => 0) 176 ((q + 1) * 16 + i)
              have a1 : isub .i64 (i : Int) 4 = ((i - 4 : Nat) : Int) := i64_sub i 4 hi4 (by omega)
              have d0 := bytes_drop (l := Aes.kr key q) i (by omega)
              rw [hW] at d0
              have d1 := fillG_drop (Aes.ak key) (fun _ => 0) 176 ((q + 1) * 16 + i) ((q + 1) * 16 + (i - 4)) (by omega)
              rw [if_pos (by omega)] at d1
              have m0 : (0 : Int) ≤ (i : Int) := by omega
              have m1 : (i : Int) < ((16 : Nat) : Int) := by omega
              have m2 : (0 : Int) ≤ ((i - 4 : Nat) : Int) := by omega
              have m3 : ((i - 4 : Nat) : Int) < ((16 : Nat) : Int) := by omega
              have mc : (q + 1) * 16 + i + 1 ≤ 176 := by omega
              have mc2 : (q + 1) * 16 + i < 176 := by omega
              generalize hR' : fillG (Aes.ak key) (fun _ => 0) 176 ((q + 1) * 16 + i + 1) = R' at *
              generalize fillG (Aes.ak key) (fun _ => 0) 176 ((q + 1) * 16 + i) = R at *
              generalize Aes.ak key ((q + 1) * 16 + (i - 4)) = x at *
              generalize (Aes.kr key q).getD i 0 = v at *
              refine awp_mrk_end T.mixed [(o8, W), (o5, R)] [] [4, 10] [14] (by kernel_rfl) (by simp only [Pres_cons, Pres_nil, and_true]; simp [AS.set, upd, t5, t8]) ?_
              intro K hK
              simp only [↓AXr_nil, ↓AXr_cons, gval, lval, fzGet_cons, fzGet_nil, Pres_cons, Pres_nil, List.any_cons, List.any_nil, List.contains_cons, List.contains_nil, Nat.reduceBEq, Bool.or_false, Bool.or_true, Bool.or_self, Bool.false_or, ↓DN, UP, DF, ashift, aconv, aindexAddr, aindex, aslice, abuiltin, AV.cells, AV.one, reduceCtorEq, ↓reduceIte, nLT, nLE, nEQ, nAdd, nMul, nPow, nSub, zLT, zLE, zNat, RAes8160, g5, g8, g9, g11, m0, m1, m2, m3, mc, mc2, d0, d1, a1, n85, n85.symm, t5, t8, byteV, b_xor, hset, hlen, hWl]
              refine hK _ _ ?_
              clear hK K
              simp only [blockQ, thenQ, if_true, if_false]
              refine hK7 _ _ ?_
              clear hK7 K7
              refine awp_reg_end ?_
              intro K hK
              simp only [↓DN, UP, DF, ashift, aconv, aindexAddr, aindex, aslice, abuiltin, AV.cells, AV.one, reduceCtorEq, ↓reduceIte, nLT, nLE, nEQ, nAdd, nMul, nPow, nSub, zLT, zLE, zNat, RAes8160, g11, w_succ i (by omega)]
              refine hK _ _ ?_
              clear hK K
              refine ⟨⟨i + 1, by omega, by omega, by simp only [upd, g3, Nat.reduceEqDiff, ↓reduceIte], by simp only [upd, g4, Nat.reduceEqDiff, ↓reduceIte], by simp only [upd, g5, Nat.reduceEqDiff, ↓reduceIte], by simp only [upd, g6, Nat.reduceEqDiff, ↓reduceIte], by simp only [upd, g7, Nat.reduceEqDiff, ↓reduceIte], by simp only [upd, g8, Nat.reduceEqDiff, ↓reduceIte], by simp only [upd, g9, Nat.reduceEqDiff, ↓reduceIte], by simp only [upd, ↓reduceIte], by rw [AS.set_objs_ne _ h53.symm]; exact t3, by rw [AS.set_objs_ne _ h54.symm]; exact t4, by rw [show (q + 1) * 16 + (i + 1) = (q + 1) * 16 + i + 1 from rfl, hR']; exact AS.set_objs_same _ _ _, by rw [AS.set_objs_ne _ n85]; exact t8, AS.le_set hle5 ho5' _⟩, ?_⟩
              simp only [g11, upd, ↓reduceIte]
              omega
            · obtain rfl : i = 16 := by omega
              refine awp_reg_seq ?_
              intro K hK
              simp only [↓DN, UP, DF, ashift, aconv, aindexAddr, aindex, aslice, abuiltin, AV.cells, AV.one, reduceCtorEq, ↓reduceIte, nLT, nLE, nEQ, nAdd, nMul, nPow, nSub, zLT, zLE, zNat, RAes8160, g11, decide_eq_false (show ¬ ((16 : Nat) : Int) < 16 by decide)]
              refine hK _ _ ?_
              clear hK K
              refine awp_cond_k ?_
              intro X Y hX hY
              simp only [↓DN, UP, DF, ashift, aconv, aindexAddr, aindex, aslice, abuiltin, AV.cells, AV.one, reduceCtorEq, ↓reduceIte, nLT, nLE, nEQ, nAdd, nMul, nPow, nSub, zLT, zLE, zNat, RAes8160, DB]
              refine hY ?_
              clear hX hY X Y
              refine awp_exit ?_
              simp only [thenQ, blockQ, if_true]
              clear hK6 K6
              refine hK4 _ _ ?_
              clear hK4 K4
              refine awp_reg_end ?_
              intro K hK
              simp only [↓DN, UP, DF, ashift, aconv, aindexAddr, aindex, aslice, abuiltin, AV.cells, AV.one, reduceCtorEq, ↓reduceIte, nLT, nLE, nEQ, nAdd, nMul, nPow, nSub, zLT, zLE, zNat, RAes8160, g6]
              refine acallk (double_calls (Aes.pwr q) _) ?_
              rintro r s7 ⟨rfl, rfl⟩
              simp only [↓AXq_nil, ↓AXq_cons, pval, ↓AXr_nil, ↓AXr_cons, gval, lval, fzGet_cons, fzGet_nil, Pres_cons, Pres_nil, List.any_cons, List.any_nil, DX, Nat.reduceBEq, ↓DN, UP, DF, ashift, aconv, aindexAddr, aindex, aslice, abuiltin, AV.cells, AV.one, reduceCtorEq, ↓reduceIte, nLT, nLE, nEQ, nAdd, nMul, nPow, nSub, zLT, zLE, zNat, RAes8160]
              refine hK _ _ ?_
              clear hK K
              simp only [blockQ, thenQ, if_true, if_false]
              refine hK3 _ _ ?_
              clear hK3 K3
              refine awp_reg_end ?_
              intro K hK
              simp only [↓DN, UP, DF, ashift, aconv, aindexAddr, aindex, aslice, abuiltin, AV.cells, AV.one, reduceCtorEq, ↓reduceIte, nLT, nLE, nEQ, nAdd, nMul, nPow, nSub, zLT, zLE, zNat, RAes8160, g7, w_succ (q + 1) (by omega)]
              refine hK _ _ ?_
              clear hK K
              refine ⟨⟨q + 1, by omega, by simp only [upd, g3, Nat.reduceEqDiff, ↓reduceIte], by simp only [upd, g4, Nat.reduceEqDiff, ↓reduceIte], by simp only [upd, g5, Nat.reduceEqDiff, ↓reduceIte], by simp only [upd, Nat.reduceEqDiff, ↓reduceIte]; rfl, by simp only [upd, ↓reduceIte], t3, t4, by rw [show (q + 1 + 1) * 16 = (q + 1) * 16 + 16 by omega]; exact t5, hle5⟩, ?_⟩
              simp only [e7, upd, ↓reduceIte]
              omega
    · obtain rfl : q = 10 := by omega
      refine awp_reg_seq ?_
      intro K hK
      simp only [↓DN, UP, DF, ashift, aconv, aindexAddr, aindex, aslice, abuiltin, AV.cells, AV.one, reduceCtorEq, ↓reduceIte, nLT, nLE, nEQ, nAdd, nMul, nPow, nSub, zLT, zLE, zNat, RAes8160, e7, decide_eq_false (show ¬ ((10 + 1 : Nat) : Int) ≤ 10 by decide)]
      refine hK _ _ ?_
      clear hK K
      refine awp_cond_k ?_
      intro X Y hX hY
      simp only [↓DN, UP, DF, ashift, aconv, aindexAddr, aindex, aslice, abuiltin, AV.cells, AV.one, reduceCtorEq, ↓reduceIte, nLT, nLE, nEQ, nAdd, nMul, nPow, nSub, zLT, zLE, zNat, RAes8160, DB]
      refine hY ?_
      clear hX hY X Y
      refine awp_exit ?_
      simp only [thenQ, blockQ, if_true]
      clear hK2 K2
      refine hK _ _ ?_
      clear hK K
      rw [show (10 + 1) * 16 = 176 from rfl, fillG_full, show (List.range 176).map (Aes.ak key) = keysL key from rfl] at j5
      have hwl : ((keysL key).map byteV).length = 176 := by rw [List.length_map, keysL_len]
      have hall := all_bytes (keysL key)
      have htk : List.take 176 ((keysL key).map byteV) = (keysL key).map byteV := List.take_of_length_le (by omega)
      generalize (keysL key).map byteV = X at *
      refine awp_reg_seq ?_
      intro K hK
      simp only [↓DN, UP, DF, ashift, aconv, aindexAddr, aindex, aslice, abuiltin, AV.cells, AV.one, reduceCtorEq, ↓reduceIte, nLT, nLE, nEQ, nAdd, nMul, nPow, nSub, zLT, zLE, zNat, RAes8160, e4, e5, j4, j5, hwl, htk, hall, h54, h54.symm]
      rw [asetAll_whole Z X (by omega)]
      refine ⟨by omega, hK _ _ ?_⟩
      clear hK K
      refine awp_ret ?_
      refine aends_cell (v := .agg X) (o := o4) (off := 0) (by simp only [upd, e4, Nat.reduceEqDiff, ↓reduceIte]) (AS.set_objs_same _ _ _) (by rw [T.c167]; decide) (by simp only [↓DN, UP, DF, ashift, aconv, aindexAddr, aindex, aslice, abuiltin, AV.cells, AV.one, reduceCtorEq, ↓reduceIte, nLT, nLE, nEQ, nAdd, nMul, nPow, nSub, zLT, zLE, zNat, RAes8160, hwl, htk]) ?_
      exact ⟨_, s, AV.weak.refl _, AS.le_set hle ho4' _, rfl, rfl⟩

end Go.Proofs.YtpakgjmcaefnmaaDoor


set_option autoImplicit false
namespace Go.Proofs.YtpakgjmcaefnmaaDoor
open Go Go.AM Go.Proofs

theorem RAes9147 : type_of% (And.intro (And.intro (And.intro (And.intro (And.intro (And.intro @Tryd.underlying3 T.c3) (And.intro T.g3 T.b3)) (And.intro (And.intro T.z3 @Tryd.underlying4) (And.intro T.c4 T.g4))) (And.intro (And.intro (And.intro T.b4 T.z4) (And.intro @Tryd.underlying5 T.c5)) (And.intro (And.intro T.g5 T.b5) (And.intro T.z5 @Tryd.underlying157)))) (And.intro (And.intro (And.intro (And.intro T.c157 T.g157) (And.intro T.b157 T.z157)) (And.intro (And.intro @Tryd.underlying165 T.c165) (And.intro T.g165 T.b165))) (And.intro (And.intro (And.intro @Tryd.underlying167 T.c167) (And.intro T.g167 T.b167)) (And.intro (And.intro T.k160 T.k162) (And.intro T.k159 T.k161))))) Tryd.ntmps147) :=
  (And.intro (And.intro (And.intro (And.intro (And.intro (And.intro @Tryd.underlying3 T.c3) (And.intro T.g3 T.b3)) (And.intro (And.intro T.z3 @Tryd.underlying4) (And.intro T.c4 T.g4))) (And.intro (And.intro (And.intro T.b4 T.z4) (And.intro @Tryd.underlying5 T.c5)) (And.intro (And.intro T.g5 T.b5) (And.intro T.z5 @Tryd.underlying157)))) (And.intro (And.intro (And.intro (And.intro T.c157 T.g157) (And.intro T.b157 T.z157)) (And.intro (And.intro @Tryd.underlying165 T.c165) (And.intro T.g165 T.b165))) (And.intro (And.intro (And.intro @Tryd.underlying167 T.c167) (And.intro T.g167 T.b167)) (And.intro (And.intro T.k160 T.k162) (And.intro T.k159 T.k161))))) Tryd.ntmps147)

variable {Γ : Nat → List AV}

theorem keys_at (key : List UInt8) (hk : key.length = 16) (q : Nat) (hq : q < 11) : List.take 16 (List.drop (q * 16) ((keysL key).map byteV)) = (Aes.kr key q).map byteV := by
  have h := keys_take key hk (fun _ => 0) q 176 hq (by omega)
  rw [fillG_full] at h
  exact h

set_option maxHeartbeats 8000000 in
set_option maxRecDepth 100000 in
theorem aesBlock_calls (key b : List UInt8) (hk : key.length = 16) (hb : b.length = 16) (s : AS) :
    ACalls Tryd.prog Γ 147 [.agg (key.map byteV), .agg (b.map byteV)] s (fun r s' => r = .agg ((Aes.block key b).map byteV) ∧ s' = s) := by
  refine acalls_body Tryd.func147 rfl Tryd.ntmps147 Tryd.results147 (by simp) ?_
  have hkl : (key.map byteV).length = 16 := by rw [List.length_map, hk]
  have hktk : List.take 16 (key.map byteV) = key.map byteV := List.take_of_length_le (by omega)
  have hbl : (b.map byteV).length = 16 := by rw [List.length_map, hb]
  have hbtk : List.take 16 (b.map byteV) = b.map byteV := List.take_of_length_le (by omega)
  have hsl : (Aes.sb.map byteV).length = 256 := by rw [List.length_map, Aes.sb_len]
  have hstk : List.take 256 (Aes.sb.map byteV) = Aes.sb.map byteV := List.take_of_length_le (by omega)
  have hsall := all_bytes Aes.sb
  have hKl : ((keysL key).map byteV).length = 176 := by rw [List.length_map, keysL_len]
  have hKall := all_bytes (keysL key)
  have hKat := keys_at key hk
  have hex := fun s => expandA_calls (Γ := Γ) key hk s
  have hbx := fun s => boxes_calls (Γ := Γ) s
  have had := fun s => aesAdd_calls (Γ := Γ) b (Aes.kr key 0) hb (Aes.kr_len hk 0) s
  rw [show Aes.add b (Aes.kr key 0) = Aes.state key b 0 from rfl] at had
  have hrd := fun q s => aesRound_calls (Γ := Γ) (Aes.state key b q) (Aes.state_len key b q) (q + 1 == 10) s
  have hnx := fun q s => aesAdd_calls (Γ := Γ) (Aes.rnd (Aes.state key b q) (q + 1 == 10)) (Aes.kr key (q + 1)) (Aes.rnd_len _ _) (Aes.kr_len hk (q + 1)) s
  have hst : ∀ q, Aes.add (Aes.rnd (Aes.state key b q) (q + 1 == 10)) (Aes.kr key (q + 1)) = Aes.state key b (q + 1) := fun q => rfl
  simp only [hst] at hnx
  have hk0 : List.take 16 ((keysL key).map byteV) = (Aes.kr key 0).map byteV := by
    have := hKat 0 (by omega)
    rwa [Nat.zero_mul, List.drop_zero] at this
  generalize Aes.sb.map byteV = Y at *
  generalize (keysL key).map byteV = KS at *
  refine awp_reg_seq ?_
  intro K hK
  simp only [↓DN, UP, DF, ashift, aconv, aindexAddr, aindex, aslice, abuiltin, AV.cells, AV.one, reduceCtorEq, ↓reduceIte, nLT, nLE, nEQ, nAdd, nMul, nPow, nSub, zLT, zLE, zNat, RAes9147]
  intro o2 ho2 o3 ho3
  obtain ⟨h32, ho3'⟩ := AS.fresh_set ho3
  intro o4 ho4
  obtain ⟨h43, h42, ho4'⟩ := fresh_two ho4
  rw [z16]
  refine hK _ _ ?_
  clear hK K
  generalize hs0 : ((s.set o2 (key.map byteV)).set o3 (b.map byteV)).set o4 (List.replicate 16 (bV 0)) = s0 at *
  have j2 : s0.objs o2 = some (key.map byteV) := by rw [← hs0, AS.set_objs_ne _ h42.symm, AS.set_objs_ne _ h32.symm, AS.set_objs_same]
  have j3 : s0.objs o3 = some (b.map byteV) := by rw [← hs0, AS.set_objs_ne _ h43.symm, AS.set_objs_same]
  have j4 : s0.objs o4 = some (List.replicate 16 (bV 0)) := by rw [← hs0]; exact AS.set_objs_same _ _ _
  have hle : s.le s0 := by rw [← hs0]; exact AS.le_set (AS.le_set (AS.le_set (AS.le.refl s) ho2 _) ho3' _) ho4' _
  clear hs0 ho3 ho4
  have hzl : (List.replicate 16 (bV 0)).length = 16 := by simp
  generalize List.replicate 16 (bV 0) = Z at *
  refine awp_reg_seq ?_
  intro K hK
  simp only [↓DN, UP, DF, ashift, aconv, aindexAddr, aindex, aslice, abuiltin, AV.cells, AV.one, reduceCtorEq, ↓reduceIte, nLT, nLE, nEQ, nAdd, nMul, nPow, nSub, zLT, zLE, zNat, RAes9147]
  refine acallk (hbx _) ?_
  rintro r s1 ⟨rfl, rfl⟩
  simp only [↓AXq_nil, ↓AXq_cons, pval, DX, Nat.reduceBEq, ↓DN, UP, DF, ashift, aconv, aindexAddr, aindex, aslice, abuiltin, AV.cells, AV.one, reduceCtorEq, ↓reduceIte, nLT, nLE, nEQ, nAdd, nMul, nPow, nSub, zLT, zLE, zNat, RAes9147, z165, hsl, hsall, Nat.le_refl, List.length_replicate]
  intro o5 ho5
  rw [asetAll_whole (List.replicate 256 (bV 0)) Y (by rw [hsl]; simp)]
  refine hK _ _ ?_
  clear hK K
  have n52 : o5 ≠ o2 := fun e => by rw [e, j2] at ho5; cases ho5
  have n53 : o5 ≠ o3 := fun e => by rw [e, j3] at ho5; cases ho5
  have n54 : o5 ≠ o4 := fun e => by rw [e, j4] at ho5; cases ho5
  have hs5 : s.objs o5 = none := by
    cases h : s.objs o5 with
    | none => rfl
    | some cs => rw [hle.objs _ _ h] at ho5; cases ho5
  generalize hs1 : s1.set o5 Y = s2 at *
  have q2 : s2.objs o2 = some (key.map byteV) := by rw [← hs1, AS.set_objs_ne _ n52.symm]; exact j2
  have q3 : s2.objs o3 = some (b.map byteV) := by rw [← hs1, AS.set_objs_ne _ n53.symm]; exact j3
  have q4 : s2.objs o4 = some Z := by rw [← hs1, AS.set_objs_ne _ n54.symm]; exact j4
  have q5 : s2.objs o5 = some Y := by rw [← hs1]; exact AS.set_objs_same _ _ _
  have hle2 : s.le s2 := by rw [← hs1]; exact AS.le_set hle hs5 _
  clear hs1 j2 j3 j4 hle ho5
  refine awp_reg_seq ?_
  intro K hK
  simp only [↓DN, UP, DF, ashift, aconv, aindexAddr, aindex, aslice, abuiltin, AV.cells, AV.one, reduceCtorEq, ↓reduceIte, nLT, nLE, nEQ, nAdd, nMul, nPow, nSub, zLT, zLE, zNat, RAes9147, q2, q5, hkl, hktk, hsl, hstk, Nat.le_refl]
  refine acallk (hex _) ?_
  rintro r s3 ⟨rfl, rfl⟩
  simp only [↓AXq_nil, ↓AXq_cons, pval, DX, Nat.reduceBEq, ↓DN, UP, DF, ashift, aconv, aindexAddr, aindex, aslice, abuiltin, AV.cells, AV.one, reduceCtorEq, ↓reduceIte, nLT, nLE, nEQ, nAdd, nMul, nPow, nSub, zLT, zLE, zNat, RAes9147, z167, hKl, hKall, Nat.le_refl, List.length_replicate]
  intro o6 ho6
  rw [asetAll_whole (List.replicate 176 (bV 0)) KS (by rw [hKl]; simp)]
  refine hK _ _ ?_
  clear hK K
  have n63 : o6 ≠ o3 := fun e => by rw [e, q3] at ho6; cases ho6
  have n64 : o6 ≠ o4 := fun e => by rw [e, q4] at ho6; cases ho6
  have n65 : o6 ≠ o5 := fun e => by rw [e, q5] at ho6; cases ho6
  have hs6 : s.objs o6 = none := by
    cases h : s.objs o6 with
    | none => rfl
    | some cs => rw [hle2.objs _ _ h] at ho6; cases ho6
  generalize hs1 : s3.set o6 KS = s4 at *
  have t3 : s4.objs o3 = some (b.map byteV) := by rw [← hs1, AS.set_objs_ne _ n63.symm]; exact q3
  have t4 : s4.objs o4 = some Z := by rw [← hs1, AS.set_objs_ne _ n64.symm]; exact q4
  have t5 : s4.objs o5 = some Y := by rw [← hs1, AS.set_objs_ne _ n65.symm]; exact q5
  have t6 : s4.objs o6 = some KS := by rw [← hs1]; exact AS.set_objs_same _ _ _
  have hle4 : s.le s4 := by rw [← hs1]; exact AS.le_set hle2 hs6 _
  clear hs1 q2 q3 q4 q5 hle2 ho6
  have hB0 := all_bytes (Aes.state key b 0)
  have hB0l : ((Aes.state key b 0).map byteV).length = 16 := by rw [List.length_map, Aes.state_len]
  refine awp_reg_seq ?_
  intro K hK
  simp only [↓DN, UP, DF, ashift, aconv, aindexAddr, aindex, aslice, abuiltin, AV.cells, AV.one, reduceCtorEq, ↓reduceIte, nLT, nLE, nEQ, nAdd, nMul, nPow, nSub, zLT, zLE, zNat, RAes9147, t3, t6, hbl, hbtk, hKl, hk0, show (0 : Int) < ((11 : Nat) : Int) from by decide]
  refine acallk (had _) ?_
  rintro r s5 ⟨rfl, rfl⟩
  simp only [↓AXq_nil, ↓AXq_cons, pval, DX, Nat.reduceBEq, ↓DN, UP, DF, ashift, aconv, aindexAddr, aindex, aslice, abuiltin, AV.cells, AV.one, reduceCtorEq, ↓reduceIte, nLT, nLE, nEQ, nAdd, nMul, nPow, nSub, zLT, zLE, zNat, RAes9147, hB0, hB0l, Nat.le_refl]
  intro o7 ho7
  rw [z16, asetAll_whole (List.replicate 16 (bV 0)) ((Aes.state key b 0).map byteV) (by rw [hB0l]; simp)]
  refine hK _ _ ?_
  clear hK K
  have n74 : o7 ≠ o4 := fun e => by rw [e, t4] at ho7; cases ho7
  have n75 : o7 ≠ o5 := fun e => by rw [e, t5] at ho7; cases ho7
  have n76 : o7 ≠ o6 := fun e => by rw [e, t6] at ho7; cases ho7
  have hs7 : s.objs o7 = none := by
    cases h : s.objs o7 with
    | none => rfl
    | some cs => rw [hle4.objs _ _ h] at ho7; cases ho7
  generalize hs1 : s5.set o7 ((Aes.state key b 0).map byteV) = s6 at *
  have j4 : s6.objs o4 = some Z := by rw [← hs1, AS.set_objs_ne _ n74.symm]; exact t4
  have j5 : s6.objs o5 = some Y := by rw [← hs1, AS.set_objs_ne _ n75.symm]; exact t5
  have j6 : s6.objs o6 = some KS := by rw [← hs1, AS.set_objs_ne _ n76.symm]; exact t6
  have j7 : s6.objs o7 = some ((Aes.state key b 0).map byteV) := by rw [← hs1]; exact AS.set_objs_same _ _ _
  have hle6 : s.le s6 := by rw [← hs1]; exact AS.le_set hle4 hs7 _
  clear hs1 t3 t4 t5 t6 hle4 ho7 hB0 hB0l
  refine awp_seq_k ?_
  intro K hK
  refine awp_reg_seq ?_
  intro K hK
  simp only [↓DN, UP, DF, ashift, aconv, aindexAddr, aindex, aslice, abuiltin, AV.cells, AV.one, reduceCtorEq, ↓reduceIte, nLT, nLE, nEQ, nAdd, nMul, nPow, nSub, zLT, zLE, zNat, RAes9147]
  refine hK _ _ ?_
  clear hK K
  refine awp_block ?_
  refine awp_loop (fun E s2 => ∃ q : Nat, q ≤ 10 ∧ E 4 = .ptr o4 0 ∧ E 5 = .ptr o5 0 ∧ E 6 = .ptr o6 0 ∧ E 7 = .ptr o7 0 ∧ E 8 = .v (.int .i64 ((q + 1 : Nat) : Int)) ∧ s2.objs o4 = some Z ∧ s2.objs o5 = some Y ∧ s2.objs o6 = some KS ∧ s2.objs o7 = some ((Aes.state key b q).map byteV) ∧ s.le s2)
    (fun E _ => match E 8 with | .v (.int _ i) => 11 - i.toNat | _ => 0) ?_ ?_
  · exact ⟨0, by omega, by simp only [upd, Nat.reduceEqDiff, ↓reduceIte], by simp only [upd, Nat.reduceEqDiff, ↓reduceIte], by simp only [upd, Nat.reduceEqDiff, ↓reduceIte], by simp only [upd, Nat.reduceEqDiff, ↓reduceIte], by simp only [upd, ↓reduceIte]; rfl, j4, j5, j6, j7, hle6⟩
  · clear j4 j5 j6 j7 hle6
    rintro E1 s7 ⟨q, hq, e4, e5, e6, e7, e8, j4, j5, j6, j7, hle⟩ -
    refine awp_seq_k ?_
    intro K2 hK2
    by_cases hq' : q < 10
    · refine awp_reg_seq ?_
      intro K hK
      simp only [↓DN, UP, DF, ashift, aconv, aindexAddr, aindex, aslice, abuiltin, AV.cells, AV.one, reduceCtorEq, ↓reduceIte, nLT, nLE, nEQ, nAdd, nMul, nPow, nSub, zLT, zLE, zNat, RAes9147, e8, decide_eq_true (show ((q + 1 : Nat) : Int) ≤ 10 by omega)]
      refine hK _ _ ?_
      clear hK K
      refine awp_cond_k ?_
      intro X Y hX hY
      simp only [↓DN, UP, DF, ashift, aconv, aindexAddr, aindex, aslice, abuiltin, AV.cells, AV.one, reduceCtorEq, ↓reduceIte, nLT, nLE, nEQ, nAdd, nMul, nPow, nSub, zLT, zLE, zNat, RAes9147, DB]
      refine hX ?_
      clear hX hY X Y
      refine awp_skip ?_
      refine hK2 _ _ ?_
      clear hK2 K2
      refine awp_seq_k ?_
      intro K3 hK3
      refine awp_block ?_
      have heq : (((q + 1 : Nat) : Int) == 10) = (q + 1 == 10) := by
        by_cases h : q + 1 = 10
        · rw [h]; rfl
        · rw [show (q + 1 == 10) = false by simpa using h]
          simp; omega
      have hrdq := hrd q
      have hnxq := hnx q
      have hKq := hKat (q + 1) (by omega)
      have hKd : 16 ≤ (List.drop ((q + 1) * 16) KS).length := by rw [List.length_drop, hKl]; omega
      have hSl : ((Aes.state key b q).map byteV).length = 16 := by rw [List.length_map, Aes.state_len]
      have hStk : List.take 16 ((Aes.state key b q).map byteV) = (Aes.state key b q).map byteV := List.take_of_length_le (by omega)
      have hNl : ((Aes.state key b (q + 1)).map byteV).length = 16 := by rw [List.length_map, Aes.state_len]
      have hNall := all_bytes (Aes.state key b (q + 1))
      generalize hN : (Aes.state key b (q + 1)).map byteV = NB at *
      generalize (Aes.state key b q).map byteV = SB at *
      generalize (Aes.kr key (q + 1)).map byteV = KQ at *
      have m0 : (0 : Int) ≤ ((q + 1 : Nat) : Int) := by omega
      have m1 : ((q + 1 : Nat) : Int) < ((11 : Nat) : Int) := by omega
      refine awp_mrk_end T.mixed [(o7, SB), (o5, Y), (o6, KS)] [4, 8] [0, 1, 7] [9] (by kernel_rfl) (by simp only [Pres_cons, Pres_nil, and_true]; simp [AS.set, upd, j5, j6, j7]) ?_
      intro K hK
      simp only [↓AXr_nil, ↓AXr_cons, gval, lval, fzGet_cons, fzGet_nil, Pres_cons, Pres_nil, List.any_cons, List.any_nil, List.contains_cons, List.contains_nil, Nat.reduceBEq, Bool.or_false, Bool.or_true, Bool.or_self, Bool.false_or, ↓DN, UP, DF, ashift, aconv, aindexAddr, aindex, aslice, abuiltin, AV.cells, AV.one, reduceCtorEq, ↓reduceIte, nLT, nLE, nEQ, nAdd, nMul, nPow, nSub, zLT, zLE, zNat, RAes9147, e5, e6, e7, e8, heq, j5, j6, j7, m0, m1, hsl, hstk, hKl, hKq, hKd, hSl, hStk, n75, n75.symm, n76, n76.symm, n65, n65.symm, Nat.le_refl]
      refine acallk (hrdq _) ?_
      rintro r sa ⟨rfl, rfl⟩
      simp only [↓AXq_nil, ↓AXq_cons, pval, ↓AXr_nil, ↓AXr_cons, gval, lval, fzGet_cons, fzGet_nil, Pres_cons, Pres_nil, List.any_cons, List.any_nil, DX, Nat.reduceBEq, ↓DN, UP, DF, ashift, aconv, aindexAddr, aindex, aslice, abuiltin, AV.cells, AV.one, reduceCtorEq, ↓reduceIte, nLT, nLE, nEQ, nAdd, nMul, nPow, nSub, zLT, zLE, zNat, RAes9147, e5, e6, e7, e8, heq, j5, j6, j7, m0, m1, hsl, hstk, hKl, hKq, hKd, hSl, hStk, n75, n75.symm, n76, n76.symm, n65, n65.symm, Nat.le_refl]
      refine acallk (hnxq _) ?_
      rintro r sb ⟨rfl, rfl⟩
      simp only [↓AXq_nil, ↓AXq_cons, pval, ↓AXr_nil, ↓AXr_cons, gval, lval, fzGet_cons, fzGet_nil, Pres_cons, Pres_nil, List.any_cons, List.any_nil, DX, Nat.reduceBEq, ↓DN, UP, DF, ashift, aconv, aindexAddr, aindex, aslice, abuiltin, AV.cells, AV.one, reduceCtorEq, ↓reduceIte, nLT, nLE, nEQ, nAdd, nMul, nPow, nSub, zLT, zLE, zNat, RAes9147, e7, j7, hSl, hNl, hNall, Nat.le_refl]
      refine ⟨⟨j5, j6⟩, ?_⟩
      rw [asetAll_whole SB NB (by omega)]
      refine hK _ _ ?_
      clear hK K
      simp only [blockQ, thenQ, if_true, if_false]
      refine hK3 _ _ ?_
      clear hK3 K3
      refine awp_reg_end ?_
      intro K hK
      simp only [↓DN, UP, DF, ashift, aconv, aindexAddr, aindex, aslice, abuiltin, AV.cells, AV.one, reduceCtorEq, ↓reduceIte, nLT, nLE, nEQ, nAdd, nMul, nPow, nSub, zLT, zLE, zNat, RAes9147, e8, w_succ (q + 1) (by omega)]
      refine hK _ _ ?_
      clear hK K
      refine ⟨⟨q + 1, by omega, by simp only [upd, e4, Nat.reduceEqDiff, ↓reduceIte], by simp only [upd, e5, Nat.reduceEqDiff, ↓reduceIte], by simp only [upd, e6, Nat.reduceEqDiff, ↓reduceIte], by simp only [upd, e7, Nat.reduceEqDiff, ↓reduceIte], by simp only [upd, ↓reduceIte], by rw [AS.set_objs_ne _ n74.symm]; exact j4, by rw [AS.set_objs_ne _ n75.symm]; exact j5, by rw [AS.set_objs_ne _ n76.symm]; exact j6, by rw [hN]; exact AS.set_objs_same _ _ _, AS.le_set hle hs7 _⟩, ?_⟩
      simp only [e8, upd, ↓reduceIte]
      omega
    · obtain rfl : q = 10 := by omega
      refine awp_reg_seq ?_
      intro K hK
      simp only [↓DN, UP, DF, ashift, aconv, aindexAddr, aindex, aslice, abuiltin, AV.cells, AV.one, reduceCtorEq, ↓reduceIte, nLT, nLE, nEQ, nAdd, nMul, nPow, nSub, zLT, zLE, zNat, RAes9147, e8, decide_eq_false (show ¬ ((10 + 1 : Nat) : Int) ≤ 10 by decide)]
      refine hK _ _ ?_
      clear hK K
      refine awp_cond_k ?_
      intro X Y hX hY
      simp only [↓DN, UP, DF, ashift, aconv, aindexAddr, aindex, aslice, abuiltin, AV.cells, AV.one, reduceCtorEq, ↓reduceIte, nLT, nLE, nEQ, nAdd, nMul, nPow, nSub, zLT, zLE, zNat, RAes9147, DB]
      refine hY ?_
      clear hX hY X Y
      refine awp_exit ?_
      simp only [thenQ, blockQ, if_true]
      clear hK2 K2
      refine hK _ _ ?_
      clear hK K
      rw [show Aes.state key b 10 = Aes.block key b from rfl] at j7
      have hwl : ((Aes.block key b).map byteV).length = 16 := by rw [List.length_map, Aes.block_len]
      have hall := all_bytes (Aes.block key b)
      have htk : List.take 16 ((Aes.block key b).map byteV) = (Aes.block key b).map byteV := List.take_of_length_le (by omega)
      generalize (Aes.block key b).map byteV = X at *
      refine awp_reg_seq ?_
      intro K hK
      simp only [↓DN, UP, DF, ashift, aconv, aindexAddr, aindex, aslice, abuiltin, AV.cells, AV.one, reduceCtorEq, ↓reduceIte, nLT, nLE, nEQ, nAdd, nMul, nPow, nSub, zLT, zLE, zNat, RAes9147, e4, e7, j4, j7, hwl, htk, hall, n74, n74.symm, Nat.le_refl]
      rw [asetAll_whole Z X (by omega)]
      refine ⟨by omega, hK _ _ ?_⟩
      clear hK K
      refine awp_ret ?_
      refine aends_cell (v := .agg X) (o := o4) (off := 0) (by simp only [upd, e4, Nat.reduceEqDiff, ↓reduceIte]) (AS.set_objs_same _ _ _) (by rw [T.c157]; decide) (by simp only [↓DN, UP, DF, ashift, aconv, aindexAddr, aindex, aslice, abuiltin, AV.cells, AV.one, reduceCtorEq, ↓reduceIte, nLT, nLE, nEQ, nAdd, nMul, nPow, nSub, zLT, zLE, zNat, RAes9147, hwl, htk]) ?_
      exact ⟨_, s, AV.weak.refl _, AS.le_set hle ho4' _, rfl, rfl⟩

end Go.Proofs.YtpakgjmcaefnmaaDoor


set_option autoImplicit false
namespace Go.Proofs.YtpakgjmcaefnmaaDoor
open Go Go.AM Go.Proofs

theorem RAes10163 : type_of% (And.intro (And.intro (And.intro @Tryd.underlying3 T.c3) (And.intro T.g3 (And.intro T.b3 T.z3))) Tryd.ntmps163) :=
  (And.intro (And.intro (And.intro @Tryd.underlying3 T.c3) (And.intro T.g3 (And.intro T.b3 T.z3))) Tryd.ntmps163)

variable {Γ : Nat → List AV}

/-- A number, as an int. -/
abbrev nV (n : Nat) : AV := .v (.int .i64 (n : Int))
theorem n_shr (b i : Nat) (hi : i < 64) : ishr .i64 (b : Int) (i : Int) = ((b / 2 ^ i : Nat) : Int) := by
  rw [ishr_u]
  simp only [IntKind.bits]
  rw [Nat.min_eq_left (by omega)]
theorem n_shl (a i : Nat) (hi : i < 64) (h : a * 2 ^ i < 2 ^ 62) : ishl .i64 (a : Int) (i : Int) = ((a * 2 ^ i : Nat) : Int) := by
  rw [ishl]
  simp only [Int.toNat_natCast, IntKind.bits]
  rw [Nat.min_eq_left (by omega)]
  have e : (a : Int) * 2 ^ i = ((a * 2 ^ i : Nat) : Int) := by rw [Int.natCast_mul, Int.natCast_pow]; rfl
  rw [e, IntWalk.i64_in _ (by omega)]
theorem n_xor (a b : Nat) (ha : a < 2 ^ 62) (hb : b < 2 ^ 62) : ixor .i64 (a : Int) (b : Int) = ((a ^^^ b : Nat) : Int) := by
  have hx : a ^^^ b < 2 ^ 62 := Nat.xor_lt_two_pow ha hb
  rw [ixor, BitVec.ofInt_natCast, BitVec.ofInt_natCast, BitVec.toNat_xor, BitVec.toNat_ofNat, BitVec.toNat_ofNat]
  simp only [IntKind.bits]
  rw [Nat.mod_eq_of_lt (by omega), Nat.mod_eq_of_lt (by omega), IntWalk.i64_in _ (by omega)]
theorem rem2 (a : Nat) : irem (a : Int) 2 = ((a % 2 : Nat) : Int) := irem_u a 2
theorem two_ne : ¬ (2 : Int) = 0 := by decide
theorem mul_bound (a i : Nat) (ha : a < 256) (hi : i < 8) : a * 2 ^ i < 2 ^ 15 := by
  have h1 : 2 ^ i ≤ 2 ^ 7 := Nat.pow_le_pow_right (by decide) (by omega)
  have h2 : a * 2 ^ i ≤ 255 * 2 ^ 7 := Nat.mul_le_mul (by omega) h1
  omega
theorem poly_bound (k : Nat) (hk : k < 7) : 283 * 2 ^ k < 2 ^ 15 := by
  have h1 : 2 ^ k ≤ 2 ^ 6 := Nat.pow_le_pow_right (by decide) (by omega)
  have h2 : 283 * 2 ^ k ≤ 283 * 2 ^ 6 := Nat.mul_le_mul_left _ h1
  omega
theorem mod2_cases (a : Nat) : a % 2 = 1 ∨ a % 2 = 0 := by omega

set_option maxHeartbeats 4000000 in
theorem refMul05_calls (a b : Nat) (ha : a < 256) (hb : b < 256) (s : AS) : ACalls Tryd.prog Γ 163 [nV a, nV b] s (fun r s' => r = nV (Aes.rmul a b) ∧ s' = s) := by
  refine acalls_body Tryd.func163 rfl Tryd.ntmps163 Tryd.results163 (by simp) ?_
  refine awp_reg_seq ?_
  intro K hK
  simp only [↓DN, UP, DF, ashift, aconv, aindexAddr, aindex, aslice, abuiltin, AV.cells, AV.one, reduceCtorEq, ↓reduceIte, nLT, nLE, nEQ, nAdd, nMul, nPow, nSub, zLT, zLE, zNat, RAes10163]
  refine hK _ _ ?_
  clear hK K
  refine awp_reg_seq ?_
  intro K hK
  simp only [↓DN, UP, DF, ashift, aconv, aindexAddr, aindex, aslice, abuiltin, AV.cells, AV.one, reduceCtorEq, ↓reduceIte, nLT, nLE, nEQ, nAdd, nMul, nPow, nSub, zLT, zLE, zNat, RAes10163]
  refine hK _ _ ?_
  clear hK K
  refine awp_seq_k ?_
  intro K hK
  refine awp_reg_seq ?_
  intro K hK
  simp only [↓DN, UP, DF, ashift, aconv, aindexAddr, aindex, aslice, abuiltin, AV.cells, AV.one, reduceCtorEq, ↓reduceIte, nLT, nLE, nEQ, nAdd, nMul, nPow, nSub, zLT, zLE, zNat, RAes10163]
  refine hK _ _ ?_
  clear hK K
  refine awp_block ?_
  refine awp_loop (fun E s1 => ∃ i p : Nat, i ≤ 8 ∧ E 0 = nV a ∧ E 1 = nV b ∧ E 5 = nV p ∧ E 6 = nV i ∧ p < 2 ^ 15 ∧ Aes.mulL a b (8 - i) p = Aes.mulL a b 8 0 ∧ s1 = s)
    (fun E _ => match E 6 with | .v (.int _ i) => 8 - i.toNat | _ => 0) ?_ ?_
  · exact ⟨0, 0, by omega, by simp only [upd, initE, Nat.reduceEqDiff, ↓reduceIte]; rfl, by simp only [upd, initE, Nat.reduceEqDiff, ↓reduceIte]; rfl, by simp only [upd, Nat.reduceEqDiff, ↓reduceIte]; rfl, by simp only [upd, ↓reduceIte]; rfl, by decide, rfl, rfl⟩
  · rintro E1 s1 ⟨i, p, hi, e0, e1, e5, e6, hp, hinv, rfl⟩ -
    refine awp_seq_k ?_
    intro K2 hK2
    by_cases hi' : i < 8
    · refine awp_reg_seq ?_
      intro K hK
      simp only [↓DN, UP, DF, ashift, aconv, aindexAddr, aindex, aslice, abuiltin, AV.cells, AV.one, reduceCtorEq, ↓reduceIte, nLT, nLE, nEQ, nAdd, nMul, nPow, nSub, zLT, zLE, zNat, RAes10163, e6, decide_eq_true (show (i : Int) < 8 by omega)]
      refine hK _ _ ?_
      clear hK K
      refine awp_cond_k ?_
      intro X Y hX hY
      simp only [↓DN, UP, DF, ashift, aconv, aindexAddr, aindex, aslice, abuiltin, AV.cells, AV.one, reduceCtorEq, ↓reduceIte, nLT, nLE, nEQ, nAdd, nMul, nPow, nSub, zLT, zLE, zNat, RAes10163, DB]
      refine hX ?_
      clear hX hY X Y
      refine awp_skip ?_
      refine hK2 _ _ ?_
      clear hK2 K2
      refine awp_seq_k ?_
      intro K3 hK3
      refine awp_block ?_
      have hstep : Aes.mulL a b (8 - i) p = Aes.mulL a b (8 - (i + 1)) (if b / 2 ^ i % 2 = 1 then p ^^^ (a * 2 ^ i) else p) := by
        rw [show 8 - i = (8 - (i + 1)) + 1 by omega, Aes.mulL, show 7 - (8 - (i + 1)) = i by omega]
      have hmb := mul_bound a i ha hi'
      have hgo : ∀ (E2 : Env) (p2 : Nat), E2 0 = nV a → E2 1 = nV b → E2 5 = nV p2 → E2 6 = nV i → p2 < 2 ^ 15 → Aes.mulL a b (8 - (i + 1)) p2 = Aes.mulL a b 8 0 → K3 E2 s1 := by
        intro E2 p2 f0 f1 f5 f6 hp2 hinv2
        refine hK3 _ _ ?_
        clear hK3 K3
        refine awp_reg_end ?_
        intro K hK
        simp only [↓DN, UP, DF, ashift, aconv, aindexAddr, aindex, aslice, abuiltin, AV.cells, AV.one, reduceCtorEq, ↓reduceIte, nLT, nLE, nEQ, nAdd, nMul, nPow, nSub, zLT, zLE, zNat, RAes10163, f6, w_succ i (by omega)]
        refine hK _ _ ?_
        clear hK K
        refine ⟨⟨i + 1, p2, by omega, by simp only [upd, f0, Nat.reduceEqDiff, ↓reduceIte], by simp only [upd, f1, Nat.reduceEqDiff, ↓reduceIte], by simp only [upd, f5, Nat.reduceEqDiff, ↓reduceIte], by simp only [upd, ↓reduceIte], hp2, hinv2, rfl⟩, ?_⟩
        simp only [e6, upd, ↓reduceIte]
        omega
      clear hK3
      have hsh := n_shr b i (by omega)
      rcases mod2_cases (b / 2 ^ i) with hodd | heven
      · rw [if_pos hodd] at hstep
        refine awp_reg_seq ?_
        intro K hK
        simp only [↓DN, UP, DF, ashift, aconv, aindexAddr, aindex, aslice, abuiltin, AV.cells, AV.one, reduceCtorEq, ↓reduceIte, nLT, nLE, nEQ, nAdd, nMul, nPow, nSub, zLT, zLE, zNat, RAes10163, e1, e6, nat_not_neg, hsh, rem2, two_ne, hodd, one_beq]
        refine hK _ _ ?_
        clear hK K
        refine awp_cond_k ?_
        intro X Y hX hY
        simp only [↓DN, UP, DF, ashift, aconv, aindexAddr, aindex, aslice, abuiltin, AV.cells, AV.one, reduceCtorEq, ↓reduceIte, nLT, nLE, nEQ, nAdd, nMul, nPow, nSub, zLT, zLE, zNat, RAes10163, DB]
        refine hX ?_
        clear hX hY X Y
        refine awp_reg_end ?_
        intro K hK
        simp only [↓DN, UP, DF, ashift, aconv, aindexAddr, aindex, aslice, abuiltin, AV.cells, AV.one, reduceCtorEq, ↓reduceIte, nLT, nLE, nEQ, nAdd, nMul, nPow, nSub, zLT, zLE, zNat, RAes10163, e0, e5, e6, nat_not_neg, n_shl a i (by omega) (by omega), n_xor p (a * 2 ^ i) (by omega) (by omega)]
        refine hK _ _ ?_
        clear hK K
        simp only [blockQ, thenQ, if_true, if_false]
        exact hgo _ (p ^^^ (a * 2 ^ i)) (by simp only [upd, e0, Nat.reduceEqDiff, ↓reduceIte]) (by simp only [upd, e1, Nat.reduceEqDiff, ↓reduceIte]) (by simp only [upd, ↓reduceIte]) (by simp only [upd, e6, Nat.reduceEqDiff, ↓reduceIte]) (Nat.xor_lt_two_pow hp hmb) (by rw [← hstep]; exact hinv)
      · rw [if_neg (by omega)] at hstep
        refine awp_reg_seq ?_
        intro K hK
        simp only [↓DN, UP, DF, ashift, aconv, aindexAddr, aindex, aslice, abuiltin, AV.cells, AV.one, reduceCtorEq, ↓reduceIte, nLT, nLE, nEQ, nAdd, nMul, nPow, nSub, zLT, zLE, zNat, RAes10163, e1, e6, nat_not_neg, hsh, rem2, two_ne, heven, zero_beq1]
        refine hK _ _ ?_
        clear hK K
        refine awp_cond_k ?_
        intro X Y hX hY
        simp only [↓DN, UP, DF, ashift, aconv, aindexAddr, aindex, aslice, abuiltin, AV.cells, AV.one, reduceCtorEq, ↓reduceIte, nLT, nLE, nEQ, nAdd, nMul, nPow, nSub, zLT, zLE, zNat, RAes10163, DB]
        refine hY ?_
        clear hX hY X Y
        refine awp_skip ?_
        simp only [blockQ, thenQ, if_true, if_false]
        exact hgo _ p (by simp only [upd, e0, Nat.reduceEqDiff, ↓reduceIte]) (by simp only [upd, e1, Nat.reduceEqDiff, ↓reduceIte]) (by simp only [upd, e5, Nat.reduceEqDiff, ↓reduceIte]) (by simp only [upd, e6, Nat.reduceEqDiff, ↓reduceIte]) hp (by rw [← hstep]; exact hinv)
    · obtain rfl : i = 8 := by omega
      refine awp_reg_seq ?_
      intro K hK
      simp only [↓DN, UP, DF, ashift, aconv, aindexAddr, aindex, aslice, abuiltin, AV.cells, AV.one, reduceCtorEq, ↓reduceIte, nLT, nLE, nEQ, nAdd, nMul, nPow, nSub, zLT, zLE, zNat, RAes10163, e6, decide_eq_false (show ¬ ((8 : Nat) : Int) < 8 by decide)]
      refine hK _ _ ?_
      clear hK K
      refine awp_cond_k ?_
      intro X Y hX hY
      simp only [↓DN, UP, DF, ashift, aconv, aindexAddr, aindex, aslice, abuiltin, AV.cells, AV.one, reduceCtorEq, ↓reduceIte, nLT, nLE, nEQ, nAdd, nMul, nPow, nSub, zLT, zLE, zNat, RAes10163, DB]
      refine hY ?_
      clear hX hY X Y
      refine awp_exit ?_
      simp only [thenQ, blockQ, if_true]
      refine hK _ _ ?_
      clear hK hK2 K K2
      have hp0 : p = Aes.mulL a b 8 0 := hinv
      refine awp_seq_k ?_
      intro K hK
      refine awp_reg_seq ?_
      intro K hK
      simp only [↓DN, UP, DF, ashift, aconv, aindexAddr, aindex, aslice, abuiltin, AV.cells, AV.one, reduceCtorEq, ↓reduceIte, nLT, nLE, nEQ, nAdd, nMul, nPow, nSub, zLT, zLE, zNat, RAes10163]
      refine hK _ _ ?_
      clear hK K
      refine awp_block ?_
      refine awp_loop (fun E s2 => ∃ k p2 : Nat, k ≤ 7 ∧ E 5 = nV p2 ∧ E 7 = nV (7 + k) ∧ p2 < 2 ^ 15 ∧ Aes.redL k p2 = Aes.redL 7 p ∧ s2 = s1)
        (fun E _ => match E 7 with | .v (.int _ i) => i.toNat | _ => 0) ?_ ?_
      · exact ⟨7, p, by omega, by simp only [upd, e5, Nat.reduceEqDiff, ↓reduceIte], by simp only [upd, ↓reduceIte]; rfl, hp, rfl, rfl⟩
      · clear e0 e1 e5 e6
        rintro E2 s2 ⟨k, p2, hk, f5, f7, hp2, hinv2, rfl⟩ -
        refine awp_seq_k ?_
        intro K2 hK2
        by_cases hk' : k = 0
        · subst hk'
          refine awp_reg_seq ?_
          intro K hK
          simp only [↓DN, UP, DF, ashift, aconv, aindexAddr, aindex, aslice, abuiltin, AV.cells, AV.one, reduceCtorEq, ↓reduceIte, nLT, nLE, nEQ, nAdd, nMul, nPow, nSub, zLT, zLE, zNat, RAes10163, f7, decide_eq_false (show ¬ (8 : Int) ≤ ((7 + 0 : Nat) : Int) by decide)]
          refine hK _ _ ?_
          clear hK K
          refine awp_cond_k ?_
          intro X Y hX hY
          simp only [↓DN, UP, DF, ashift, aconv, aindexAddr, aindex, aslice, abuiltin, AV.cells, AV.one, reduceCtorEq, ↓reduceIte, nLT, nLE, nEQ, nAdd, nMul, nPow, nSub, zLT, zLE, zNat, RAes10163, DB]
          refine hY ?_
          clear hX hY X Y
          refine awp_exit ?_
          simp only [thenQ, blockQ, if_true]
          refine hK _ _ ?_
          clear hK hK2 K K2
          refine awp_reg_seq ?_
          intro K hK
          simp only [↓DN, UP, DF, ashift, aconv, aindexAddr, aindex, aslice, abuiltin, AV.cells, AV.one, reduceCtorEq, ↓reduceIte, nLT, nLE, nEQ, nAdd, nMul, nPow, nSub, zLT, zLE, zNat, RAes10163, f5]
          refine hK _ _ ?_
          clear hK K
          refine awp_ret ?_
          simp only [retQ, AEnds, aresL, ares, List.toList_toArray, ↓upd_same]; try simp only [↓DN, UP, DF, ashift, aconv, aindexAddr, aindex, aslice, abuiltin, AV.cells, AV.one, reduceCtorEq, ↓reduceIte, nLT, nLE, nEQ, nAdd, nMul, nPow, nSub, zLT, zLE, zNat, RAes10163, DT]
          refine ⟨_, _, AV.weak.refl _, AS.le.refl _, ?_, rfl⟩
          have : p2 = Aes.redL 7 p := hinv2
          rw [this, hp0]
          rfl
        · obtain ⟨m, rfl⟩ : ∃ m, k = m + 1 := ⟨k - 1, by omega⟩
          refine awp_reg_seq ?_
          intro K hK
          simp only [↓DN, UP, DF, ashift, aconv, aindexAddr, aindex, aslice, abuiltin, AV.cells, AV.one, reduceCtorEq, ↓reduceIte, nLT, nLE, nEQ, nAdd, nMul, nPow, nSub, zLT, zLE, zNat, RAes10163, f7, decide_eq_true (show (8 : Int) ≤ ((7 + (m + 1) : Nat) : Int) by omega)]
          refine hK _ _ ?_
          clear hK K
          refine awp_cond_k ?_
          intro X Y hX hY
          simp only [↓DN, UP, DF, ashift, aconv, aindexAddr, aindex, aslice, abuiltin, AV.cells, AV.one, reduceCtorEq, ↓reduceIte, nLT, nLE, nEQ, nAdd, nMul, nPow, nSub, zLT, zLE, zNat, RAes10163, DB]
          refine hX ?_
          clear hX hY X Y
          refine awp_skip ?_
          refine hK2 _ _ ?_
          clear hK2 K2
          refine awp_seq_k ?_
          intro K3 hK3
          refine awp_block ?_
          have hstep : Aes.redL (m + 1) p2 = Aes.redL m (if p2 / 2 ^ (8 + m) % 2 = 1 then p2 ^^^ (283 * 2 ^ m) else p2) := rfl
          have hpb := poly_bound m (by omega)
          have h78 : 7 + (m + 1) = 8 + m := by omega
          have hsub1 : isub .i64 ((8 + m : Nat) : Int) 1 = ((7 + m : Nat) : Int) := by
            have := i64_sub (8 + m) 1 (by omega) (by omega)
            rw [show 8 + m - 1 = 7 + m by omega] at this
            exact this
          have hsub8 : isub .i64 ((8 + m : Nat) : Int) 8 = ((m : Nat) : Int) := by
            have := i64_sub (8 + m) 8 (by omega) (by omega)
            rw [show 8 + m - 8 = m by omega] at this
            exact this
          have h283 : ishl .i64 283 ((m : Nat) : Int) = ((283 * 2 ^ m : Nat) : Int) := n_shl 283 m (by omega) (by omega)
          rw [h78] at f7
          have hgo : ∀ (E3 : Env) (p3 : Nat), E3 5 = nV p3 → E3 7 = nV (8 + m) → p3 < 2 ^ 15 → Aes.redL m p3 = Aes.redL 7 p → K3 E3 s2 := by
            intro E3 p3 g5 g7 hp3 hinv3
            refine hK3 _ _ ?_
            clear hK3 K3
            refine awp_reg_end ?_
            intro K hK
            simp only [↓DN, UP, DF, ashift, aconv, aindexAddr, aindex, aslice, abuiltin, AV.cells, AV.one, reduceCtorEq, ↓reduceIte, nLT, nLE, nEQ, nAdd, nMul, nPow, nSub, zLT, zLE, zNat, RAes10163, g7, hsub1]
            refine hK _ _ ?_
            clear hK K
            refine ⟨⟨m, p3, by omega, by simp only [upd, g5, Nat.reduceEqDiff, ↓reduceIte], by simp only [upd, ↓reduceIte], hp3, hinv3, rfl⟩, ?_⟩
            simp only [f7, upd, ↓reduceIte]
            omega
          clear hK3
          have hsh := n_shr p2 (8 + m) (by omega)
          rcases mod2_cases (p2 / 2 ^ (8 + m)) with hodd | heven
          · rw [if_pos hodd] at hstep
            refine awp_reg_seq ?_
            intro K hK
            simp only [↓DN, UP, DF, ashift, aconv, aindexAddr, aindex, aslice, abuiltin, AV.cells, AV.one, reduceCtorEq, ↓reduceIte, nLT, nLE, nEQ, nAdd, nMul, nPow, nSub, zLT, zLE, zNat, RAes10163, f5, f7, nat_not_neg, hsh, rem2, two_ne, hodd, one_beq]
            refine hK _ _ ?_
            clear hK K
            refine awp_cond_k ?_
            intro X Y hX hY
            simp only [↓DN, UP, DF, ashift, aconv, aindexAddr, aindex, aslice, abuiltin, AV.cells, AV.one, reduceCtorEq, ↓reduceIte, nLT, nLE, nEQ, nAdd, nMul, nPow, nSub, zLT, zLE, zNat, RAes10163, DB]
            refine hX ?_
            clear hX hY X Y
            refine awp_reg_end ?_
            intro K hK
            simp only [↓DN, UP, DF, ashift, aconv, aindexAddr, aindex, aslice, abuiltin, AV.cells, AV.one, reduceCtorEq, ↓reduceIte, nLT, nLE, nEQ, nAdd, nMul, nPow, nSub, zLT, zLE, zNat, RAes10163, f5, f7, nat_not_neg, hsub8, h283, n_xor p2 (283 * 2 ^ m) (by omega) (by omega)]
            refine hK _ _ ?_
            clear hK K
            simp only [blockQ, thenQ, if_true, if_false]
            exact hgo _ (p2 ^^^ (283 * 2 ^ m)) (by simp only [upd, ↓reduceIte]) (by simp only [upd, f7, Nat.reduceEqDiff, ↓reduceIte]) (Nat.xor_lt_two_pow hp2 hpb) (by rw [← hstep]; exact hinv2)
          · rw [if_neg (by omega)] at hstep
            refine awp_reg_seq ?_
            intro K hK
            simp only [↓DN, UP, DF, ashift, aconv, aindexAddr, aindex, aslice, abuiltin, AV.cells, AV.one, reduceCtorEq, ↓reduceIte, nLT, nLE, nEQ, nAdd, nMul, nPow, nSub, zLT, zLE, zNat, RAes10163, f5, f7, nat_not_neg, hsh, rem2, two_ne, heven, zero_beq1]
            refine hK _ _ ?_
            clear hK K
            refine awp_cond_k ?_
            intro X Y hX hY
            simp only [↓DN, UP, DF, ashift, aconv, aindexAddr, aindex, aslice, abuiltin, AV.cells, AV.one, reduceCtorEq, ↓reduceIte, nLT, nLE, nEQ, nAdd, nMul, nPow, nSub, zLT, zLE, zNat, RAes10163, DB]
            refine hY ?_
            clear hX hY X Y
            refine awp_skip ?_
            simp only [blockQ, thenQ, if_true, if_false]
            exact hgo _ p2 (by simp only [upd, f5, Nat.reduceEqDiff, ↓reduceIte]) (by simp only [upd, f7, Nat.reduceEqDiff, ↓reduceIte]) hp2 (by rw [← hstep]; exact hinv2)

end Go.Proofs.YtpakgjmcaefnmaaDoor


