/- Contracts of the program's functions, each walked once; the conditions stand in each theorem. -/
import Derived.Test.YtooeklnbdgoneaaDoorAMp6
import Derived.Test.YtooeklnbdgoneaaDoorW6
import Derived.Test.YtooeklnbdgoneaaDoorAMp3
set_option linter.unusedSimpArgs false
set_option linter.unusedVariables false
open Nat renaming reduceLT → nLT, reduceLeDiff → nLE, reduceEqDiff → nEQ, reduceAdd → nAdd, reduceMul → nMul, reducePow → nPow, reduceSub → nSub
open Int renaming reduceLT → zLT, reduceLE → zLE, reduceToNat → zNat
open Go.AM renaming ashift → qSh, aconv → qCv, aindexAddr → qIA, aindex → qIx, aslice → qSl, abuiltin → qBu
open Go.AM.AV renaming cells → qCe, one → qOn
set_option autoImplicit false
namespace Go.Proofs.YtooeklnbdgoneaaDoor
open Go Go.AM Go.Proofs

theorem RAes6122 : type_of% (And.intro (And.intro (And.intro (And.intro (And.intro (And.intro @Tryd.underlying3 T.c3) (And.intro T.g3 T.b3)) (And.intro (And.intro T.z3 @Tryd.underlying4) (And.intro T.c4 (And.intro T.g4 T.b4)))) (And.intro (And.intro (And.intro T.z4 @Tryd.underlying5) (And.intro T.c5 T.g5)) (And.intro (And.intro T.b5 T.z5) (And.intro @Tryd.underlying22 (And.intro T.c22 T.g22))))) (And.intro (And.intro (And.intro (And.intro T.b22 T.z22) (And.intro T.s22 @Tryd.underlying138)) (And.intro (And.intro T.c138 T.g138) (And.intro T.b138 (And.intro T.z138 @Tryd.underlying147)))) (And.intro (And.intro (And.intro T.c147 T.g147) (And.intro T.b147 @Tryd.underlying156)) (And.intro (And.intro T.c156 T.g156) (And.intro T.b156 (And.intro T.z156 T.k128)))))) Tryd.ntmps122) :=
  (And.intro (And.intro (And.intro (And.intro (And.intro (And.intro @Tryd.underlying3 T.c3) (And.intro T.g3 T.b3)) (And.intro (And.intro T.z3 @Tryd.underlying4) (And.intro T.c4 (And.intro T.g4 T.b4)))) (And.intro (And.intro (And.intro T.z4 @Tryd.underlying5) (And.intro T.c5 T.g5)) (And.intro (And.intro T.b5 T.z5) (And.intro @Tryd.underlying22 (And.intro T.c22 T.g22))))) (And.intro (And.intro (And.intro (And.intro T.b22 T.z22) (And.intro T.s22 @Tryd.underlying138)) (And.intro (And.intro T.c138 T.g138) (And.intro T.b138 (And.intro T.z138 @Tryd.underlying147)))) (And.intro (And.intro (And.intro T.c147 T.g147) (And.intro T.b147 @Tryd.underlying156)) (And.intro (And.intro T.c156 T.g156) (And.intro T.b156 (And.intro T.z156 T.k128)))))) Tryd.ntmps122)

variable {Γ : Nat → List AV}

theorem fresh_three {s : AS} {o p q r : Nat} {x y z : List AV} (h : (if r = q then some z else if r = p then some y else if r = o then some x else s.objs r) = none) : r ≠ q ∧ r ≠ p ∧ r ≠ o ∧ s.objs r = none := by
  by_cases h1 : r = q
  · rw [if_pos h1] at h; cases h
  · rw [if_neg h1] at h
    obtain ⟨h2, h3, h4⟩ := fresh_two h
    exact ⟨h1, h2, h3, h4⟩
theorem rem16 (a : Nat) : irem (a : Int) 16 = ((a % 16 : Nat) : Int) := irem_u a 16
theorem sixteen_ne : ¬ (16 : Int) = 0 := by decide

/-- A column, ahead of its mixing. -/
def preC (b : List UInt8) (col : Nat) : List UInt8 := (List.range 4).map fun i => Aes.sh b (4 * col + i)
def rndB (b : List UInt8) (last : Bool) (n : Nat) : UInt8 := (Aes.rnd b last).getD n 0
def colL (b : List UInt8) (last : Bool) (col : Nat) : List UInt8 := (List.range 4).map fun i => rndB b last (4 * col + i)
theorem colL_last (b : List UInt8) (col : Nat) (h : col < 4) : preC b col = colL b true col := by
  unfold preC colL
  apply List.map_congr_left
  intro i hi
  have := List.mem_range.1 hi
  rw [rndB, Aes.rnd_get b true _ (by omega), if_pos rfl]
theorem preC_at (b : List UInt8) (col i : Nat) (h : i < 4) : (preC b col).getD i 0 = Aes.sh b (4 * col + i) := Aes.range_get _ 4 i 0 h
theorem colL_mixed (b : List UInt8) (col : Nat) (h : col < 4) : mixB (preC b col) = colL b false col := by
  unfold mixB colL
  apply List.map_congr_left
  intro i hi
  have hi4 := List.mem_range.1 hi
  rw [rndB, Aes.rnd_get b false _ (by omega)]
  simp only [Bool.false_eq_true, if_false]
  have e1 : (4 * col + i) / 4 = col := by omega
  have e2 : (4 * col + i) % 4 = i := by omega
  rw [e1, e2]
  unfold Aes.mx
  simp only [preC_at b col i hi4, preC_at b col ((i + 1) % 4) (by omega), preC_at b col ((i + 2) % 4) (by omega), preC_at b col ((i + 3) % 4) (by omega)]
theorem sh_at (b : List UInt8) (col row : Nat) (h : row < 4) : Aes.S (b.getD ((4 * (col + row) + row) % 16) 0) = Aes.sh b (4 * col + row) := by
  have e1 : (4 * col + row) / 4 = col := by omega
  have e2 : (4 * col + row) % 4 = row := by omega
  have e3 : (4 * (col + row) + row) % 16 = 4 * ((col + row) % 4) + row := by omega
  rw [Aes.sh, e1, e2, e3]
theorem fill_col (b : List UInt8) (last : Bool) (G : Nat → UInt8) (col : Nat) : asetAll (fillG (rndB b last) G 16 (4 * col)) (4 * col) ((colL b last col).map byteV) = fillG (rndB b last) G 16 (4 * (col + 1)) := by
  have e : (colL b last col).map byteV = [bV (rndB b last (4 * col)), bV (rndB b last (4 * col + 1)), bV (rndB b last (4 * col + 1 + 1)), bV (rndB b last (4 * col + 1 + 1 + 1))] := rfl
  rw [e]
  simp only [asetAll]
  rw [fillG_set _ _ _ _ _ rfl, fillG_set _ _ _ _ _ rfl, fillG_set _ _ _ _ _ rfl, fillG_set _ _ _ _ _ rfl]
  rfl

theorem z16 : ([AV.v (.int .u8 0), AV.v (.int .u8 0), AV.v (.int .u8 0), AV.v (.int .u8 0), AV.v (.int .u8 0), AV.v (.int .u8 0), AV.v (.int .u8 0), AV.v (.int .u8 0), AV.v (.int .u8 0), AV.v (.int .u8 0), AV.v (.int .u8 0), AV.v (.int .u8 0), AV.v (.int .u8 0), AV.v (.int .u8 0), AV.v (.int .u8 0), AV.v (.int .u8 0)] : List AV) = List.replicate 16 (bV 0) := rfl
theorem z4 : ([AV.v (.int .u8 0), AV.v (.int .u8 0), AV.v (.int .u8 0), AV.v (.int .u8 0)] : List AV) = List.replicate 4 (bV 0) := rfl
theorem i64_mul4n (i : Nat) (h : i < 1000) : imul .i64 4 (i : Int) = ((4 * i : Nat) : Int) := by
  rw [imul_i64 (by omega)]
  omega

set_option maxHeartbeats 8000000 in
set_option maxRecDepth 100000 in
theorem aesRound_calls (b : List UInt8) (hb : b.length = 16) (last : Bool) (s : AS) :
    ACalls Tryd.prog Γ 122 [.agg (b.map byteV), .agg (Aes.sb.map byteV), .v (.bool last)] s (fun r s' => r = .agg ((Aes.rnd b last).map byteV) ∧ s' = s) := by
  refine acalls_body Tryd.func122 rfl Tryd.ntmps122 Tryd.results122 (by simp) ?_
  have hbl : (b.map byteV).length = 16 := by rw [List.length_map, hb]
  have hsl : (Aes.sb.map byteV).length = 256 := by rw [List.length_map, Aes.sb_len]
  refine awp_reg_seq ?_
  intro K hK
  simp only [↓DN, UP, DF, qSh, qCv, qIA, qIx, qSl, qBu, qCe, qOn, reduceCtorEq, ↓reduceIte, nLT, nLE, nEQ, nAdd, nMul, nPow, nSub, zLT, zLE, zNat, RAes6122]
  intro o3 ho3 o4 ho4
  obtain ⟨h43, ho4'⟩ := AS.fresh_set ho4
  intro o6 ho6
  obtain ⟨h64, h63, ho6'⟩ := fresh_two ho6
  rw [z16]
  refine hK _ _ ?_
  clear hK K
  refine awp_reg_seq ?_
  intro K hK
  simp only [↓DN, UP, DF, qSh, qCv, qIA, qIx, qSl, qBu, qCe, qOn, reduceCtorEq, ↓reduceIte, nLT, nLE, nEQ, nAdd, nMul, nPow, nSub, zLT, zLE, zNat, RAes6122]
  intro o7 ho7
  obtain ⟨h76, h74, h73, ho7'⟩ := fresh_three ho7
  rw [z16]
  refine hK _ _ ?_
  clear hK K
  generalize hs0 : (((s.set o3 (b.map byteV)).set o4 (Aes.sb.map byteV)).set o6 (List.replicate 16 (bV 0))).set o7 (List.replicate 16 (bV 0)) = s0 at *
  have j3 : s0.objs o3 = some (b.map byteV) := by rw [← hs0, AS.set_objs_ne _ h73.symm, AS.set_objs_ne _ h63.symm, AS.set_objs_ne _ h43.symm, AS.set_objs_same]
  have j4 : s0.objs o4 = some (Aes.sb.map byteV) := by rw [← hs0, AS.set_objs_ne _ h74.symm, AS.set_objs_ne _ h64.symm, AS.set_objs_same]
  have j6 : s0.objs o6 = some (List.replicate 16 (bV 0)) := by rw [← hs0, AS.set_objs_ne _ h76.symm, AS.set_objs_same]
  have j7 : s0.objs o7 = some (List.replicate 16 (bV 0)) := by rw [← hs0]; exact AS.set_objs_same _ _ _
  have hle : s.le s0 := by rw [← hs0]; exact AS.le_set (AS.le_set (AS.le_set (AS.le_set (AS.le.refl s) ho3 _) ho4' _) ho6' _) ho7' _
  clear hs0 ho4 ho6 ho7
  have hzl : (List.replicate 16 (bV 0)).length = 16 := by simp
  rw [← fillG_nought (rndB b last) 16] at j7
  generalize List.replicate 16 (bV 0) = Z at *
  refine awp_seq_k ?_
  intro K hK
  refine awp_reg_seq ?_
  intro K hK
  simp only [↓DN, UP, DF, qSh, qCv, qIA, qIx, qSl, qBu, qCe, qOn, reduceCtorEq, ↓reduceIte, nLT, nLE, nEQ, nAdd, nMul, nPow, nSub, zLT, zLE, zNat, RAes6122]
  refine hK _ _ ?_
  clear hK K
  refine awp_block ?_
  refine awp_loop (fun E s1 => ∃ i : Nat, i ≤ 4 ∧ E 2 = .v (.bool last) ∧ E 3 = .ptr o3 0 ∧ E 4 = .ptr o4 0 ∧ E 6 = .ptr o6 0 ∧ E 7 = .ptr o7 0 ∧ E 11 = .v (.int .i64 i) ∧ s1.objs o7 = some (fillG (rndB b last) (fun _ => 0) 16 (4 * i)) ∧ s1.objs o3 = some (b.map byteV) ∧ s1.objs o4 = some (Aes.sb.map byteV) ∧ s1.objs o6 = some Z ∧ s.le s1)
    (fun E _ => match E 11 with | .v (.int _ i) => 4 - i.toNat | _ => 0) ?_ ?_
  · exact ⟨0, by omega, by simp only [upd, initE, nEQ, ↓reduceIte]; rfl, by simp only [upd, nEQ, ↓reduceIte], by simp only [upd, nEQ, ↓reduceIte], by simp only [upd, nEQ, ↓reduceIte], by simp only [upd, nEQ, ↓reduceIte], by simp only [upd, ↓reduceIte]; rfl, j7, j3, j4, j6, hle⟩
  · clear j3 j4 j6 j7 hle
    rintro E1 s1 ⟨i, hi, e2, e3, e4, e6, e7, e11, j7, j3, j4, j6, hle⟩ -
    by_cases hi' : i < 4
    · have hi2 : (i : Int) < 4 := by omega
      refine awp_reg_seq ?_
      intro K hK
      simp only [↓DN, UP, DF, qSh, qCv, qIA, qIx, qSl, qBu, qCe, qOn, reduceCtorEq, ↓reduceIte, nLT, nLE, nEQ, nAdd, nMul, nPow, nSub, zLT, zLE, zNat, RAes6122, e11, decide_eq_true hi2]
      refine hK _ _ ?_
      clear hK K
      refine awp_seq_k ?_
      intro K2 hK2
      refine awp_cond_k ?_
      intro X Y hX hY
      simp only [↓DN, UP, DF, qSh, qCv, qIA, qIx, qSl, qBu, qCe, qOn, reduceCtorEq, ↓reduceIte, nLT, nLE, nEQ, nAdd, nMul, nPow, nSub, zLT, zLE, zNat, RAes6122, DB]
      refine hX ?_
      clear hX hY X Y
      refine awp_skip ?_
      refine hK2 _ _ ?_
      clear hK2 K2
      refine awp_seq_k ?_
      intro K3 hK3
      refine awp_block ?_
      refine awp_reg_seq ?_
      intro K hK
      simp only [↓DN, UP, DF, qSh, qCv, qIA, qIx, qSl, qBu, qCe, qOn, reduceCtorEq, ↓reduceIte, nLT, nLE, nEQ, nAdd, nMul, nPow, nSub, zLT, zLE, zNat, RAes6122, e11]
      refine hK _ _ ?_
      clear hK K
      refine awp_reg_seq ?_
      intro K hK
      simp only [↓DN, UP, DF, qSh, qCv, qIA, qIx, qSl, qBu, qCe, qOn, reduceCtorEq, ↓reduceIte, nLT, nLE, nEQ, nAdd, nMul, nPow, nSub, zLT, zLE, zNat, RAes6122]
      intro o9 ho9
      rw [z4]
      refine hK _ _ ?_
      clear hK K
      have n93 : o9 ≠ o3 := fun e => by rw [e, j3] at ho9; cases ho9
      have n94 : o9 ≠ o4 := fun e => by rw [e, j4] at ho9; cases ho9
      have n96 : o9 ≠ o6 := fun e => by rw [e, j6] at ho9; cases ho9
      have n97 : o9 ≠ o7 := fun e => by rw [e, j7] at ho9; cases ho9
      have hs9 : s.objs o9 = none := by
        cases h : s.objs o9 with
        | none => rfl
        | some cs => rw [hle.objs _ _ h] at ho9; cases ho9
      generalize hs2 : s1.set o9 (List.replicate 4 (bV 0)) = s2 at *
      have q3 : s2.objs o3 = some (b.map byteV) := by rw [← hs2, AS.set_objs_ne _ n93.symm]; exact j3
      have q4 : s2.objs o4 = some (Aes.sb.map byteV) := by rw [← hs2, AS.set_objs_ne _ n94.symm]; exact j4
      have q6 : s2.objs o6 = some Z := by rw [← hs2, AS.set_objs_ne _ n96.symm]; exact j6
      have q7 : s2.objs o7 = some (fillG (rndB b last) (fun _ => 0) 16 (4 * i)) := by rw [← hs2, AS.set_objs_ne _ n97.symm]; exact j7
      have q9 : s2.objs o9 = some (List.replicate 4 (bV 0)) := by rw [← hs2]; exact AS.set_objs_same _ _ _
      have hle2 : s.le s2 := by rw [← hs2]; exact AS.le_set hle hs9 _
      clear hs2 j3 j4 j6 j7 ho9 hle
      rw [← fillG_nought (fun r => Aes.sh b (4 * i + r)) 4] at q9
      refine awp_seq_k ?_
      intro K hK
      refine awp_reg_seq ?_
      intro K hK
      simp only [↓DN, UP, DF, qSh, qCv, qIA, qIx, qSl, qBu, qCe, qOn, reduceCtorEq, ↓reduceIte, nLT, nLE, nEQ, nAdd, nMul, nPow, nSub, zLT, zLE, zNat, RAes6122]
      refine hK _ _ ?_
      clear hK K
      refine awp_block ?_
      refine awp_loop (fun E s3 => ∃ r : Nat, r ≤ 4 ∧ E 2 = .v (.bool last) ∧ E 3 = .ptr o3 0 ∧ E 4 = .ptr o4 0 ∧ E 6 = .ptr o6 0 ∧ E 7 = .ptr o7 0 ∧ E 8 = .v (.int .i64 i) ∧ E 9 = .ptr o9 0 ∧ E 11 = .v (.int .i64 i) ∧ E 14 = .v (.int .i64 r) ∧ s3.objs o9 = some (fillG (fun r => Aes.sh b (4 * i + r)) (fun _ => 0) 4 r) ∧ s3.objs o7 = some (fillG (rndB b last) (fun _ => 0) 16 (4 * i)) ∧ s3.objs o3 = some (b.map byteV) ∧ s3.objs o4 = some (Aes.sb.map byteV) ∧ s3.objs o6 = some Z ∧ s.le s3)
        (fun E _ => match E 14 with | .v (.int _ i) => 4 - i.toNat | _ => 0) ?_ ?_
      · exact ⟨0, by omega, by simp only [upd, e2, nEQ, ↓reduceIte], by simp only [upd, e3, nEQ, ↓reduceIte], by simp only [upd, e4, nEQ, ↓reduceIte], by simp only [upd, e6, nEQ, ↓reduceIte], by simp only [upd, e7, nEQ, ↓reduceIte], by simp only [upd, nEQ, ↓reduceIte], by simp only [upd, nEQ, ↓reduceIte], by simp only [upd, e11, nEQ, ↓reduceIte], by simp only [upd, ↓reduceIte]; rfl, q9, q7, q3, q4, q6, hle2⟩
      · clear q3 q4 q6 q7 q9 hle2
        rintro E4 s3 ⟨r, hr, g2, g3, g4, g6, g7, g8, g9, g11, g14, q9, q7, q3, q4, q6, hle2⟩ -
        by_cases hr' : r < 4
        · have hr2 : (r : Int) < 4 := by omega
          refine awp_reg_seq ?_
          intro K hK
          simp only [↓DN, UP, DF, qSh, qCv, qIA, qIx, qSl, qBu, qCe, qOn, reduceCtorEq, ↓reduceIte, nLT, nLE, nEQ, nAdd, nMul, nPow, nSub, zLT, zLE, zNat, RAes6122, g14, decide_eq_true hr2]
          refine hK _ _ ?_
          clear hK K
          refine awp_seq_k ?_
          intro K6 hK6
          refine awp_cond_k ?_
          intro X Y hX hY
          simp only [↓DN, UP, DF, qSh, qCv, qIA, qIx, qSl, qBu, qCe, qOn, reduceCtorEq, ↓reduceIte, nLT, nLE, nEQ, nAdd, nMul, nPow, nSub, zLT, zLE, zNat, RAes6122, DB]
          refine hX ?_
          clear hX hY X Y
          refine awp_skip ?_
          refine hK6 _ _ ?_
          clear hK6 K6
          refine awp_seq_k ?_
          intro K7 hK7
          refine awp_block ?_
          refine awp_reg_seq ?_
          intro K hK
          simp only [↓DN, UP, DF, qSh, qCv, qIA, qIx, qSl, qBu, qCe, qOn, reduceCtorEq, ↓reduceIte, nLT, nLE, nEQ, nAdd, nMul, nPow, nSub, zLT, zLE, zNat, RAes6122, g14]
          refine hK _ _ ?_
          clear hK K
          have hset := fillG_set (fun r => Aes.sh b (4 * i + r)) (fun _ => 0) 4 r _ rfl
          rw [← sh_at b i r hr'] at hset
          have hlen := fillG_len (fun r => Aes.sh b (4 * i + r)) (fun _ => 0) 4 r
          have a0 := i64_add i r (by omega)
          have a1 := i64_mul4n (i + r) (by omega)
          have a2 := i64_add (4 * (i + r)) r (by omega)
          have a3 := rem16 (4 * (i + r) + r)
          have db := bytes_drop (l := b) ((4 * (i + r) + r) % 16) (by omega)
          have k0 : (0 : Int) ≤ (((4 * (i + r) + r) % 16 : Nat) : Int) := by omega
          have k1 : (((4 * (i + r) + r) % 16 : Nat) : Int) < ((16 : Nat) : Int) := by omega
          generalize (4 * (i + r) + r) % 16 = m at *
          have hm := (b.getD m 0).toNat_lt
          have ds := bytes_drop (l := Aes.sb) (b.getD m 0).toNat (by rw [Aes.sb_len]; omega)
          rw [show Aes.sb.getD (b.getD m 0).toNat 0 = Aes.S (b.getD m 0) from rfl] at ds
          generalize Aes.S (b.getD m 0) = y at *
          generalize b.getD m 0 = x at *
          have k2 : (0 : Int) ≤ ((x.toNat : Nat) : Int) := by omega
          have k3 : ((x.toNat : Nat) : Int) < ((256 : Nat) : Int) := by omega
          have hr0 : (0 : Int) ≤ (r : Int) := by omega
          have hr3 : (r : Int) < ((4 : Nat) : Int) := by omega
          generalize hR' : fillG (fun r => Aes.sh b (4 * i + r)) (fun _ => 0) 4 (r + 1) = R' at *
          generalize fillG (fun r => Aes.sh b (4 * i + r)) (fun _ => 0) 4 r = R at *
          generalize hY1 : b.map byteV = Y1 at *
          generalize hY2 : Aes.sb.map byteV = Y2 at *
          refine awp_reg_end ?_
          intro K hK
          simp only [↓DN, UP, DF, qSh, qCv, qIA, qIx, qSl, qBu, qCe, qOn, reduceCtorEq, ↓reduceIte, nLT, nLE, nEQ, nAdd, nMul, nPow, nSub, zLT, zLE, zNat, RAes6122, g3, g4, g8, g9, g14, hr0, hr2, hr3, k0, k1, k2, k3, db, ds, a0, a1, a2, a3, sixteen_ne, n93, n93.symm, n94, n94.symm, h43, h43.symm, q3, q4, q9, byteV, hset, hlen, hbl, hsl]
          refine ⟨by omega, hK _ _ ?_⟩
          clear hK K
          simp only [blockQ, thenQ, if_true, if_false]
          refine hK7 _ _ ?_
          clear hK7 K7
          refine awp_reg_end ?_
          intro K hK
          simp only [↓DN, UP, DF, qSh, qCv, qIA, qIx, qSl, qBu, qCe, qOn, reduceCtorEq, ↓reduceIte, nLT, nLE, nEQ, nAdd, nMul, nPow, nSub, zLT, zLE, zNat, RAes6122, g14, w_succ r (by omega)]
          refine hK _ _ ?_
          clear hK K
          refine ⟨⟨r + 1, by omega, by simp only [upd, g2, nEQ, ↓reduceIte], by simp only [upd, g3, nEQ, ↓reduceIte], by simp only [upd, g4, nEQ, ↓reduceIte], by simp only [upd, g6, nEQ, ↓reduceIte], by simp only [upd, g7, nEQ, ↓reduceIte], by simp only [upd, g8, nEQ, ↓reduceIte], by simp only [upd, g9, nEQ, ↓reduceIte], by simp only [upd, g11, nEQ, ↓reduceIte], by simp only [upd, ↓reduceIte], by rw [hR']; exact AS.set_objs_same _ _ _, by rw [AS.set_objs_ne _ n97.symm]; exact q7, by rw [AS.set_objs_ne _ n93.symm, q3], by rw [AS.set_objs_ne _ n94.symm, q4], by rw [AS.set_objs_ne _ n96.symm]; exact q6, AS.le_set hle2 hs9 _⟩, ?_⟩
          simp only [g14, upd, ↓reduceIte]
          omega
        · have hr2 : ¬ (r : Int) < 4 := by omega
          obtain rfl : r = 4 := by omega
          refine awp_reg_seq ?_
          intro K hK
          simp only [↓DN, UP, DF, qSh, qCv, qIA, qIx, qSl, qBu, qCe, qOn, reduceCtorEq, ↓reduceIte, nLT, nLE, nEQ, nAdd, nMul, nPow, nSub, zLT, zLE, zNat, RAes6122, g14, decide_eq_false hr2]
          refine hK _ _ ?_
          clear hK K
          refine awp_seq_k ?_
          intro K6 hK6
          refine awp_cond_k ?_
          intro X Y hX hY
          simp only [↓DN, UP, DF, qSh, qCv, qIA, qIx, qSl, qBu, qCe, qOn, reduceCtorEq, ↓reduceIte, nLT, nLE, nEQ, nAdd, nMul, nPow, nSub, zLT, zLE, zNat, RAes6122, DB]
          refine hY ?_
          clear hX hY X Y
          refine awp_exit ?_
          simp only [thenQ, blockQ, if_true]
          clear hK6 K6
          refine hK _ _ ?_
          clear hK K
          rw [fillG_full, show (List.range 4).map (fun r => Aes.sh b (4 * i + r)) = preC b i from rfl] at q9
          refine awp_seq_k ?_
          intro K hK
          have hcopy : ∀ (E5 : Env) (s4 : AS), E5 2 = .v (.bool last) → E5 3 = .ptr o3 0 → E5 4 = .ptr o4 0 → E5 6 = .ptr o6 0 → E5 7 = .ptr o7 0 → E5 8 = .v (.int .i64 i) → E5 9 = .ptr o9 0 → E5 11 = .v (.int .i64 i) →
              s4.objs o9 = some ((colL b last i).map byteV) → s4.objs o7 = some (fillG (rndB b last) (fun _ => 0) 16 (4 * i)) → s4.objs o3 = some (b.map byteV) → s4.objs o4 = some (Aes.sb.map byteV) → s4.objs o6 = some Z → s.le s4 → K E5 s4 := by
            intro E5 s4 f2 f3 f4 f6 f7 f8 f9 f11 t9 t7 t3 t4 t6 hle4
            refine hK _ _ ?_
            clear hK K
            have hfc := fill_col b last (fun _ => 0) i
            have hcl : ((colL b last i).map byteV).length = 4 := by simp [colL]
            have hall := all_bytes (colL b last i)
            have htk : List.take 4 ((colL b last i).map byteV) = (colL b last i).map byteV := List.take_of_length_le (by omega)
            have hfl := fillG_len (rndB b last) (fun _ => 0) 16 (4 * i)
            generalize hC : (colL b last i).map byteV = C at *
            generalize hF' : fillG (rndB b last) (fun _ => 0) 16 (4 * (i + 1)) = F' at *
            generalize fillG (rndB b last) (fun _ => 0) 16 (4 * i) = F at *
            have a1 := i64_mul4n i (by omega)
            have l0 : (0 : Int) ≤ ((4 * i : Nat) : Int) := by omega
            have l1 : ((4 * i : Nat) : Int) ≤ ((16 : Nat) : Int) := by omega
            have l2 : ¬ (((16 : Nat) : Int) = ((4 * i : Nat) : Int)) := by omega
            have l3 : min 4 (16 - 4 * i) = 4 := by omega
            refine awp_drw_end T.mixed [4] (by kernel_rfl) ?_
            intro K hK
            simp only [↓AXq_nil, ↓AXq_cons, pval, DX, Nat.reduceBEq, ↓DN, UP, DF, qSh, qCv, qIA, qIx, qSl, qBu, qCe, qOn, reduceCtorEq, ↓reduceIte, nLT, nLE, nEQ, nAdd, nMul, nPow, nSub, zLT, zLE, zNat, RAes6122, f7, f8, f9, a1, l0, l1, l2, l3, show ((16 : Nat) : Int) ≤ ((16 : Nat) : Int) from by decide, show (0 : Int) ≤ ((4 : Nat) : Int) from by decide, show ((4 : Nat) : Int) ≤ ((4 : Nat) : Int) from by decide, show ¬ (((4 : Nat) : Int) = 0) from by decide, t9, t7, hcl, hall, htk, hfl, hfc, n97, n97.symm]
            refine ⟨by omega, hK _ _ ?_⟩
            clear hK K
            simp only [blockQ, thenQ, if_true, if_false]
            refine hK3 _ _ ?_
            clear hK3 K3
            refine awp_reg_end ?_
            intro K hK
            simp only [↓DN, UP, DF, qSh, qCv, qIA, qIx, qSl, qBu, qCe, qOn, reduceCtorEq, ↓reduceIte, nLT, nLE, nEQ, nAdd, nMul, nPow, nSub, zLT, zLE, zNat, RAes6122, f11, w_succ i (by omega)]
            refine hK _ _ ?_
            clear hK K
            refine ⟨⟨i + 1, by omega, by simp only [upd, f2, nEQ, ↓reduceIte], by simp only [upd, f3, nEQ, ↓reduceIte], by simp only [upd, f4, nEQ, ↓reduceIte], by simp only [upd, f6, nEQ, ↓reduceIte], by simp only [upd, f7, nEQ, ↓reduceIte], by simp only [upd, ↓reduceIte], by rw [hF']; exact AS.set_objs_same _ _ _, by rw [AS.set_objs_ne _ h73.symm]; exact t3, by rw [AS.set_objs_ne _ h74.symm]; exact t4, by rw [AS.set_objs_ne _ h76.symm]; exact t6, AS.le_set hle4 ho7' _⟩, ?_⟩
            simp only [e11, upd, ↓reduceIte]
            omega
          clear hK hK3
          cases last with
          | true =>
            rw [colL_last b i hi'] at q9
            refine awp_reg_seq ?_
            intro K hK
            simp only [↓DN, UP, DF, qSh, qCv, qIA, qIx, qSl, qBu, qCe, qOn, reduceCtorEq, ↓reduceIte, nLT, nLE, nEQ, nAdd, nMul, nPow, nSub, zLT, zLE, zNat, RAes6122, g2]
            refine hK _ _ ?_
            clear hK K
            refine awp_cond_k ?_
            intro X Y hX hY
            simp only [↓DN, UP, DF, qSh, qCv, qIA, qIx, qSl, qBu, qCe, qOn, reduceCtorEq, ↓reduceIte, nLT, nLE, nEQ, nAdd, nMul, nPow, nSub, zLT, zLE, zNat, RAes6122, DB]
            refine hY ?_
            clear hX hY X Y
            refine awp_skip ?_
            exact hcopy _ _ (by simp only [upd, g2, nEQ, ↓reduceIte]) (by simp only [upd, g3, nEQ, ↓reduceIte]) (by simp only [upd, g4, nEQ, ↓reduceIte]) (by simp only [upd, g6, nEQ, ↓reduceIte]) (by simp only [upd, g7, nEQ, ↓reduceIte]) (by simp only [upd, g8, nEQ, ↓reduceIte]) (by simp only [upd, g9, nEQ, ↓reduceIte]) (by simp only [upd, g11, nEQ, ↓reduceIte]) q9 q7 q3 q4 q6 hle2
          | false =>
            have hmixl : (mixB (preC b i)).map byteV = (colL b false i).map byteV := by rw [colL_mixed b i hi']
            have hpl : ((preC b i).map byteV).length = 4 := by simp [preC]
            have hpc := aesMix_calls (Γ := Γ) (preC b i) (by simp [preC]) s3
            have hpk : List.take 4 ((preC b i).map byteV) = (preC b i).map byteV := List.take_of_length_le (by omega)
            rw [hmixl] at hpc
            have hcl : ((colL b false i).map byteV).length = 4 := by simp [colL]
            have hall := all_bytes (colL b false i)
            generalize hC : (colL b false i).map byteV = C at *
            generalize (preC b i).map byteV = Pc at *
            refine awp_reg_seq ?_
            intro K hK
            simp only [↓DN, UP, DF, qSh, qCv, qIA, qIx, qSl, qBu, qCe, qOn, reduceCtorEq, ↓reduceIte, nLT, nLE, nEQ, nAdd, nMul, nPow, nSub, zLT, zLE, zNat, RAes6122, g2]
            refine hK _ _ ?_
            clear hK K
            refine awp_cond_k ?_
            intro X Y hX hY
            simp only [↓DN, UP, DF, qSh, qCv, qIA, qIx, qSl, qBu, qCe, qOn, reduceCtorEq, ↓reduceIte, nLT, nLE, nEQ, nAdd, nMul, nPow, nSub, zLT, zLE, zNat, RAes6122, DB]
            refine hX ?_
            clear hX hY X Y
            refine awp_reg_end ?_
            intro K hK
            simp only [↓DN, UP, DF, qSh, qCv, qIA, qIx, qSl, qBu, qCe, qOn, reduceCtorEq, ↓reduceIte, nLT, nLE, nEQ, nAdd, nMul, nPow, nSub, zLT, zLE, zNat, RAes6122, g9, q9, hpl, hpk]
            refine acallk hpc ?_
            rintro r5 s5 ⟨rfl, rfl⟩
            simp only [↓AXq_nil, ↓AXq_cons, pval, DX, Nat.reduceBEq, ↓DN, UP, DF, qSh, qCv, qIA, qIx, qSl, qBu, qCe, qOn, reduceCtorEq, ↓reduceIte, nLT, nLE, nEQ, nAdd, nMul, nPow, nSub, zLT, zLE, zNat, RAes6122, g9, q9, hpl, hcl, hall]
            rw [asetAll_whole Pc C (by omega)]
            refine hK _ _ ?_
            clear hK K
            exact hcopy _ _ (by simp only [upd, g2, nEQ, ↓reduceIte]) (by simp only [upd, g3, nEQ, ↓reduceIte]) (by simp only [upd, g4, nEQ, ↓reduceIte]) (by simp only [upd, g6, nEQ, ↓reduceIte]) (by simp only [upd, g7, nEQ, ↓reduceIte]) (by simp only [upd, g8, nEQ, ↓reduceIte]) (by simp only [upd, g9, nEQ, ↓reduceIte]) (by simp only [upd, g11, nEQ, ↓reduceIte]) (AS.set_objs_same _ _ _) (by rw [AS.set_objs_ne _ n97.symm]; exact q7) (by rw [AS.set_objs_ne _ n93.symm]; exact q3) (by rw [AS.set_objs_ne _ n94.symm]; exact q4) (by rw [AS.set_objs_ne _ n96.symm]; exact q6) (AS.le_set hle2 hs9 _)
    · have hi2 : ¬ (i : Int) < 4 := by omega
      obtain rfl : i = 4 := by omega
      refine awp_reg_seq ?_
      intro K hK
      simp only [↓DN, UP, DF, qSh, qCv, qIA, qIx, qSl, qBu, qCe, qOn, reduceCtorEq, ↓reduceIte, nLT, nLE, nEQ, nAdd, nMul, nPow, nSub, zLT, zLE, zNat, RAes6122, e11, decide_eq_false hi2]
      refine hK _ _ ?_
      clear hK K
      refine awp_seq_k ?_
      intro K2 hK2
      refine awp_cond_k ?_
      intro X Y hX hY
      simp only [↓DN, UP, DF, qSh, qCv, qIA, qIx, qSl, qBu, qCe, qOn, reduceCtorEq, ↓reduceIte, nLT, nLE, nEQ, nAdd, nMul, nPow, nSub, zLT, zLE, zNat, RAes6122, DB]
      refine hY ?_
      clear hX hY X Y
      refine awp_exit ?_
      simp only [thenQ, blockQ, if_true]
      clear hK2 K2
      refine hK _ _ ?_
      clear hK K
      rw [show 4 * 4 = 16 from rfl, fillG_full, show (List.range 16).map (rndB b last) = Aes.rnd b last from range_list (Aes.rnd_len b last)] at j7
      have hwl : ((Aes.rnd b last).map byteV).length = 16 := by rw [List.length_map, Aes.rnd_len]
      have hall := all_bytes (Aes.rnd b last)
      have htk : List.take 16 ((Aes.rnd b last).map byteV) = (Aes.rnd b last).map byteV := List.take_of_length_le (by omega)
      generalize (Aes.rnd b last).map byteV = X at *
      refine awp_reg_seq ?_
      intro K hK
      simp only [↓DN, UP, DF, qSh, qCv, qIA, qIx, qSl, qBu, qCe, qOn, reduceCtorEq, ↓reduceIte, nLT, nLE, nEQ, nAdd, nMul, nPow, nSub, zLT, zLE, zNat, RAes6122, e6, e7, j6, j7, hwl, htk, hall, h76, h76.symm]
      rw [asetAll_whole Z X (by omega)]
      refine ⟨by omega, hK _ _ ?_⟩
      clear hK K
      refine awp_ret ?_
      refine aends_cell (v := .agg X) (o := o6) (off := 0) (by simp only [upd, e6, nEQ, ↓reduceIte]) (AS.set_objs_same _ _ _) (by rw [T.c138]; decide) (by simp only [↓DN, UP, DF, qSh, qCv, qIA, qIx, qSl, qBu, qCe, qOn, reduceCtorEq, ↓reduceIte, nLT, nLE, nEQ, nAdd, nMul, nPow, nSub, zLT, zLE, zNat, RAes6122, hwl, htk]) ?_
      exact ⟨_, s, AV.weak.refl _, AS.le_set hle ho6' _, rfl, rfl⟩

end Go.Proofs.YtooeklnbdgoneaaDoor


set_option autoImplicit false
namespace Go.Proofs.YtooeklnbdgoneaaDoor
open Go Go.AM Go.Proofs



variable {Γ : Nat → List AV}

theorem z167 : zcells Tryd.prog 149 = some (List.replicate 176 (bV 0)) := by kernel_rfl
theorem fillG_blit (F G : Nat → UInt8) (N : Nat) : ∀ (xs : List UInt8) (i : Nat), (∀ k, k < xs.length → xs.getD k 0 = F (i + k)) → asetAll (fillG F G N i) i (xs.map byteV) = fillG F G N (i + xs.length)
  | [], i, _ => by simp [asetAll]
  | x :: xs, i, h => by
    have h0 := h 0 (by simp)
    simp only [List.getD_cons_zero, Nat.add_zero] at h0
    rw [List.map_cons, asetAll, show byteV x = bV x from rfl, fillG_set F G N i x h0, fillG_blit F G N xs (i + 1) (fun k hk => by
      have := h (k + 1) (by simp; omega)
      rw [List.getD_cons_succ] at this
      rw [this]; congr 1; omega)]
    simp only [List.length_cons]
    congr 1
    omega
/-- The round keys, one behind the other. -/
def keysL (key : List UInt8) : List UInt8 := (List.range 176).map (Aes.ak key)
theorem keysL_len (key : List UInt8) : (keysL key).length = 176 := by simp [keysL]
theorem keys_take (key : List UInt8) (hk : key.length = 16) (G : Nat → UInt8) (q m : Nat) (hq : q < 11) (hm : (q + 1) * 16 ≤ m) : List.take 16 (List.drop (q * 16) (fillG (Aes.ak key) G 176 m)) = (Aes.kr key q).map byteV := by
  have hl := Aes.kr_len hk q
  apply List.ext_getElem
  · simp [fillG, hl]; omega
  · intro k h1 h2
    have hk16 : k < 16 := by simpa [hl] using h2
    simp only [List.getElem_take, List.getElem_drop, fillG, List.getElem_map, List.getElem_range]
    rw [if_pos (by omega), Aes.ak, show (q * 16 + k) / 16 = q by omega, show (q * 16 + k) % 16 = k by omega]
    simp [List.getElem?_eq_getElem (show k < (Aes.kr key q).length by omega)]
/-- An octet of round r + 1, ahead of its power. -/
def akP (key : List UInt8) (q n : Nat) : UInt8 := if n = (q + 1) * 16 then Aes.ak key n ^^^ Aes.pwr q else Aes.ak key n
theorem akP_low (key : List UInt8) (hk : key.length = 16) (q i : Nat) (hi : i < 4) : (Aes.kr key q).getD i 0 ^^^ Aes.S ((Aes.kr key q).getD (12 + (i + 1) % 4) 0) = akP key q ((q + 1) * 16 + i) := by
  have hl := Aes.ak_low hk q i hi
  have e1 : Aes.ak key (16 * q + i) = (Aes.kr key q).getD i 0 := by rw [Aes.ak, show (16 * q + i) / 16 = q by omega, show (16 * q + i) % 16 = i by omega]
  have e2 : Aes.ak key (16 * q + (12 + (i + 1) % 4)) = (Aes.kr key q).getD (12 + (i + 1) % 4) 0 := by rw [Aes.ak, show (16 * q + (12 + (i + 1) % 4)) / 16 = q by omega, show (16 * q + (12 + (i + 1) % 4)) % 16 = 12 + (i + 1) % 4 by omega]
  rw [e1, e2] at hl
  rw [akP, show (q + 1) * 16 + i = 16 * (q + 1) + i by omega]
  by_cases h0 : i = 0
  · rw [if_pos h0] at hl
    rw [if_pos (by omega), hl, UInt8.xor_assoc, UInt8.xor_self, UInt8.xor_zero]
  · rw [if_neg h0] at hl
    rw [if_neg (by omega), hl]
theorem akP_fill (key : List UInt8) (G : Nat → UInt8) (q : Nat) : fillG (akP key q) G 176 ((q + 1) * 16) = fillG (Aes.ak key) G 176 ((q + 1) * 16) := by
  unfold fillG
  apply List.map_congr_left
  intro n _
  by_cases h : n < (q + 1) * 16
  · rw [if_pos h, if_pos h, akP, if_neg (by omega)]
  · rw [if_neg h, if_neg h]
theorem akP_fix (key : List UInt8) (G : Nat → UInt8) (q : Nat) (hq : q < 10) : (fillG (akP key q) G 176 ((q + 1) * 16 + 4)).set ((q + 1) * 16) (bV (akP key q ((q + 1) * 16) ^^^ Aes.pwr q)) = fillG (Aes.ak key) G 176 ((q + 1) * 16 + 4) := by
  have e : akP key q ((q + 1) * 16) ^^^ Aes.pwr q = Aes.ak key ((q + 1) * 16) := by
    rw [akP, if_pos rfl, UInt8.xor_assoc, UInt8.xor_self, UInt8.xor_zero]
  rw [e]
  apply List.ext_getElem?
  intro k
  by_cases h : k = (q + 1) * 16
  · subst h
    rw [List.getElem?_set_self (by rw [fillG_len]; omega)]
    simp only [fillG, List.getElem?_map]
    rw [List.getElem?_range (by omega)]
    simp only [Option.map_some]
    rw [if_pos (by omega)]
    rfl
  · rw [List.getElem?_set_ne (by omega)]
    simp only [fillG, List.getElem?_map]
    by_cases hk : k < 176
    · rw [List.getElem?_range hk]
      simp only [Option.map_some]
      rw [akP, if_neg h]
    · rw [List.getElem?_eq_none (by simp; omega)]
      rfl
theorem ak_high16 (key : List UInt8) (hk : key.length = 16) (q i : Nat) (h4 : 4 ≤ i) (hi : i < 16) : (Aes.kr key q).getD i 0 ^^^ Aes.ak key ((q + 1) * 16 + (i - 4)) = Aes.ak key ((q + 1) * 16 + i) := by
  have hl := Aes.ak_high hk q i h4 hi
  have e1 : Aes.ak key (16 * q + i) = (Aes.kr key q).getD i 0 := by rw [Aes.ak, show (16 * q + i) / 16 = q by omega, show (16 * q + i) % 16 = i by omega]
  rw [e1] at hl
  rw [show (q + 1) * 16 + i = 16 * (q + 1) + i by omega, show (q + 1) * 16 + (i - 4) = 16 * (q + 1) + (i - 4) by omega, hl]
theorem add12 (m : Nat) (h : m < 1000) : iadd .i64 12 (m : Int) = ((12 + m : Nat) : Int) := by
  rw [iadd_i64 (by omega)]
  omega
theorem S_at (x : UInt8) : Aes.sb.getD x.toNat 0 = Aes.S x := rfl

end Go.Proofs.YtooeklnbdgoneaaDoor


set_option autoImplicit false
namespace Go.Proofs.YtooeklnbdgoneaaDoor
open Go Go.AM Go.Proofs

theorem RAes8120 : type_of% (And.intro (And.intro (And.intro (And.intro (And.intro @Tryd.underlying3 (And.intro T.c3 T.g3)) (And.intro T.b3 (And.intro T.z3 @Tryd.underlying5))) (And.intro (And.intro T.c5 (And.intro T.g5 T.b5)) (And.intro T.z5 (And.intro @Tryd.underlying138 T.c138)))) (And.intro (And.intro (And.intro T.g138 (And.intro T.b138 T.z138)) (And.intro @Tryd.underlying147 (And.intro T.c147 T.g147))) (And.intro (And.intro T.b147 (And.intro @Tryd.underlying149 T.c149)) (And.intro T.g149 (And.intro T.b149 T.k127))))) Tryd.ntmps120) :=
  (And.intro (And.intro (And.intro (And.intro (And.intro @Tryd.underlying3 (And.intro T.c3 T.g3)) (And.intro T.b3 (And.intro T.z3 @Tryd.underlying5))) (And.intro (And.intro T.c5 (And.intro T.g5 T.b5)) (And.intro T.z5 (And.intro @Tryd.underlying138 T.c138)))) (And.intro (And.intro (And.intro T.g138 (And.intro T.b138 T.z138)) (And.intro @Tryd.underlying147 (And.intro T.c147 T.g147))) (And.intro (And.intro T.b147 (And.intro @Tryd.underlying149 T.c149)) (And.intro T.g149 (And.intro T.b149 T.k127))))) Tryd.ntmps120)

variable {Γ : Nat → List AV}

set_option maxHeartbeats 8000000 in
set_option maxRecDepth 100000 in
theorem expandA_calls (key : List UInt8) (hk : key.length = 16) (s : AS) :
    ACalls Tryd.prog Γ 120 [.agg (key.map byteV), .agg (Aes.sb.map byteV)] s (fun r s' => r = .agg ((keysL key).map byteV) ∧ s' = s) := by
  refine acalls_body Tryd.func120 rfl Tryd.ntmps120 Tryd.results120 (by simp) ?_
  have hkl : (key.map byteV).length = 16 := by rw [List.length_map, hk]
  have hktk : List.take 16 (key.map byteV) = key.map byteV := List.take_of_length_le (by omega)
  have hkall := all_bytes key
  have hsl : (Aes.sb.map byteV).length = 256 := by rw [List.length_map, Aes.sb_len]
  refine awp_reg_seq ?_
  intro K hK
  simp only [↓DN, UP, DF, qSh, qCv, qIA, qIx, qSl, qBu, qCe, qOn, reduceCtorEq, ↓reduceIte, nLT, nLE, nEQ, nAdd, nMul, nPow, nSub, zLT, zLE, zNat, RAes8120, z167]
  intro o2 ho2 o3 ho3
  obtain ⟨h32, ho3'⟩ := AS.fresh_set ho3
  intro o4 ho4
  obtain ⟨h43, h42, ho4'⟩ := fresh_two ho4
  refine hK _ _ ?_
  clear hK K
  refine awp_reg_seq ?_
  intro K hK
  simp only [↓DN, UP, DF, qSh, qCv, qIA, qIx, qSl, qBu, qCe, qOn, reduceCtorEq, ↓reduceIte, nLT, nLE, nEQ, nAdd, nMul, nPow, nSub, zLT, zLE, zNat, RAes8120, z167]
  intro o5 ho5
  obtain ⟨h54, h53, h52, ho5'⟩ := fresh_three ho5
  refine hK _ _ ?_
  clear hK K
  generalize hs0 : (((s.set o2 (key.map byteV)).set o3 (Aes.sb.map byteV)).set o4 (List.replicate 176 (bV 0))).set o5 (List.replicate 176 (bV 0)) = s0 at *
  have j2 : s0.objs o2 = some (key.map byteV) := by rw [← hs0, AS.set_objs_ne _ h52.symm, AS.set_objs_ne _ h42.symm, AS.set_objs_ne _ h32.symm, AS.set_objs_same]
  have j3 : s0.objs o3 = some (Aes.sb.map byteV) := by rw [← hs0, AS.set_objs_ne _ h53.symm, AS.set_objs_ne _ h43.symm, AS.set_objs_same]
  have j4 : s0.objs o4 = some (List.replicate 176 (bV 0)) := by rw [← hs0, AS.set_objs_ne _ h54.symm, AS.set_objs_same]
  have j5 : s0.objs o5 = some (List.replicate 176 (bV 0)) := by rw [← hs0]; exact AS.set_objs_same _ _ _
  have hle : s.le s0 := by rw [← hs0]; exact AS.le_set (AS.le_set (AS.le_set (AS.le_set (AS.le.refl s) ho2 _) ho3' _) ho4' _) ho5' _
  clear hs0 ho3 ho4 ho5
  have hzl : (List.replicate 176 (bV 0)).length = 176 := by simp
  rw [← fillG_nought (Aes.ak key) 176] at j5
  generalize List.replicate 176 (bV 0) = Z at *
  have hblit := fillG_blit (Aes.ak key) (fun _ => 0) 176 key 0 (fun k h => by rw [Nat.zero_add, Aes.ak_key k (by omega)])
  rw [Nat.zero_add, hk] at hblit
  have hl0 := fillG_len (Aes.ak key) (fun _ => 0) 176 0
  generalize fillG (Aes.ak key) (fun _ => 0) 176 0 = R0 at *
  refine awp_reg_seq ?_
  intro K hK
  simp only [↓DN, UP, DF, qSh, qCv, qIA, qIx, qSl, qBu, qCe, qOn, reduceCtorEq, ↓reduceIte, nLT, nLE, nEQ, nAdd, nMul, nPow, nSub, zLT, zLE, zNat, RAes8120, j2, j5, hkl, hktk, hkall, hl0, hblit, h52, h52.symm, show (0 : Int) < ((11 : Nat) : Int) from by decide]
  refine hK _ _ ?_
  clear hK K hblit
  generalize hs1 : s0.set o5 (fillG (Aes.ak key) (fun _ => 0) 176 16) = s1 at *
  have q3 : s1.objs o3 = some (Aes.sb.map byteV) := by rw [← hs1, AS.set_objs_ne _ h53.symm]; exact j3
  have q4 : s1.objs o4 = some Z := by rw [← hs1, AS.set_objs_ne _ h54.symm]; exact j4
  have q5 : s1.objs o5 = some (fillG (Aes.ak key) (fun _ => 0) 176 16) := by rw [← hs1]; exact AS.set_objs_same _ _ _
  have hle1 : s.le s1 := by rw [← hs1]; exact AS.le_set hle ho5' _
  clear hs1 j2 j3 j4 j5 hle
  refine awp_reg_seq ?_
  intro K hK
  simp only [↓DN, UP, DF, qSh, qCv, qIA, qIx, qSl, qBu, qCe, qOn, reduceCtorEq, ↓reduceIte, nLT, nLE, nEQ, nAdd, nMul, nPow, nSub, zLT, zLE, zNat, RAes8120]
  refine hK _ _ ?_
  clear hK K
  refine awp_seq_k ?_
  intro K hK
  refine awp_reg_seq ?_
  intro K hK
  simp only [↓DN, UP, DF, qSh, qCv, qIA, qIx, qSl, qBu, qCe, qOn, reduceCtorEq, ↓reduceIte, nLT, nLE, nEQ, nAdd, nMul, nPow, nSub, zLT, zLE, zNat, RAes8120]
  refine hK _ _ ?_
  clear hK K
  refine awp_block ?_
  refine awp_loop (fun E s2 => ∃ q : Nat, q ≤ 10 ∧ E 3 = .ptr o3 0 ∧ E 4 = .ptr o4 0 ∧ E 5 = .ptr o5 0 ∧ E 6 = bV (Aes.pwr q) ∧ E 7 = .v (.int .i64 ((q + 1 : Nat) : Int)) ∧ s2.objs o3 = some (Aes.sb.map byteV) ∧ s2.objs o4 = some Z ∧ s2.objs o5 = some (fillG (Aes.ak key) (fun _ => 0) 176 ((q + 1) * 16)) ∧ s.le s2)
    (fun E _ => match E 7 with | .v (.int _ i) => 11 - i.toNat | _ => 0) ?_ ?_
  · exact ⟨0, by omega, by simp only [upd, nEQ, ↓reduceIte], by simp only [upd, nEQ, ↓reduceIte], by simp only [upd, nEQ, ↓reduceIte], by simp only [upd, nEQ, ↓reduceIte]; rfl, by simp only [upd, ↓reduceIte]; rfl, q3, q4, q5, hle1⟩
  · clear q3 q4 q5 hle1
    rintro E1 s2 ⟨q, hq, e3, e4, e5, e6, e7, j3, j4, j5, hle⟩ -
    refine awp_seq_k ?_
    intro K2 hK2
    by_cases hq' : q < 10
    · have hl := Aes.kr_len hk q
      refine awp_reg_seq ?_
      intro K hK
      simp only [↓DN, UP, DF, qSh, qCv, qIA, qIx, qSl, qBu, qCe, qOn, reduceCtorEq, ↓reduceIte, nLT, nLE, nEQ, nAdd, nMul, nPow, nSub, zLT, zLE, zNat, RAes8120, e7, decide_eq_true (show ((q + 1 : Nat) : Int) ≤ 10 by omega)]
      refine hK _ _ ?_
      clear hK K
      refine awp_cond_k ?_
      intro X Y hX hY
      simp only [↓DN, UP, DF, qSh, qCv, qIA, qIx, qSl, qBu, qCe, qOn, reduceCtorEq, ↓reduceIte, nLT, nLE, nEQ, nAdd, nMul, nPow, nSub, zLT, zLE, zNat, RAes8120, DB]
      refine hX ?_
      clear hX hY X Y
      refine awp_skip ?_
      refine hK2 _ _ ?_
      clear hK2 K2
      refine awp_seq_k ?_
      intro K3 hK3
      refine awp_block ?_
      have hld := keys_take key hk (fun _ => 0) q ((q + 1) * 16) (by omega) (Nat.le_refl _)
      have hsub : isub .i64 ((q + 1 : Nat) : Int) 1 = ((q : Nat) : Int) := i64_sub (q + 1) 1 (by omega) (by omega)
      have hfl := fillG_len (Aes.ak key) (fun _ => 0) 176 ((q + 1) * 16)
      have hWl : ((Aes.kr key q).map byteV).length = 16 := by rw [List.length_map, hl]
      have hWall := all_bytes (Aes.kr key q)
      have k0 : (0 : Int) ≤ ((q : Nat) : Int) := by omega
      have k1 : ((q : Nat) : Int) < ((11 : Nat) : Int) := by omega
      have k2 : q * 16 + 16 ≤ 176 := by omega
      have hdl : 16 ≤ (List.drop (q * 16) (fillG (Aes.ak key) (fun _ => 0) 176 ((q + 1) * 16))).length := by rw [List.length_drop, hfl]; omega
      generalize hO : fillG (Aes.ak key) (fun _ => 0) 176 ((q + 1) * 16) = O at *
      generalize hW : (Aes.kr key q).map byteV = W at *
      refine awp_reg_seq ?_
      intro K hK
      simp only [↓DN, UP, DF, qSh, qCv, qIA, qIx, qSl, qBu, qCe, qOn, reduceCtorEq, ↓reduceIte, nLT, nLE, nEQ, nAdd, nMul, nPow, nSub, zLT, zLE, zNat, RAes8120, e5, e7, hsub, j5, hld, hWl, hWall, k0, k1, k2, hfl, hdl, Nat.le_refl]
      intro o8 ho8
      rw [z16, asetAll_whole (List.replicate 16 (bV 0)) W (by rw [hWl]; simp)]
      refine hK _ _ ?_
      clear hK K
      have n83 : o8 ≠ o3 := fun e => by rw [e, j3] at ho8; cases ho8
      have n84 : o8 ≠ o4 := fun e => by rw [e, j4] at ho8; cases ho8
      have n85 : o8 ≠ o5 := fun e => by rw [e, j5] at ho8; cases ho8
      have hs8 : s.objs o8 = none := by
        cases h : s.objs o8 with
        | none => rfl
        | some cs => rw [hle.objs _ _ h] at ho8; cases ho8
      generalize hs3 : s2.set o8 W = s3 at *
      have q3 : s3.objs o3 = some (Aes.sb.map byteV) := by rw [← hs3, AS.set_objs_ne _ n83.symm]; exact j3
      have q4 : s3.objs o4 = some Z := by rw [← hs3, AS.set_objs_ne _ n84.symm]; exact j4
      have q5 : s3.objs o5 = some O := by rw [← hs3, AS.set_objs_ne _ n85.symm]; exact j5
      have q8 : s3.objs o8 = some W := by rw [← hs3]; exact AS.set_objs_same _ _ _
      have hle3 : s.le s3 := by rw [← hs3]; exact AS.le_set hle hs8 _
      clear hs3 j3 j4 j5 ho8 hle
      have k3 : (0 : Int) ≤ ((q + 1 : Nat) : Int) := by omega
      have k4 : ((q + 1 : Nat) : Int) < ((11 : Nat) : Int) := by omega
      refine awp_reg_seq ?_
      intro K hK
      simp only [↓DN, UP, DF, qSh, qCv, qIA, qIx, qSl, qBu, qCe, qOn, reduceCtorEq, ↓reduceIte, nLT, nLE, nEQ, nAdd, nMul, nPow, nSub, zLT, zLE, zNat, RAes8120, e5, e7, k3, k4]
      refine hK _ _ ?_
      clear hK K
      rw [← hO, ← akP_fill key (fun _ => 0) q] at q5
      clear hld hfl hdl hO O
      refine awp_seq_k ?_
      intro K4 hK4
      refine awp_reg_seq ?_
      intro K hK
      simp only [↓DN, UP, DF, qSh, qCv, qIA, qIx, qSl, qBu, qCe, qOn, reduceCtorEq, ↓reduceIte, nLT, nLE, nEQ, nAdd, nMul, nPow, nSub, zLT, zLE, zNat, RAes8120]
      refine hK _ _ ?_
      clear hK K
      refine awp_block ?_
      refine awp_loop (fun E s4 => ∃ i : Nat, i ≤ 4 ∧ E 3 = .ptr o3 0 ∧ E 4 = .ptr o4 0 ∧ E 5 = .ptr o5 0 ∧ E 6 = bV (Aes.pwr q) ∧ E 7 = .v (.int .i64 ((q + 1 : Nat) : Int)) ∧ E 8 = .ptr o8 0 ∧ E 9 = .ptr o5 ((q + 1) * 16) ∧ E 24 = .v (.int .i64 i) ∧ s4.objs o3 = some (Aes.sb.map byteV) ∧ s4.objs o4 = some Z ∧ s4.objs o5 = some (fillG (akP key q) (fun _ => 0) 176 ((q + 1) * 16 + i)) ∧ s4.objs o8 = some W ∧ s.le s4)
        (fun E _ => match E 24 with | .v (.int _ i) => 4 - i.toNat | _ => 0) ?_ ?_
      · exact ⟨0, by omega, by simp only [upd, e3, nEQ, ↓reduceIte], by simp only [upd, e4, nEQ, ↓reduceIte], by simp only [upd, e5, nEQ, ↓reduceIte], by simp only [upd, e6, nEQ, ↓reduceIte], by simp only [upd, e7, nEQ, ↓reduceIte], by simp only [upd, nEQ, ↓reduceIte], by simp only [upd, nEQ, ↓reduceIte], by simp only [upd, ↓reduceIte]; rfl, q3, q4, q5, q8, hle3⟩
      · clear q3 q4 q5 q8 hle3
        rintro E4 s4 ⟨i, hi, g3, g4, g5, g6, g7, g8, g9, g24, q3, q4, q5, q8, hle3⟩ -
        by_cases hi' : i < 4
        · refine awp_reg_seq ?_
          intro K hK
          simp only [↓DN, UP, DF, qSh, qCv, qIA, qIx, qSl, qBu, qCe, qOn, reduceCtorEq, ↓reduceIte, nLT, nLE, nEQ, nAdd, nMul, nPow, nSub, zLT, zLE, zNat, RAes8120, g24, decide_eq_true (show (i : Int) < 4 by omega)]
          refine hK _ _ ?_
          clear hK K
          refine awp_seq_k ?_
          intro K6 hK6
          refine awp_cond_k ?_
          intro X Y hX hY
          simp only [↓DN, UP, DF, qSh, qCv, qIA, qIx, qSl, qBu, qCe, qOn, reduceCtorEq, ↓reduceIte, nLT, nLE, nEQ, nAdd, nMul, nPow, nSub, zLT, zLE, zNat, RAes8120, DB]
          refine hX ?_
          clear hX hY X Y
          refine awp_skip ?_
          refine hK6 _ _ ?_
          clear hK6 K6
          refine awp_seq_k ?_
          intro K7 hK7
          refine awp_block ?_
          refine awp_reg_seq ?_
          intro K hK
          simp only [↓DN, UP, DF, qSh, qCv, qIA, qIx, qSl, qBu, qCe, qOn, reduceCtorEq, ↓reduceIte, nLT, nLE, nEQ, nAdd, nMul, nPow, nSub, zLT, zLE, zNat, RAes8120, g24]
          refine hK _ _ ?_
          clear hK K
          have hset := fillG_set (akP key q) (fun _ => 0) 176 ((q + 1) * 16 + i) _ (akP_low key hk q i hi')
          have hlen := fillG_len (akP key q) (fun _ => 0) 176 ((q + 1) * 16 + i)
          have a1 := add_c1 i (by omega)
          have a2 := rem4 (i + 1)
          have a3 := add12 ((i + 1) % 4) (by omega)
          have d0 := bytes_drop (l := Aes.kr key q) i (by omega)
          have d1 := bytes_drop (l := Aes.kr key q) (12 + (i + 1) % 4) (by omega)
          rw [hW] at d0 d1
          have m0 : (0 : Int) ≤ (i : Int) := by omega
          have m1 : (i : Int) < ((16 : Nat) : Int) := by omega
          have m2 : (0 : Int) ≤ ((12 + (i + 1) % 4 : Nat) : Int) := by omega
          have m3 : ((12 + (i + 1) % 4 : Nat) : Int) < ((16 : Nat) : Int) := by omega
          have mc : (q + 1) * 16 + i + 1 ≤ 176 := by omega
          have mc2 : (q + 1) * 16 + i < 176 := by omega
          generalize hR' : fillG (akP key q) (fun _ => 0) 176 ((q + 1) * 16 + i + 1) = R' at *
          generalize fillG (akP key q) (fun _ => 0) 176 ((q + 1) * 16 + i) = R at *
          generalize 12 + (i + 1) % 4 = m at *
          have hx := ((Aes.kr key q).getD m 0).toNat_lt
          have ds := bytes_drop (l := Aes.sb) ((Aes.kr key q).getD m 0).toNat (by rw [Aes.sb_len]; omega)
          rw [S_at] at ds
          generalize Aes.S ((Aes.kr key q).getD m 0) = y at *
          generalize (Aes.kr key q).getD m 0 = x at *
          generalize (Aes.kr key q).getD i 0 = v at *
          have m4 : (0 : Int) ≤ ((x.toNat : Nat) : Int) := by omega
          have m5 : ((x.toNat : Nat) : Int) < ((256 : Nat) : Int) := by omega
          generalize hY2 : Aes.sb.map byteV = Y2 at *
          refine awp_mrk_end T.mixed [(o8, W), (o3, Y2), (o5, R)] [] [4, 10, 12] [16] (by kernel_rfl) (by simp only [Pres_cons, Pres_nil, and_true]; simp [AS.set, upd, q3, q5, q8]) ?_
          intro K hK
          simp only [↓AXr_nil, ↓AXr_cons, gval, lval, fzGet_cons, fzGet_nil, Pres_cons, Pres_nil, List.any_cons, List.any_nil, List.contains_cons, List.contains_nil, Nat.reduceBEq, Bool.or_false, Bool.or_true, Bool.or_self, Bool.false_or, ↓DN, UP, DF, qSh, qCv, qIA, qIx, qSl, qBu, qCe, qOn, reduceCtorEq, ↓reduceIte, nLT, nLE, nEQ, nAdd, nMul, nPow, nSub, zLT, zLE, zNat, RAes8120, g3, g5, g8, g9, g24, m0, m1, m2, m3, m4, m5, mc, mc2, d0, d1, ds, a1, a2, a3, four_ne, n83, n83.symm, n85, n85.symm, h53, h53.symm, q3, q5, q8, byteV, b_xor, hset, hlen, hWl, hsl]
          refine hK _ _ ?_
          clear hK K
          simp only [blockQ, thenQ, if_true, if_false]
          refine hK7 _ _ ?_
          clear hK7 K7
          refine awp_reg_end ?_
          intro K hK
          simp only [↓DN, UP, DF, qSh, qCv, qIA, qIx, qSl, qBu, qCe, qOn, reduceCtorEq, ↓reduceIte, nLT, nLE, nEQ, nAdd, nMul, nPow, nSub, zLT, zLE, zNat, RAes8120, g24, w_succ i (by omega)]
          refine hK _ _ ?_
          clear hK K
          refine ⟨⟨i + 1, by omega, by simp only [upd, g3, nEQ, ↓reduceIte], by simp only [upd, g4, nEQ, ↓reduceIte], by simp only [upd, g5, nEQ, ↓reduceIte], by simp only [upd, g6, nEQ, ↓reduceIte], by simp only [upd, g7, nEQ, ↓reduceIte], by simp only [upd, g8, nEQ, ↓reduceIte], by simp only [upd, g9, nEQ, ↓reduceIte], by simp only [upd, ↓reduceIte], by rw [AS.set_objs_ne _ h53.symm, q3], by rw [AS.set_objs_ne _ h54.symm]; exact q4, by rw [show (q + 1) * 16 + (i + 1) = (q + 1) * 16 + i + 1 from rfl, hR']; exact AS.set_objs_same _ _ _, by rw [AS.set_objs_ne _ n85]; exact q8, AS.le_set hle3 ho5' _⟩, ?_⟩
          simp only [g24, upd, ↓reduceIte]
          omega
        · obtain rfl : i = 4 := by omega
          refine awp_reg_seq ?_
          intro K hK
          simp only [↓DN, UP, DF, qSh, qCv, qIA, qIx, qSl, qBu, qCe, qOn, reduceCtorEq, ↓reduceIte, nLT, nLE, nEQ, nAdd, nMul, nPow, nSub, zLT, zLE, zNat, RAes8120, g24, decide_eq_false (show ¬ ((4 : Nat) : Int) < 4 by decide)]
          refine hK _ _ ?_
          clear hK K
          refine awp_seq_k ?_
          intro K6 hK6
          refine awp_cond_k ?_
          intro X Y hX hY
          simp only [↓DN, UP, DF, qSh, qCv, qIA, qIx, qSl, qBu, qCe, qOn, reduceCtorEq, ↓reduceIte, nLT, nLE, nEQ, nAdd, nMul, nPow, nSub, zLT, zLE, zNat, RAes8120, DB]
          refine hY ?_
          clear hX hY X Y
          refine awp_exit ?_
          simp only [thenQ, blockQ, if_true]
          clear hK6 K6
          refine hK4 _ _ ?_
          clear hK4 K4
          have hfix := akP_fix key (fun _ => 0) q hq'
          have hd0 := fillG_drop (akP key q) (fun _ => 0) 176 ((q + 1) * 16 + 4) ((q + 1) * 16) (by omega)
          rw [if_pos (by omega)] at hd0
          have hlen := fillG_len (akP key q) (fun _ => 0) 176 ((q + 1) * 16 + 4)
          generalize hR' : fillG (Aes.ak key) (fun _ => 0) 176 ((q + 1) * 16 + 4) = R' at *
          generalize fillG (akP key q) (fun _ => 0) 176 ((q + 1) * 16 + 4) = R at *
          generalize akP key q ((q + 1) * 16) = x at *
          have mc : (q + 1) * 16 + 1 ≤ 176 := by omega
          have mc2 : (q + 1) * 16 < 176 := by omega
          refine awp_mrk_seq T.mixed [(o5, R)] [] [3] [8] (by kernel_rfl) (by simp only [Pres_cons, Pres_nil, and_true]; simp [AS.set, upd, q5]) ?_
          intro K hK
          simp only [↓AXr_nil, ↓AXr_cons, gval, lval, fzGet_cons, fzGet_nil, Pres_cons, Pres_nil, List.any_cons, List.any_nil, List.contains_cons, List.contains_nil, Nat.reduceBEq, Bool.or_false, Bool.or_true, Bool.or_self, Bool.false_or, ↓DN, UP, DF, qSh, qCv, qIA, qIx, qSl, qBu, qCe, qOn, reduceCtorEq, ↓reduceIte, nLT, nLE, nEQ, nAdd, nMul, nPow, nSub, zLT, zLE, zNat, RAes8120, g6, g9, mc, mc2, q5, hd0, byteV, b_xor, hfix, hlen, show (0 : Int) < ((16 : Nat) : Int) from by decide]
          refine hK _ _ ?_
          clear hK K
          generalize hs5 : s4.set o5 R' = s5 at *
          have t3 : s5.objs o3 = some (Aes.sb.map byteV) := by rw [← hs5, AS.set_objs_ne _ h53.symm]; exact q3
          have t4 : s5.objs o4 = some Z := by rw [← hs5, AS.set_objs_ne _ h54.symm]; exact q4
          have t5 : s5.objs o5 = some R' := by rw [← hs5]; exact AS.set_objs_same _ _ _
          have t8 : s5.objs o8 = some W := by rw [← hs5, AS.set_objs_ne _ n85]; exact q8
          have hle5 : s.le s5 := by rw [← hs5]; exact AS.le_set hle3 ho5' _
          clear hs5 q3 q4 q5 q8 hle3 hd0 hfix hlen
          rw [← hR'] at t5
          clear hR' R'
          refine awp_seq_k ?_
          intro K4 hK4
          refine awp_reg_seq ?_
          intro K hK
          simp only [↓DN, UP, DF, qSh, qCv, qIA, qIx, qSl, qBu, qCe, qOn, reduceCtorEq, ↓reduceIte, nLT, nLE, nEQ, nAdd, nMul, nPow, nSub, zLT, zLE, zNat, RAes8120]
          refine hK _ _ ?_
          clear hK K
          refine awp_block ?_
          refine awp_loop (fun E s6 => ∃ i : Nat, 4 ≤ i ∧ i ≤ 16 ∧ E 3 = .ptr o3 0 ∧ E 4 = .ptr o4 0 ∧ E 5 = .ptr o5 0 ∧ E 6 = bV (Aes.pwr q) ∧ E 7 = .v (.int .i64 ((q + 1 : Nat) : Int)) ∧ E 8 = .ptr o8 0 ∧ E 9 = .ptr o5 ((q + 1) * 16) ∧ E 11 = .v (.int .i64 i) ∧ s6.objs o3 = some (Aes.sb.map byteV) ∧ s6.objs o4 = some Z ∧ s6.objs o5 = some (fillG (Aes.ak key) (fun _ => 0) 176 ((q + 1) * 16 + i)) ∧ s6.objs o8 = some W ∧ s.le s6)
            (fun E _ => match E 11 with | .v (.int _ i) => 16 - i.toNat | _ => 0) ?_ ?_
          · exact ⟨4, by omega, by omega, by simp only [upd, g3, nEQ, ↓reduceIte], by simp only [upd, g4, nEQ, ↓reduceIte], by simp only [upd, g5, nEQ, ↓reduceIte], by simp only [upd, g6, nEQ, ↓reduceIte], by simp only [upd, g7, nEQ, ↓reduceIte], by simp only [upd, g8, nEQ, ↓reduceIte], by simp only [upd, g9, nEQ, ↓reduceIte], by simp only [upd, ↓reduceIte]; rfl, t3, t4, t5, t8, hle5⟩
          · clear t3 t4 t5 t8 hle5 g3 g4 g5 g6 g7 g8 g9
            rintro E6 s6 ⟨i, hi4, hi, g3, g4, g5, g6, g7, g8, g9, g11, t3, t4, t5, t8, hle5⟩ -
            refine awp_seq_k ?_
            intro K6 hK6
            by_cases hi' : i < 16
            · refine awp_reg_seq ?_
              intro K hK
              simp only [↓DN, UP, DF, qSh, qCv, qIA, qIx, qSl, qBu, qCe, qOn, reduceCtorEq, ↓reduceIte, nLT, nLE, nEQ, nAdd, nMul, nPow, nSub, zLT, zLE, zNat, RAes8120, g11, decide_eq_true (show (i : Int) < 16 by omega)]
              refine hK _ _ ?_
              clear hK K
              refine awp_cond_k ?_
              intro X Y hX hY
              simp only [↓DN, UP, DF, qSh, qCv, qIA, qIx, qSl, qBu, qCe, qOn, reduceCtorEq, ↓reduceIte, nLT, nLE, nEQ, nAdd, nMul, nPow, nSub, zLT, zLE, zNat, RAes8120, DB]
              refine hX ?_
              clear hX hY X Y
              refine awp_skip ?_
              refine hK6 _ _ ?_
              clear hK6 K6
              refine awp_seq_k ?_
              intro K7 hK7
              refine awp_block ?_
              have hset := fillG_set (Aes.ak key) (fun _ => 0) 176 ((q + 1) * 16 + i) _ (ak_high16 key hk q i hi4 hi')
              have hlen := fillG_len (Aes.ak key) (fun _ => 0) 176 ((q + 1) * 16 + i)
              have a1 : isub .i64 (i : Int) 4 = ((i - 4 : Nat) : Int) := i64_sub i 4 hi4 (by omega)
              have d0 := bytes_drop (l := Aes.kr key q) i (by omega)
              rw [hW] at d0
              have d1 := fillG_drop (Aes.ak key) (fun _ => 0) 176 ((q + 1) * 16 + i) ((q + 1) * 16 + (i - 4)) (by omega)
              rw [if_pos (by omega)] at d1
              have m0 : (0 : Int) ≤ (i : Int) := by omega
              have m1 : (i : Int) < ((16 : Nat) : Int) := by omega
              have m2 : (0 : Int) ≤ ((i - 4 : Nat) : Int) := by omega
              have m3 : ((i - 4 : Nat) : Int) < ((16 : Nat) : Int) := by omega
              have mc : (q + 1) * 16 + i + 1 ≤ 176 := by omega
              have mc2 : (q + 1) * 16 + i < 176 := by omega
              generalize hR' : fillG (Aes.ak key) (fun _ => 0) 176 ((q + 1) * 16 + i + 1) = R' at *
              generalize fillG (Aes.ak key) (fun _ => 0) 176 ((q + 1) * 16 + i) = R at *
              generalize Aes.ak key ((q + 1) * 16 + (i - 4)) = x at *
              generalize (Aes.kr key q).getD i 0 = v at *
              refine awp_mrk_end T.mixed [(o8, W), (o5, R)] [] [4, 10] [14] (by kernel_rfl) (by simp only [Pres_cons, Pres_nil, and_true]; simp [AS.set, upd, t5, t8]) ?_
              intro K hK
              simp only [↓AXr_nil, ↓AXr_cons, gval, lval, fzGet_cons, fzGet_nil, Pres_cons, Pres_nil, List.any_cons, List.any_nil, List.contains_cons, List.contains_nil, Nat.reduceBEq, Bool.or_false, Bool.or_true, Bool.or_self, Bool.false_or, ↓DN, UP, DF, qSh, qCv, qIA, qIx, qSl, qBu, qCe, qOn, reduceCtorEq, ↓reduceIte, nLT, nLE, nEQ, nAdd, nMul, nPow, nSub, zLT, zLE, zNat, RAes8120, g5, g8, g9, g11, m0, m1, m2, m3, mc, mc2, d0, d1, a1, n85, n85.symm, t5, t8, byteV, b_xor, hset, hlen, hWl]
              refine hK _ _ ?_
              clear hK K
              simp only [blockQ, thenQ, if_true, if_false]
              refine hK7 _ _ ?_
              clear hK7 K7
              refine awp_reg_end ?_
              intro K hK
              simp only [↓DN, UP, DF, qSh, qCv, qIA, qIx, qSl, qBu, qCe, qOn, reduceCtorEq, ↓reduceIte, nLT, nLE, nEQ, nAdd, nMul, nPow, nSub, zLT, zLE, zNat, RAes8120, g11, w_succ i (by omega)]
              refine hK _ _ ?_
              clear hK K
              refine ⟨⟨i + 1, by omega, by omega, by simp only [upd, g3, nEQ, ↓reduceIte], by simp only [upd, g4, nEQ, ↓reduceIte], by simp only [upd, g5, nEQ, ↓reduceIte], by simp only [upd, g6, nEQ, ↓reduceIte], by simp only [upd, g7, nEQ, ↓reduceIte], by simp only [upd, g8, nEQ, ↓reduceIte], by simp only [upd, g9, nEQ, ↓reduceIte], by simp only [upd, ↓reduceIte], by rw [AS.set_objs_ne _ h53.symm]; exact t3, by rw [AS.set_objs_ne _ h54.symm]; exact t4, by rw [show (q + 1) * 16 + (i + 1) = (q + 1) * 16 + i + 1 from rfl, hR']; exact AS.set_objs_same _ _ _, by rw [AS.set_objs_ne _ n85]; exact t8, AS.le_set hle5 ho5' _⟩, ?_⟩
              simp only [g11, upd, ↓reduceIte]
              omega
            · obtain rfl : i = 16 := by omega
              refine awp_reg_seq ?_
              intro K hK
              simp only [↓DN, UP, DF, qSh, qCv, qIA, qIx, qSl, qBu, qCe, qOn, reduceCtorEq, ↓reduceIte, nLT, nLE, nEQ, nAdd, nMul, nPow, nSub, zLT, zLE, zNat, RAes8120, g11, decide_eq_false (show ¬ ((16 : Nat) : Int) < 16 by decide)]
              refine hK _ _ ?_
              clear hK K
              refine awp_cond_k ?_
              intro X Y hX hY
              simp only [↓DN, UP, DF, qSh, qCv, qIA, qIx, qSl, qBu, qCe, qOn, reduceCtorEq, ↓reduceIte, nLT, nLE, nEQ, nAdd, nMul, nPow, nSub, zLT, zLE, zNat, RAes8120, DB]
              refine hY ?_
              clear hX hY X Y
              refine awp_exit ?_
              simp only [thenQ, blockQ, if_true]
              clear hK6 K6
              refine hK4 _ _ ?_
              clear hK4 K4
              refine awp_reg_end ?_
              intro K hK
              simp only [↓DN, UP, DF, qSh, qCv, qIA, qIx, qSl, qBu, qCe, qOn, reduceCtorEq, ↓reduceIte, nLT, nLE, nEQ, nAdd, nMul, nPow, nSub, zLT, zLE, zNat, RAes8120, g6]
              refine acallk (double_calls (Aes.pwr q) _) ?_
              rintro r s7 ⟨rfl, rfl⟩
              simp only [↓AXq_nil, ↓AXq_cons, pval, ↓AXr_nil, ↓AXr_cons, gval, lval, fzGet_cons, fzGet_nil, Pres_cons, Pres_nil, List.any_cons, List.any_nil, DX, Nat.reduceBEq, ↓DN, UP, DF, qSh, qCv, qIA, qIx, qSl, qBu, qCe, qOn, reduceCtorEq, ↓reduceIte, nLT, nLE, nEQ, nAdd, nMul, nPow, nSub, zLT, zLE, zNat, RAes8120]
              refine hK _ _ ?_
              clear hK K
              simp only [blockQ, thenQ, if_true, if_false]
              refine hK3 _ _ ?_
              clear hK3 K3
              refine awp_reg_end ?_
              intro K hK
              simp only [↓DN, UP, DF, qSh, qCv, qIA, qIx, qSl, qBu, qCe, qOn, reduceCtorEq, ↓reduceIte, nLT, nLE, nEQ, nAdd, nMul, nPow, nSub, zLT, zLE, zNat, RAes8120, g7, w_succ (q + 1) (by omega)]
              refine hK _ _ ?_
              clear hK K
              refine ⟨⟨q + 1, by omega, by simp only [upd, g3, nEQ, ↓reduceIte], by simp only [upd, g4, nEQ, ↓reduceIte], by simp only [upd, g5, nEQ, ↓reduceIte], by simp only [upd, nEQ, ↓reduceIte]; rfl, by simp only [upd, ↓reduceIte], t3, t4, by rw [show (q + 1 + 1) * 16 = (q + 1) * 16 + 16 by omega]; exact t5, hle5⟩, ?_⟩
              simp only [e7, upd, ↓reduceIte]
              omega
    · obtain rfl : q = 10 := by omega
      refine awp_reg_seq ?_
      intro K hK
      simp only [↓DN, UP, DF, qSh, qCv, qIA, qIx, qSl, qBu, qCe, qOn, reduceCtorEq, ↓reduceIte, nLT, nLE, nEQ, nAdd, nMul, nPow, nSub, zLT, zLE, zNat, RAes8120, e7, decide_eq_false (show ¬ ((10 + 1 : Nat) : Int) ≤ 10 by decide)]
      refine hK _ _ ?_
      clear hK K
      refine awp_cond_k ?_
      intro X Y hX hY
      simp only [↓DN, UP, DF, qSh, qCv, qIA, qIx, qSl, qBu, qCe, qOn, reduceCtorEq, ↓reduceIte, nLT, nLE, nEQ, nAdd, nMul, nPow, nSub, zLT, zLE, zNat, RAes8120, DB]
      refine hY ?_
      clear hX hY X Y
      refine awp_exit ?_
      simp only [thenQ, blockQ, if_true]
      clear hK2 K2
      refine hK _ _ ?_
      clear hK K
      rw [show (10 + 1) * 16 = 176 from rfl, fillG_full, show (List.range 176).map (Aes.ak key) = keysL key from rfl] at j5
      have hwl : ((keysL key).map byteV).length = 176 := by rw [List.length_map, keysL_len]
      have hall := all_bytes (keysL key)
      have htk : List.take 176 ((keysL key).map byteV) = (keysL key).map byteV := List.take_of_length_le (by omega)
      generalize (keysL key).map byteV = X at *
      refine awp_reg_seq ?_
      intro K hK
      simp only [↓DN, UP, DF, qSh, qCv, qIA, qIx, qSl, qBu, qCe, qOn, reduceCtorEq, ↓reduceIte, nLT, nLE, nEQ, nAdd, nMul, nPow, nSub, zLT, zLE, zNat, RAes8120, e4, e5, j4, j5, hwl, htk, hall, h54, h54.symm]
      rw [asetAll_whole Z X (by omega)]
      refine ⟨by omega, hK _ _ ?_⟩
      clear hK K
      refine awp_ret ?_
      refine aends_cell (v := .agg X) (o := o4) (off := 0) (by simp only [upd, e4, nEQ, ↓reduceIte]) (AS.set_objs_same _ _ _) (by rw [T.c149]; decide) (by simp only [↓DN, UP, DF, qSh, qCv, qIA, qIx, qSl, qBu, qCe, qOn, reduceCtorEq, ↓reduceIte, nLT, nLE, nEQ, nAdd, nMul, nPow, nSub, zLT, zLE, zNat, RAes8120, hwl, htk]) ?_
      exact ⟨_, s, AV.weak.refl _, AS.le_set hle ho4' _, rfl, rfl⟩

end Go.Proofs.YtooeklnbdgoneaaDoor


set_option autoImplicit false
namespace Go.Proofs.YtooeklnbdgoneaaDoor
open Go Go.AM Go.Proofs

theorem RAes9105 : type_of% (And.intro (And.intro (And.intro (And.intro (And.intro (And.intro @Tryd.underlying3 T.c3) (And.intro T.g3 T.b3)) (And.intro (And.intro T.z3 @Tryd.underlying4) (And.intro T.c4 T.g4))) (And.intro (And.intro (And.intro T.b4 T.z4) (And.intro @Tryd.underlying5 T.c5)) (And.intro (And.intro T.g5 T.b5) (And.intro T.z5 @Tryd.underlying138)))) (And.intro (And.intro (And.intro (And.intro T.c138 T.g138) (And.intro T.b138 T.z138)) (And.intro (And.intro @Tryd.underlying147 T.c147) (And.intro T.g147 T.b147))) (And.intro (And.intro (And.intro @Tryd.underlying149 T.c149) (And.intro T.g149 T.b149)) (And.intro (And.intro T.k121 T.k119) (And.intro T.k120 T.k122))))) Tryd.ntmps105) :=
  (And.intro (And.intro (And.intro (And.intro (And.intro (And.intro @Tryd.underlying3 T.c3) (And.intro T.g3 T.b3)) (And.intro (And.intro T.z3 @Tryd.underlying4) (And.intro T.c4 T.g4))) (And.intro (And.intro (And.intro T.b4 T.z4) (And.intro @Tryd.underlying5 T.c5)) (And.intro (And.intro T.g5 T.b5) (And.intro T.z5 @Tryd.underlying138)))) (And.intro (And.intro (And.intro (And.intro T.c138 T.g138) (And.intro T.b138 T.z138)) (And.intro (And.intro @Tryd.underlying147 T.c147) (And.intro T.g147 T.b147))) (And.intro (And.intro (And.intro @Tryd.underlying149 T.c149) (And.intro T.g149 T.b149)) (And.intro (And.intro T.k121 T.k119) (And.intro T.k120 T.k122))))) Tryd.ntmps105)

variable {Γ : Nat → List AV}

theorem keys_at (key : List UInt8) (hk : key.length = 16) (q : Nat) (hq : q < 11) : List.take 16 (List.drop (q * 16) ((keysL key).map byteV)) = (Aes.kr key q).map byteV := by
  have h := keys_take key hk (fun _ => 0) q 176 hq (by omega)
  rw [fillG_full] at h
  exact h

set_option maxHeartbeats 8000000 in
set_option maxRecDepth 100000 in
theorem aesBlock_calls (key b : List UInt8) (hk : key.length = 16) (hb : b.length = 16) (s : AS) :
    ACalls Tryd.prog Γ 105 [.agg (key.map byteV), .agg (b.map byteV)] s (fun r s' => r = .agg ((Aes.block key b).map byteV) ∧ s' = s) := by
  refine acalls_body Tryd.func105 rfl Tryd.ntmps105 Tryd.results105 (by simp) ?_
  have hkl : (key.map byteV).length = 16 := by rw [List.length_map, hk]
  have hktk : List.take 16 (key.map byteV) = key.map byteV := List.take_of_length_le (by omega)
  have hbl : (b.map byteV).length = 16 := by rw [List.length_map, hb]
  have hbtk : List.take 16 (b.map byteV) = b.map byteV := List.take_of_length_le (by omega)
  have hsl : (Aes.sb.map byteV).length = 256 := by rw [List.length_map, Aes.sb_len]
  have hstk : List.take 256 (Aes.sb.map byteV) = Aes.sb.map byteV := List.take_of_length_le (by omega)
  have hsall := all_bytes Aes.sb
  have hKl : ((keysL key).map byteV).length = 176 := by rw [List.length_map, keysL_len]
  have hKall := all_bytes (keysL key)
  have hKat := keys_at key hk
  have hex := fun s => expandA_calls (Γ := Γ) key hk s
  have hbx := fun s => boxes_calls (Γ := Γ) s
  have had := fun s => aesAdd_calls (Γ := Γ) b (Aes.kr key 0) hb (Aes.kr_len hk 0) s
  rw [show Aes.add b (Aes.kr key 0) = Aes.state key b 0 from rfl] at had
  have hrd := fun q s => aesRound_calls (Γ := Γ) (Aes.state key b q) (Aes.state_len key b q) (q + 1 == 10) s
  have hnx := fun q s => aesAdd_calls (Γ := Γ) (Aes.rnd (Aes.state key b q) (q + 1 == 10)) (Aes.kr key (q + 1)) (Aes.rnd_len _ _) (Aes.kr_len hk (q + 1)) s
  have hst : ∀ q, Aes.add (Aes.rnd (Aes.state key b q) (q + 1 == 10)) (Aes.kr key (q + 1)) = Aes.state key b (q + 1) := fun q => rfl
  simp only [hst] at hnx
  have hk0 : List.take 16 ((keysL key).map byteV) = (Aes.kr key 0).map byteV := by
    have := hKat 0 (by omega)
    rwa [Nat.zero_mul, List.drop_zero] at this
  generalize Aes.sb.map byteV = Y at *
  generalize (keysL key).map byteV = KS at *
  refine awp_reg_seq ?_
  intro K hK
  simp only [↓DN, UP, DF, qSh, qCv, qIA, qIx, qSl, qBu, qCe, qOn, reduceCtorEq, ↓reduceIte, nLT, nLE, nEQ, nAdd, nMul, nPow, nSub, zLT, zLE, zNat, RAes9105]
  intro o2 ho2 o3 ho3
  obtain ⟨h32, ho3'⟩ := AS.fresh_set ho3
  intro o4 ho4
  obtain ⟨h43, h42, ho4'⟩ := fresh_two ho4
  rw [z16]
  refine hK _ _ ?_
  clear hK K
  generalize hs0 : ((s.set o2 (key.map byteV)).set o3 (b.map byteV)).set o4 (List.replicate 16 (bV 0)) = s0 at *
  have j2 : s0.objs o2 = some (key.map byteV) := by rw [← hs0, AS.set_objs_ne _ h42.symm, AS.set_objs_ne _ h32.symm, AS.set_objs_same]
  have j3 : s0.objs o3 = some (b.map byteV) := by rw [← hs0, AS.set_objs_ne _ h43.symm, AS.set_objs_same]
  have j4 : s0.objs o4 = some (List.replicate 16 (bV 0)) := by rw [← hs0]; exact AS.set_objs_same _ _ _
  have hle : s.le s0 := by rw [← hs0]; exact AS.le_set (AS.le_set (AS.le_set (AS.le.refl s) ho2 _) ho3' _) ho4' _
  clear hs0 ho3 ho4
  have hzl : (List.replicate 16 (bV 0)).length = 16 := by simp
  generalize List.replicate 16 (bV 0) = Z at *
  refine awp_reg_seq ?_
  intro K hK
  simp only [↓DN, UP, DF, qSh, qCv, qIA, qIx, qSl, qBu, qCe, qOn, reduceCtorEq, ↓reduceIte, nLT, nLE, nEQ, nAdd, nMul, nPow, nSub, zLT, zLE, zNat, RAes9105]
  refine acallk (hbx _) ?_
  rintro r s1 ⟨rfl, rfl⟩
  simp only [↓AXq_nil, ↓AXq_cons, pval, DX, Nat.reduceBEq, ↓DN, UP, DF, qSh, qCv, qIA, qIx, qSl, qBu, qCe, qOn, reduceCtorEq, ↓reduceIte, nLT, nLE, nEQ, nAdd, nMul, nPow, nSub, zLT, zLE, zNat, RAes9105, z165, hsl, hsall, Nat.le_refl, List.length_replicate]
  intro o5 ho5
  rw [asetAll_whole (List.replicate 256 (bV 0)) Y (by rw [hsl]; simp)]
  refine hK _ _ ?_
  clear hK K
  have n52 : o5 ≠ o2 := fun e => by rw [e, j2] at ho5; cases ho5
  have n53 : o5 ≠ o3 := fun e => by rw [e, j3] at ho5; cases ho5
  have n54 : o5 ≠ o4 := fun e => by rw [e, j4] at ho5; cases ho5
  have hs5 : s.objs o5 = none := by
    cases h : s.objs o5 with
    | none => rfl
    | some cs => rw [hle.objs _ _ h] at ho5; cases ho5
  generalize hs1 : s1.set o5 Y = s2 at *
  have q2 : s2.objs o2 = some (key.map byteV) := by rw [← hs1, AS.set_objs_ne _ n52.symm]; exact j2
  have q3 : s2.objs o3 = some (b.map byteV) := by rw [← hs1, AS.set_objs_ne _ n53.symm]; exact j3
  have q4 : s2.objs o4 = some Z := by rw [← hs1, AS.set_objs_ne _ n54.symm]; exact j4
  have q5 : s2.objs o5 = some Y := by rw [← hs1]; exact AS.set_objs_same _ _ _
  have hle2 : s.le s2 := by rw [← hs1]; exact AS.le_set hle hs5 _
  clear hs1 j2 j3 j4 hle ho5
  refine awp_reg_seq ?_
  intro K hK
  simp only [↓DN, UP, DF, qSh, qCv, qIA, qIx, qSl, qBu, qCe, qOn, reduceCtorEq, ↓reduceIte, nLT, nLE, nEQ, nAdd, nMul, nPow, nSub, zLT, zLE, zNat, RAes9105, q2, q5, hkl, hktk, hsl, hstk, Nat.le_refl]
  refine acallk (hex _) ?_
  rintro r s3 ⟨rfl, rfl⟩
  simp only [↓AXq_nil, ↓AXq_cons, pval, DX, Nat.reduceBEq, ↓DN, UP, DF, qSh, qCv, qIA, qIx, qSl, qBu, qCe, qOn, reduceCtorEq, ↓reduceIte, nLT, nLE, nEQ, nAdd, nMul, nPow, nSub, zLT, zLE, zNat, RAes9105, z167, hKl, hKall, Nat.le_refl, List.length_replicate]
  intro o6 ho6
  rw [asetAll_whole (List.replicate 176 (bV 0)) KS (by rw [hKl]; simp)]
  refine hK _ _ ?_
  clear hK K
  have n63 : o6 ≠ o3 := fun e => by rw [e, q3] at ho6; cases ho6
  have n64 : o6 ≠ o4 := fun e => by rw [e, q4] at ho6; cases ho6
  have n65 : o6 ≠ o5 := fun e => by rw [e, q5] at ho6; cases ho6
  have hs6 : s.objs o6 = none := by
    cases h : s.objs o6 with
    | none => rfl
    | some cs => rw [hle2.objs _ _ h] at ho6; cases ho6
  generalize hs1 : s3.set o6 KS = s4 at *
  have t3 : s4.objs o3 = some (b.map byteV) := by rw [← hs1, AS.set_objs_ne _ n63.symm]; exact q3
  have t4 : s4.objs o4 = some Z := by rw [← hs1, AS.set_objs_ne _ n64.symm]; exact q4
  have t5 : s4.objs o5 = some Y := by rw [← hs1, AS.set_objs_ne _ n65.symm]; exact q5
  have t6 : s4.objs o6 = some KS := by rw [← hs1]; exact AS.set_objs_same _ _ _
  have hle4 : s.le s4 := by rw [← hs1]; exact AS.le_set hle2 hs6 _
  clear hs1 q2 q3 q4 q5 hle2 ho6
  have hB0 := all_bytes (Aes.state key b 0)
  have hB0l : ((Aes.state key b 0).map byteV).length = 16 := by rw [List.length_map, Aes.state_len]
  refine awp_reg_seq ?_
  intro K hK
  simp only [↓DN, UP, DF, qSh, qCv, qIA, qIx, qSl, qBu, qCe, qOn, reduceCtorEq, ↓reduceIte, nLT, nLE, nEQ, nAdd, nMul, nPow, nSub, zLT, zLE, zNat, RAes9105, t3, t6, hbl, hbtk, hKl, hk0, show (0 : Int) < ((11 : Nat) : Int) from by decide]
  refine acallk (had _) ?_
  rintro r s5 ⟨rfl, rfl⟩
  simp only [↓AXq_nil, ↓AXq_cons, pval, DX, Nat.reduceBEq, ↓DN, UP, DF, qSh, qCv, qIA, qIx, qSl, qBu, qCe, qOn, reduceCtorEq, ↓reduceIte, nLT, nLE, nEQ, nAdd, nMul, nPow, nSub, zLT, zLE, zNat, RAes9105, hB0, hB0l, Nat.le_refl]
  intro o7 ho7
  rw [z16, asetAll_whole (List.replicate 16 (bV 0)) ((Aes.state key b 0).map byteV) (by rw [hB0l]; simp)]
  refine hK _ _ ?_
  clear hK K
  have n74 : o7 ≠ o4 := fun e => by rw [e, t4] at ho7; cases ho7
  have n75 : o7 ≠ o5 := fun e => by rw [e, t5] at ho7; cases ho7
  have n76 : o7 ≠ o6 := fun e => by rw [e, t6] at ho7; cases ho7
  have hs7 : s.objs o7 = none := by
    cases h : s.objs o7 with
    | none => rfl
    | some cs => rw [hle4.objs _ _ h] at ho7; cases ho7
  generalize hs1 : s5.set o7 ((Aes.state key b 0).map byteV) = s6 at *
  have j4 : s6.objs o4 = some Z := by rw [← hs1, AS.set_objs_ne _ n74.symm]; exact t4
  have j5 : s6.objs o5 = some Y := by rw [← hs1, AS.set_objs_ne _ n75.symm]; exact t5
  have j6 : s6.objs o6 = some KS := by rw [← hs1, AS.set_objs_ne _ n76.symm]; exact t6
  have j7 : s6.objs o7 = some ((Aes.state key b 0).map byteV) := by rw [← hs1]; exact AS.set_objs_same _ _ _
  have hle6 : s.le s6 := by rw [← hs1]; exact AS.le_set hle4 hs7 _
  clear hs1 t3 t4 t5 t6 hle4 ho7 hB0 hB0l
  refine awp_seq_k ?_
  intro K hK
  refine awp_reg_seq ?_
  intro K hK
  simp only [↓DN, UP, DF, qSh, qCv, qIA, qIx, qSl, qBu, qCe, qOn, reduceCtorEq, ↓reduceIte, nLT, nLE, nEQ, nAdd, nMul, nPow, nSub, zLT, zLE, zNat, RAes9105]
  refine hK _ _ ?_
  clear hK K
  refine awp_block ?_
  refine awp_loop (fun E s2 => ∃ q : Nat, q ≤ 10 ∧ E 4 = .ptr o4 0 ∧ E 5 = .ptr o5 0 ∧ E 6 = .ptr o6 0 ∧ E 7 = .ptr o7 0 ∧ E 8 = .v (.int .i64 ((q + 1 : Nat) : Int)) ∧ s2.objs o4 = some Z ∧ s2.objs o5 = some Y ∧ s2.objs o6 = some KS ∧ s2.objs o7 = some ((Aes.state key b q).map byteV) ∧ s.le s2)
    (fun E _ => match E 8 with | .v (.int _ i) => 11 - i.toNat | _ => 0) ?_ ?_
  · exact ⟨0, by omega, by simp only [upd, nEQ, ↓reduceIte], by simp only [upd, nEQ, ↓reduceIte], by simp only [upd, nEQ, ↓reduceIte], by simp only [upd, nEQ, ↓reduceIte], by simp only [upd, ↓reduceIte]; rfl, j4, j5, j6, j7, hle6⟩
  · clear j4 j5 j6 j7 hle6
    rintro E1 s7 ⟨q, hq, e4, e5, e6, e7, e8, j4, j5, j6, j7, hle⟩ -
    refine awp_seq_k ?_
    intro K2 hK2
    by_cases hq' : q < 10
    · refine awp_reg_seq ?_
      intro K hK
      simp only [↓DN, UP, DF, qSh, qCv, qIA, qIx, qSl, qBu, qCe, qOn, reduceCtorEq, ↓reduceIte, nLT, nLE, nEQ, nAdd, nMul, nPow, nSub, zLT, zLE, zNat, RAes9105, e8, decide_eq_true (show ((q + 1 : Nat) : Int) ≤ 10 by omega)]
      refine hK _ _ ?_
      clear hK K
      refine awp_cond_k ?_
      intro X Y hX hY
      simp only [↓DN, UP, DF, qSh, qCv, qIA, qIx, qSl, qBu, qCe, qOn, reduceCtorEq, ↓reduceIte, nLT, nLE, nEQ, nAdd, nMul, nPow, nSub, zLT, zLE, zNat, RAes9105, DB]
      refine hX ?_
      clear hX hY X Y
      refine awp_skip ?_
      refine hK2 _ _ ?_
      clear hK2 K2
      refine awp_seq_k ?_
      intro K3 hK3
      refine awp_block ?_
      have heq : (((q + 1 : Nat) : Int) == 10) = (q + 1 == 10) := by
        by_cases h : q + 1 = 10
        · rw [h]; rfl
        · rw [show (q + 1 == 10) = false by simpa using h]
          simp; omega
      have hrdq := hrd q
      have hnxq := hnx q
      have hKq := hKat (q + 1) (by omega)
      have hKd : 16 ≤ (List.drop ((q + 1) * 16) KS).length := by rw [List.length_drop, hKl]; omega
      have hSl : ((Aes.state key b q).map byteV).length = 16 := by rw [List.length_map, Aes.state_len]
      have hStk : List.take 16 ((Aes.state key b q).map byteV) = (Aes.state key b q).map byteV := List.take_of_length_le (by omega)
      have hNl : ((Aes.state key b (q + 1)).map byteV).length = 16 := by rw [List.length_map, Aes.state_len]
      have hNall := all_bytes (Aes.state key b (q + 1))
      generalize hN : (Aes.state key b (q + 1)).map byteV = NB at *
      generalize (Aes.state key b q).map byteV = SB at *
      generalize (Aes.kr key (q + 1)).map byteV = KQ at *
      have m0 : (0 : Int) ≤ ((q + 1 : Nat) : Int) := by omega
      have m1 : ((q + 1 : Nat) : Int) < ((11 : Nat) : Int) := by omega
      refine awp_mrk_end T.mixed [(o7, SB), (o5, Y), (o6, KS)] [4, 8] [0, 1, 7] [9] (by kernel_rfl) (by simp only [Pres_cons, Pres_nil, and_true]; simp [AS.set, upd, j5, j6, j7]) ?_
      intro K hK
      simp only [↓AXr_nil, ↓AXr_cons, gval, lval, fzGet_cons, fzGet_nil, Pres_cons, Pres_nil, List.any_cons, List.any_nil, List.contains_cons, List.contains_nil, Nat.reduceBEq, Bool.or_false, Bool.or_true, Bool.or_self, Bool.false_or, ↓DN, UP, DF, qSh, qCv, qIA, qIx, qSl, qBu, qCe, qOn, reduceCtorEq, ↓reduceIte, nLT, nLE, nEQ, nAdd, nMul, nPow, nSub, zLT, zLE, zNat, RAes9105, e5, e6, e7, e8, heq, j5, j6, j7, m0, m1, hsl, hstk, hKl, hKq, hKd, hSl, hStk, n75, n75.symm, n76, n76.symm, n65, n65.symm, Nat.le_refl]
      refine acallk (hrdq _) ?_
      rintro r sa ⟨rfl, rfl⟩
      simp only [↓AXq_nil, ↓AXq_cons, pval, ↓AXr_nil, ↓AXr_cons, gval, lval, fzGet_cons, fzGet_nil, Pres_cons, Pres_nil, List.any_cons, List.any_nil, DX, Nat.reduceBEq, ↓DN, UP, DF, qSh, qCv, qIA, qIx, qSl, qBu, qCe, qOn, reduceCtorEq, ↓reduceIte, nLT, nLE, nEQ, nAdd, nMul, nPow, nSub, zLT, zLE, zNat, RAes9105, e5, e6, e7, e8, heq, j5, j6, j7, m0, m1, hsl, hstk, hKl, hKq, hKd, hSl, hStk, n75, n75.symm, n76, n76.symm, n65, n65.symm, Nat.le_refl]
      refine acallk (hnxq _) ?_
      rintro r sb ⟨rfl, rfl⟩
      simp only [↓AXq_nil, ↓AXq_cons, pval, ↓AXr_nil, ↓AXr_cons, gval, lval, fzGet_cons, fzGet_nil, Pres_cons, Pres_nil, List.any_cons, List.any_nil, DX, Nat.reduceBEq, ↓DN, UP, DF, qSh, qCv, qIA, qIx, qSl, qBu, qCe, qOn, reduceCtorEq, ↓reduceIte, nLT, nLE, nEQ, nAdd, nMul, nPow, nSub, zLT, zLE, zNat, RAes9105, e7, j7, hSl, hNl, hNall, Nat.le_refl]
      refine ⟨⟨j5, j6⟩, ?_⟩
      rw [asetAll_whole SB NB (by omega)]
      refine hK _ _ ?_
      clear hK K
      simp only [blockQ, thenQ, if_true, if_false]
      refine hK3 _ _ ?_
      clear hK3 K3
      refine awp_reg_end ?_
      intro K hK
      simp only [↓DN, UP, DF, qSh, qCv, qIA, qIx, qSl, qBu, qCe, qOn, reduceCtorEq, ↓reduceIte, nLT, nLE, nEQ, nAdd, nMul, nPow, nSub, zLT, zLE, zNat, RAes9105, e8, w_succ (q + 1) (by omega)]
      refine hK _ _ ?_
      clear hK K
      refine ⟨⟨q + 1, by omega, by simp only [upd, e4, nEQ, ↓reduceIte], by simp only [upd, e5, nEQ, ↓reduceIte], by simp only [upd, e6, nEQ, ↓reduceIte], by simp only [upd, e7, nEQ, ↓reduceIte], by simp only [upd, ↓reduceIte], by rw [AS.set_objs_ne _ n74.symm]; exact j4, by rw [AS.set_objs_ne _ n75.symm]; exact j5, by rw [AS.set_objs_ne _ n76.symm]; exact j6, by rw [hN]; exact AS.set_objs_same _ _ _, AS.le_set hle hs7 _⟩, ?_⟩
      simp only [e8, upd, ↓reduceIte]
      omega
    · obtain rfl : q = 10 := by omega
      refine awp_reg_seq ?_
      intro K hK
      simp only [↓DN, UP, DF, qSh, qCv, qIA, qIx, qSl, qBu, qCe, qOn, reduceCtorEq, ↓reduceIte, nLT, nLE, nEQ, nAdd, nMul, nPow, nSub, zLT, zLE, zNat, RAes9105, e8, decide_eq_false (show ¬ ((10 + 1 : Nat) : Int) ≤ 10 by decide)]
      refine hK _ _ ?_
      clear hK K
      refine awp_cond_k ?_
      intro X Y hX hY
      simp only [↓DN, UP, DF, qSh, qCv, qIA, qIx, qSl, qBu, qCe, qOn, reduceCtorEq, ↓reduceIte, nLT, nLE, nEQ, nAdd, nMul, nPow, nSub, zLT, zLE, zNat, RAes9105, DB]
      refine hY ?_
      clear hX hY X Y
      refine awp_exit ?_
      simp only [thenQ, blockQ, if_true]
      clear hK2 K2
      refine hK _ _ ?_
      clear hK K
      rw [show Aes.state key b 10 = Aes.block key b from rfl] at j7
      have hwl : ((Aes.block key b).map byteV).length = 16 := by rw [List.length_map, Aes.block_len]
      have hall := all_bytes (Aes.block key b)
      have htk : List.take 16 ((Aes.block key b).map byteV) = (Aes.block key b).map byteV := List.take_of_length_le (by omega)
      generalize (Aes.block key b).map byteV = X at *
      refine awp_reg_seq ?_
      intro K hK
      simp only [↓DN, UP, DF, qSh, qCv, qIA, qIx, qSl, qBu, qCe, qOn, reduceCtorEq, ↓reduceIte, nLT, nLE, nEQ, nAdd, nMul, nPow, nSub, zLT, zLE, zNat, RAes9105, e4, e7, j4, j7, hwl, htk, hall, n74, n74.symm, Nat.le_refl]
      rw [asetAll_whole Z X (by omega)]
      refine ⟨by omega, hK _ _ ?_⟩
      clear hK K
      refine awp_ret ?_
      refine aends_cell (v := .agg X) (o := o4) (off := 0) (by simp only [upd, e4, nEQ, ↓reduceIte]) (AS.set_objs_same _ _ _) (by rw [T.c138]; decide) (by simp only [↓DN, UP, DF, qSh, qCv, qIA, qIx, qSl, qBu, qCe, qOn, reduceCtorEq, ↓reduceIte, nLT, nLE, nEQ, nAdd, nMul, nPow, nSub, zLT, zLE, zNat, RAes9105, hwl, htk]) ?_
      exact ⟨_, s, AV.weak.refl _, AS.le_set hle ho4' _, rfl, rfl⟩

end Go.Proofs.YtooeklnbdgoneaaDoor


set_option autoImplicit false
namespace Go.Proofs.YtooeklnbdgoneaaDoor
open Go Go.AM Go.Proofs

variable {Γ : Nat → List AV}

/-- A number, as an int. -/
abbrev nV (n : Nat) : AV := .v (.int .i64 (n : Int))
end Go.Proofs.YtooeklnbdgoneaaDoor


set_option autoImplicit false
namespace Go.Proofs.YtooeklnbdgoneaaDoor
open Go Go.AM Go.Proofs

variable {Γ : Nat → List AV}

/-- Cells gathered in a slice of one's own. -/
def IOut (s : AS) (cs : List AV) (r : AV) (s' : AS) : Prop :=
  s.le s' ∧ ((cs = [] ∧ r = .v (.slice none 0 0)) ∨ ∃ t e, s.own t = none ∧ s'.own t = some e ∧ r = .sl 1 cs.length cs (.own t e))
theorem IOut.nil (s : AS) : IOut s [] (.v (.slice none 0 0)) s := ⟨AS.le.refl s, .inl ⟨rfl, rfl⟩⟩
end Go.Proofs.YtooeklnbdgoneaaDoor


set_option autoImplicit false
namespace Go.Proofs.YtooeklnbdgoneaaDoor
open Go Go.AM Go.Proofs

variable {Γ : Nat → List AV}

theorem rep4n : ∀ x : AV, List.replicate 4 x = [x, x, x, x] := fun _ => rfl
def mm (x : UInt8) (j : Nat) : UInt8 := if j = 0 then Aes.dbl x else if j = 1 then Aes.dbl x ^^^ x else x
end Go.Proofs.YtooeklnbdgoneaaDoor


set_option autoImplicit false
namespace Go.AM

/-! ### The prime's arithmetic -/
def PP : Nat := 2305843009213693951

theorem and_pp (n : Nat) : n &&& 2305843009213693951 = n % 2305843009213693952 := by
  have := Nat.and_two_pow_sub_one_eq_mod n 61
  simpa using this

/-- power.fold, as the walk has it. -/
def foldRaw (n : Int) : Int :=
  let m := iadd .u64 (iand .u64 n 2305843009213693951) (ishr .u64 n 61)
  if m ≥ 2305843009213693951 then isub .u64 m 2305843009213693951 else m

theorem fold_sum (n : Nat) (h : n < 2 ^ 64) : iadd .u64 (iand .u64 (n : Int) 2305843009213693951) (ishr .u64 (n : Int) 61) = ((n % 2305843009213693952 + n / 2305843009213693952 : Nat) : Int) := by
  have e1 : iand .u64 (n : Int) 2305843009213693951 = ((n &&& 2305843009213693951 : Nat) : Int) := iand_u (k := .u64) rfl n 2305843009213693951 h (by decide)
  have e2 : ishr .u64 (n : Int) 61 = ((n / 2 ^ 61 : Nat) : Int) := by
    have := ishr_u (k := .u64) n 61
    simpa [IntKind.bits] using this
  rw [e1, e2, iadd_u rfl, and_pp, show IntKind.u64.bits = 64 from rfl]
  exact congrArg (fun x : Nat => (x : Int)) (by omega)

theorem fold_plain (n : Nat) (h : n < 2 ^ 64) : foldRaw n = ((n % PP : Nat) : Int) := by
  unfold foldRaw PP
  rw [fold_sum n h]
  simp only
  split
  · rename_i hc
    have hc' : 2305843009213693951 ≤ n % 2305843009213693952 + n / 2305843009213693952 := by omega
    have := isub_u_le (k := .u64) rfl (n % 2305843009213693952 + n / 2305843009213693952) 2305843009213693951 hc' (by simp only [IntKind.bits]; omega)
    rw [show (2305843009213693951 : Int) = ((2305843009213693951 : Nat) : Int) from rfl, this]
    exact congrArg (fun x : Nat => (x : Int)) (by omega)
  · rename_i hc
    exact congrArg (fun x : Nat => (x : Int)) (by omega)

/-- The high and the low half of a product. -/
theorem mul64_hi (x1 x0 y1 y0 : Nat) (h1 : x1 < 4294967296) (h2 : x0 < 4294967296) (h3 : y1 < 4294967296) (h4 : y0 < 4294967296) :
    x1 * y1 + (x1 * y0 + x0 * y0 / 4294967296) / 4294967296 + ((x1 * y0 + x0 * y0 / 4294967296) % 4294967296 + x0 * y1) / 4294967296 = (x1 * 4294967296 + x0) * (y1 * 4294967296 + y0) / 18446744073709551616 := by
  have e : (x1 * 4294967296 + x0) * (y1 * 4294967296 + y0) = x1 * y1 * 18446744073709551616 + (x1 * y0 + x0 * y1) * 4294967296 + x0 * y0 := by
    simp only [Nat.add_mul, Nat.mul_add]
    have a1 : x1 * 4294967296 * (y1 * 4294967296) = x1 * y1 * 18446744073709551616 := by
      rw [Nat.mul_mul_mul_comm]
    have a2 : x0 * (y1 * 4294967296) = x0 * y1 * 4294967296 := by rw [Nat.mul_assoc]
    have a3 : x1 * 4294967296 * y0 = x1 * y0 * 4294967296 := by rw [Nat.mul_right_comm]
    omega
  rw [e]
  generalize x1 * y1 = A
  generalize x1 * y0 = B
  generalize x0 * y1 = C
  generalize x0 * y0 = D
  omega

theorem mul_lt32 {a b : Nat} (ha : a < 4294967296) (hb : b < 4294967296) : a * b ≤ 18446744065119617025 := by
  have : a * b ≤ 4294967295 * 4294967295 := Nat.mul_le_mul (by omega) (by omega)
  omega

theorem and_32 (n : Nat) : n &&& 4294967295 = n % 4294967296 := by
  have := Nat.and_two_pow_sub_one_eq_mod n 32
  simpa using this

theorem u64_and32 (n : Nat) (h : n < 2 ^ 64) : iand .u64 (n : Int) 4294967295 = ((n % 4294967296 : Nat) : Int) := by
  have := iand_u (k := .u64) rfl n 4294967295 h (by decide)
  rw [and_32] at this
  exact this
theorem u64_shr32 (n : Nat) : ishr .u64 (n : Int) 32 = ((n / 4294967296 : Nat) : Int) := by
  have := ishr_u (k := .u64) n 32
  simpa [IntKind.bits] using this
theorem u64_add (a b : Nat) (h : a + b < 2 ^ 64) : iadd .u64 (a : Int) b = ((a + b : Nat) : Int) := by
  rw [iadd_u rfl]; simp only [IntKind.bits]; rw [Nat.mod_eq_of_lt h]
theorem u64_mul (a b : Nat) (h : a * b < 2 ^ 64) : imul .u64 (a : Int) b = ((a * b : Nat) : Int) := by
  rw [imul_u rfl]; simp only [IntKind.bits]; rw [Nat.mod_eq_of_lt h]
theorem u64_mulw (a b : Nat) : imul .u64 (a : Int) b = ((a * b % 18446744073709551616 : Nat) : Int) := by
  rw [imul_u rfl]; rfl

/-- power.Mul's last sum. -/
theorem mul_sum (q : Nat) (h : q < 2 ^ 122) : iadd .u64 (iand .u64 ((q % 18446744073709551616 : Nat) : Int) 2305843009213693951) (ior .u64 (ishl .u64 ((q / 18446744073709551616 : Nat) : Int) 3) (ishr .u64 ((q % 18446744073709551616 : Nat) : Int) 61)) =
    ((q % 2305843009213693952 + q / 2305843009213693952 : Nat) : Int) := by
  have e1 := iand_u (k := .u64) rfl (q % 18446744073709551616) 2305843009213693951 (by simp only [IntKind.bits]; omega) (by decide)
  have e2 : ishr .u64 ((q % 18446744073709551616 : Nat) : Int) 61 = ((q % 18446744073709551616 / 2305843009213693952 : Nat) : Int) := by
    have := ishr_u (k := .u64) (q % 18446744073709551616) 61
    simpa [IntKind.bits] using this
  have e3 : ishl .u64 ((q / 18446744073709551616 : Nat) : Int) 3 = ((8 * (q / 18446744073709551616) : Nat) : Int) := by
    have := ishl_u (k := .u64) rfl (q / 18446744073709551616) 3
    rw [show (3 : Int) = ((3 : Nat) : Int) from rfl, this, show min 3 IntKind.u64.bits = 3 from rfl, show IntKind.u64.bits = 64 from rfl]
    exact congrArg (fun x : Nat => (x : Int)) (by omega)
  rw [e2, e3, show (2305843009213693951 : Int) = ((2305843009213693951 : Nat) : Int) from rfl, e1, and_pp, ior_u rfl _ _ (by simp only [IntKind.bits]; omega) (by simp only [IntKind.bits]; omega)]
  have e4 : 8 * (q / 18446744073709551616) ||| q % 18446744073709551616 / 2305843009213693952 = 8 * (q / 18446744073709551616) + q % 18446744073709551616 / 2305843009213693952 := by
    have := Nat.two_pow_add_eq_or_of_lt (i := 3) (b := q % 18446744073709551616 / 2305843009213693952) (by omega) (q / 18446744073709551616)
    simpa using this.symm
  rw [e4, iadd_u rfl, show IntKind.u64.bits = 64 from rfl]
  exact congrArg (fun x : Nat => (x : Int)) (by omega)

theorem pp_lt : PP < 2 ^ 61 := by decide
theorem mod_pp_lt (n : Nat) : n % PP < PP := Nat.mod_lt _ (by decide)
theorem mulPP_lt (a b : Nat) : (a % PP) * (b % PP) < 2 ^ 122 := by
  have h1 := mod_pp_lt a
  have h2 := mod_pp_lt b
  have h3 := pp_lt
  calc (a % PP) * (b % PP) < 2 ^ 61 * 2 ^ 61 := Nat.mul_lt_mul'' (by omega) (by omega)
    _ = 2 ^ 122 := by decide
theorem split_mod (q : Nat) : (q % 2305843009213693952 + q / 2305843009213693952) % PP = q % PP := by unfold PP; omega
end Go.AM


set_option autoImplicit false
namespace Go.Proofs.YtooeklnbdgoneaaDoor
open Go Go.AM Go.Proofs

variable {Γ : Nat → List AV}

theorem first_lt (nonce : List UInt8) (h : nonce.length = 16) : Aes.first nonce < 4294967296 := by
  have key : ∀ (l : List UInt8) (x : Nat), l.foldl (fun x b => x * 256 + b.toNat) x < (x + 1) * 256 ^ l.length := by
    intro l
    induction l with
    | nil => intro x; simp
    | cons b l ih =>
      intro x
      rw [List.foldl_cons]
      have h1 := ih (x * 256 + b.toNat)
      have hb := b.toNat_lt
      have h2 : (x * 256 + b.toNat + 1) * 256 ^ l.length ≤ ((x + 1) * 256) * 256 ^ l.length := Nat.mul_le_mul_right _ (by omega)
      rw [List.length_cons, Nat.pow_succ, Nat.mul_comm (256 ^ l.length), ← Nat.mul_assoc]
      omega
  have := key (nonce.drop 12) 0
  rw [List.length_drop, h] at this
  exact this
theorem ctr_len (nonce : List UInt8) (h : nonce.length = 16) (i : Nat) : (Aes.ctr nonce i).length = 16 := by simp [Aes.ctr, h]
end Go.Proofs.YtooeklnbdgoneaaDoor


set_option autoImplicit false
namespace Go.Proofs.YtooeklnbdgoneaaDoor
open Go Go.AM Go.Proofs

variable {Γ : Nat → List AV}

theorem tag_eq (key nonce beside masked : List UInt8) : Aes.tag key nonce beside masked = (Mac.tag (key.drop 16) (be 4 beside.length ++ (beside ++ (nonce ++ masked)))).take 16 := rfl

/-- What is opened: a text, and an error's number. -/
def openedT (key nonce beside z : List UInt8) : List UInt8 := if z.length < 16 then [] else if Aes.tag key nonce beside (z.take (z.length - 16)) = z.drop (z.length - 16) then Aes.mask key nonce (z.take (z.length - 16)) else []
def openedE (key nonce beside z : List UInt8) : Nat := if z.length < 16 then 10 else if Aes.tag key nonce beside (z.take (z.length - 16)) = z.drop (z.length - 16) then 0 else 14
end Go.Proofs.YtooeklnbdgoneaaDoor


