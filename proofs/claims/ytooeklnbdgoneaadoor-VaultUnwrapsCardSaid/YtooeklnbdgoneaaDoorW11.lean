/- Contracts of the program's functions, each walked once; the conditions stand in each theorem. -/
import Derived.Test.YtooeklnbdgoneaaDoorAMp6
import Derived.Test.YtooeklnbdgoneaaDoorW10
import Derived.Test.YtooeklnbdgoneaaDoorW4
import Derived.Test.YtooeklnbdgoneaaDoorAMp5
import Derived.Test.YtooeklnbdgoneaaDoorW6
import Derived.Test.YtooeklnbdgoneaaDoorAMp4
import Derived.Test.YtooeklnbdgoneaaDoorW5
import Derived.Test.YtooeklnbdgoneaaDoorW9
set_option linter.unusedSimpArgs false
set_option linter.unusedVariables false
open Nat renaming reduceLT → nLT, reduceLeDiff → nLE, reduceEqDiff → nEQ, reduceAdd → nAdd, reduceMul → nMul, reducePow → nPow, reduceSub → nSub
open Int renaming reduceLT → zLT, reduceLE → zLE, reduceToNat → zNat
set_option autoImplicit false
namespace Go.Proofs.YtooeklnbdgoneaaDoor
open Go Go.AM Go.Proofs

theorem RAes1883 : type_of% (And.intro (And.intro (And.intro (And.intro (And.intro (And.intro @Tryd.underlying3 T.c3) (And.intro T.g3 (And.intro T.b3 T.z3))) (And.intro (And.intro @Tryd.underlying5 (And.intro T.c5 T.g5)) (And.intro T.b5 (And.intro T.z5 @Tryd.underlying22)))) (And.intro (And.intro (And.intro T.c22 (And.intro T.g22 T.b22)) (And.intro T.z22 (And.intro T.s22 @Tryd.underlying30))) (And.intro (And.intro T.c30 (And.intro T.g30 T.b30)) (And.intro T.z30 (And.intro @Tryd.underlying66 T.c66))))) (And.intro (And.intro (And.intro (And.intro T.g66 (And.intro T.b66 T.z66)) (And.intro T.p66 (And.intro @Tryd.underlying81 T.c81))) (And.intro (And.intro T.g81 (And.intro T.b81 T.z81)) (And.intro @Tryd.underlying108 (And.intro T.c108 T.g108)))) (And.intro (And.intro (And.intro T.b108 (And.intro T.z108 T.h108)) (And.intro @Tryd.underlying138 (And.intro T.c138 T.g138))) (And.intro (And.intro T.b138 (And.intro T.z138 T.k105)) (And.intro T.k70 (And.intro T.k104 T.k37)))))) Tryd.ntmps83) :=
  (And.intro (And.intro (And.intro (And.intro (And.intro (And.intro @Tryd.underlying3 T.c3) (And.intro T.g3 (And.intro T.b3 T.z3))) (And.intro (And.intro @Tryd.underlying5 (And.intro T.c5 T.g5)) (And.intro T.b5 (And.intro T.z5 @Tryd.underlying22)))) (And.intro (And.intro (And.intro T.c22 (And.intro T.g22 T.b22)) (And.intro T.z22 (And.intro T.s22 @Tryd.underlying30))) (And.intro (And.intro T.c30 (And.intro T.g30 T.b30)) (And.intro T.z30 (And.intro @Tryd.underlying66 T.c66))))) (And.intro (And.intro (And.intro (And.intro T.g66 (And.intro T.b66 T.z66)) (And.intro T.p66 (And.intro @Tryd.underlying81 T.c81))) (And.intro (And.intro T.g81 (And.intro T.b81 T.z81)) (And.intro @Tryd.underlying108 (And.intro T.c108 T.g108)))) (And.intro (And.intro (And.intro T.b108 (And.intro T.z108 T.h108)) (And.intro @Tryd.underlying138 (And.intro T.c138 T.g138))) (And.intro (And.intro T.b138 (And.intro T.z138 T.k105)) (And.intro T.k70 (And.intro T.k104 T.k37)))))) Tryd.ntmps83)
theorem RAes1882 : type_of% (And.intro (And.intro (And.intro (And.intro (And.intro @Tryd.underlying3 T.c3) (And.intro T.g3 T.b3)) (And.intro (And.intro T.z3 @Tryd.underlying5) (And.intro T.c5 T.g5))) (And.intro (And.intro (And.intro T.b5 T.z5) (And.intro @Tryd.underlying22 T.c22)) (And.intro (And.intro T.g22 T.b22) (And.intro T.z22 T.s22)))) Tryd.ntmps82) :=
  (And.intro (And.intro (And.intro (And.intro (And.intro @Tryd.underlying3 T.c3) (And.intro T.g3 T.b3)) (And.intro (And.intro T.z3 @Tryd.underlying5) (And.intro T.c5 T.g5))) (And.intro (And.intro (And.intro T.b5 T.z5) (And.intro @Tryd.underlying22 T.c22)) (And.intro (And.intro T.g22 T.b22) (And.intro T.z22 T.s22)))) Tryd.ntmps82)
theorem RAes1884 : type_of% (And.intro (And.intro (And.intro (And.intro (And.intro (And.intro @Tryd.underlying3 T.c3) (And.intro T.g3 (And.intro T.b3 T.z3))) (And.intro (And.intro @Tryd.underlying4 T.c4) (And.intro T.g4 (And.intro T.b4 T.z4)))) (And.intro (And.intro (And.intro @Tryd.underlying5 T.c5) (And.intro T.g5 (And.intro T.b5 T.z5))) (And.intro (And.intro @Tryd.underlying22 (And.intro T.c22 T.g22)) (And.intro T.b22 (And.intro T.z22 T.s22))))) (And.intro (And.intro (And.intro (And.intro @Tryd.underlying61 T.c61) (And.intro T.g61 (And.intro T.b61 T.z61))) (And.intro (And.intro T.p61 (And.intro @Tryd.underlying77 T.c77)) (And.intro T.g77 (And.intro T.b77 T.z77)))) (And.intro (And.intro (And.intro T.s77 @Tryd.underlying105) (And.intro T.c105 (And.intro T.g105 T.b105))) (And.intro (And.intro T.z105 (And.intro T.h105 T.k34)) (And.intro T.k12 (And.intro T.k36 T.k106)))))) Tryd.ntmps84) :=
  (And.intro (And.intro (And.intro (And.intro (And.intro (And.intro @Tryd.underlying3 T.c3) (And.intro T.g3 (And.intro T.b3 T.z3))) (And.intro (And.intro @Tryd.underlying4 T.c4) (And.intro T.g4 (And.intro T.b4 T.z4)))) (And.intro (And.intro (And.intro @Tryd.underlying5 T.c5) (And.intro T.g5 (And.intro T.b5 T.z5))) (And.intro (And.intro @Tryd.underlying22 (And.intro T.c22 T.g22)) (And.intro T.b22 (And.intro T.z22 T.s22))))) (And.intro (And.intro (And.intro (And.intro @Tryd.underlying61 T.c61) (And.intro T.g61 (And.intro T.b61 T.z61))) (And.intro (And.intro T.p61 (And.intro @Tryd.underlying77 T.c77)) (And.intro T.g77 (And.intro T.b77 T.z77)))) (And.intro (And.intro (And.intro T.s77 @Tryd.underlying105) (And.intro T.c105 (And.intro T.g105 T.b105))) (And.intro (And.intro T.z105 (And.intro T.h105 T.k34)) (And.intro T.k12 (And.intro T.k36 T.k106)))))) Tryd.ntmps84)

variable {Γ : Nat → List AV}

set_option maxHeartbeats 8000000 in
set_option maxRecDepth 100000 in
theorem mask_none_calls (key nonce : List UInt8) (hk : key.length = 48) (hn : nonce.length = 16) (s : AS) :
    ACalls Tryd.prog Γ 83 [bytesV key .any, bytesV nonce .any, bytesV [] .any] s (fun r s' => r = bytesV [] .any ∧ s' = s) := by
  refine acalls_body Tryd.func83 rfl Tryd.ntmps83 Tryd.results83 (by simp) ?_
  have hk16 : (key.take 16).length = 16 := by simp [hk]
  have hk16l : (List.take 16 (key.map byteV)).length = 16 := by simp [hk]
  have hk16a : (List.take 16 (key.map byteV)).all AV.one = true := by rw [← List.map_take]; exact all_bytes _
  have hnl : (nonce.map byteV).length = 16 := by rw [List.length_map, hn]
  have hna := all_bytes nonce
  have hntk : List.take 16 (nonce.map byteV) = nonce.map byteV := List.take_of_length_le (by omega)
  have hfl := first_lt nonce hn
  have hclone := fun s => cloneB_calls (Γ := Γ) [] s (by simp)
  unfold bytesV at hclone ⊢
  rw [hk, hn]
  refine awp_reg_seq ?_
  intro K hK
  simp only [↓DN, UP, DF, ashift, aconv, aindexAddr, aindex, aslice, abuiltin, AV.cells, AV.one, reduceCtorEq, ↓reduceIte, nLT, nLE, nEQ, nAdd, nMul, nPow, nSub, zLT, zLE, zNat, RAes1883]
  refine hK _ _ ?_
  clear hK K
  refine awp_reg_seq ?_
  intro K hK
  simp only [↓DN, UP, DF, ashift, aconv, aindexAddr, aindex, aslice, abuiltin, AV.cells, AV.one, reduceCtorEq, ↓reduceIte, nLT, nLE, nEQ, nAdd, nMul, nPow, nSub, zLT, zLE, zNat, RAes1883]
  intro o7 ho7 o8 ho8
  obtain ⟨h87, ho8'⟩ := AS.fresh_set ho8
  rw [z16]
  refine hK _ _ ?_
  clear hK K
  generalize hs0 : (s.set o7 (List.replicate 16 (bV 0))).set o8 (List.replicate 16 (bV 0)) = s0 at *
  have j7 : s0.objs o7 = some (List.replicate 16 (bV 0)) := by rw [← hs0, AS.set_objs_ne _ h87.symm, AS.set_objs_same]
  have j8 : s0.objs o8 = some (List.replicate 16 (bV 0)) := by rw [← hs0]; exact AS.set_objs_same _ _ _
  have hle : s.le s0 := by rw [← hs0]; exact AS.le_set (AS.le_set (AS.le.refl s) ho7 _) ho8' _
  clear hs0 ho8
  have hzl : (List.replicate 16 (bV 0)).length = 16 := by simp
  generalize hZ : List.replicate 16 (bV 0) = Z at *
  refine awp_reg_seq ?_
  intro K hK
  simp only [↓DN, UP, DF, ashift, aconv, aindexAddr, aindex, aslice, abuiltin, AV.cells, AV.one, reduceCtorEq, ↓reduceIte, nLT, nLE, nEQ, nAdd, nMul, nPow, nSub, zLT, zLE, zNat, RAes1883, j7, hzl, hk16l, hk16a, show (0 : Int) ≤ ((16 : Nat) : Int) from by decide, show ((16 : Nat) : Int) ≤ ((16 : Nat) : Int) from by decide, show ¬ (((16 : Nat) : Int) = 0) from by decide, show min 48 16 = 16 from rfl]
  refine hK _ _ ?_
  clear hK K
  generalize hs1 : s0.set o7 (asetAll Z 0 (List.map byteV (List.take 16 key))) = s1 at *
  have q8 : s1.objs o8 = some Z := by rw [← hs1, AS.set_objs_ne _ h87]; exact j8
  have hle1 : s.le s1 := by rw [← hs1]; exact AS.le_set hle ho7 _
  clear hs1 j7 j8 hle
  refine awp_reg_seq ?_
  intro K hK
  simp only [↓DN, UP, DF, ashift, aconv, aindexAddr, aindex, aslice, abuiltin, AV.cells, AV.one, reduceCtorEq, ↓reduceIte, nLT, nLE, nEQ, nAdd, nMul, nPow, nSub, zLT, zLE, zNat, RAes1883, q8, hzl, hnl, hna, hntk, show (0 : Int) ≤ ((16 : Nat) : Int) from by decide, show ((16 : Nat) : Int) ≤ ((16 : Nat) : Int) from by decide, show ¬ (((16 : Nat) : Int) = 0) from by decide, show min 16 16 = 16 from rfl]
  refine hK _ _ ?_
  clear hK K
  generalize hs2 : s1.set o8 (asetAll Z 0 (nonce.map byteV)) = s2 at *
  have hle2 : s.le s2 := by rw [← hs2]; exact AS.le_set hle1 ho8' _
  clear hs2 q8 hle1
  have hd12 : (nonce.drop 12).length = 4 := by simp [hn]
  have hop := fun s => open_calls (Γ := Γ) (nonce.drop 12) s (by omega)
  unfold bytesV at hop
  rw [hd12] at hop
  refine awp_reg_seq ?_
  intro K hK
  simp only [↓DN, UP, DF, ashift, aconv, aindexAddr, aindex, aslice, abuiltin, AV.cells, AV.one, reduceCtorEq, ↓reduceIte, nLT, nLE, nEQ, nAdd, nMul, nPow, nSub, zLT, zLE, zNat, RAes1883, hntk, hn, show (0 : Int) ≤ 12 from by decide, show (12 : Int) ≤ ((16 : Nat) : Int) from by decide, show ((16 : Nat) : Int) ≤ ((16 : Nat) : Int) from by decide]
  refine acallk (hop _) ?_
  rintro r s3 ⟨p, rfl, hp⟩
  simp only [↓AXq_nil, ↓AXq_cons, pval, DX, Nat.reduceBEq, ↓DN, UP, DF, ashift, aconv, aindexAddr, aindex, aslice, abuiltin, AV.cells, AV.one, reduceCtorEq, ↓reduceIte, nLT, nLE, nEQ, nAdd, nMul, nPow, nSub, zLT, zLE, zNat, RAes1883]
  refine hK _ _ ?_
  clear hK K
  refine awp_reg_seq ?_
  intro K hK
  simp only [↓DN, UP, DF, ashift, aconv, aindexAddr, aindex, aslice, abuiltin, AV.cells, AV.one, reduceCtorEq, ↓reduceIte, nLT, nLE, nEQ, nAdd, nMul, nPow, nSub, zLT, zLE, zNat, RAes1883]
  refine acallk (eyeU32_calls s2 s3 p _ hp) ?_
  rintro r s4 ⟨rfl, hp2⟩
  simp only [↓AXq_nil, ↓AXq_cons, pval, DX, Nat.reduceBEq, ↓DN, UP, DF, ashift, aconv, aindexAddr, aindex, aslice, abuiltin, AV.cells, AV.one, reduceCtorEq, ↓reduceIte, nLT, nLE, nEQ, nAdd, nMul, nPow, nSub, zLT, zLE, zNat, RAes1883]
  refine hK _ _ ?_
  clear hK K
  have hle4 : s.le s4 := AS.le.trans hle2 hp2.le
  clear hp hp2 hle2 hop
  refine awp_reg_seq ?_
  intro K hK
  simp only [↓DN, UP, DF, ashift, aconv, aindexAddr, aindex, aslice, abuiltin, AV.cells, AV.one, reduceCtorEq, ↓reduceIte, nLT, nLE, nEQ, nAdd, nMul, nPow, nSub, zLT, zLE, zNat, RAes1883]
  refine acallk (hclone _) ?_
  rintro r s5 ⟨rfl, rfl⟩
  simp only [↓AXq_nil, ↓AXq_cons, pval, DX, Nat.reduceBEq, ↓DN, UP, DF, ashift, aconv, aindexAddr, aindex, aslice, abuiltin, AV.cells, AV.one, reduceCtorEq, ↓reduceIte, nLT, nLE, nEQ, nAdd, nMul, nPow, nSub, zLT, zLE, zNat, RAes1883]
  refine hK _ _ ?_
  clear hK K
  have c1 : iadd .i64 ((0 : Nat) : Int) 16 = ((16 : Nat) : Int) := i64_add 0 16 (by omega)
  have c2 : isub .i64 ((16 : Nat) : Int) 1 = ((15 : Nat) : Int) := i64_sub 16 1 (by omega) (by omega)
  have c3 : iquo .i64 ((15 : Nat) : Int) 16 = ((0 : Nat) : Int) := by decide
  refine awp_seq_k ?_
  intro K hK
  refine awp_reg_seq ?_
  intro K hK
  simp only [↓DN, UP, DF, ashift, aconv, aindexAddr, aindex, aslice, abuiltin, AV.cells, AV.one, reduceCtorEq, ↓reduceIte, nLT, nLE, nEQ, nAdd, nMul, nPow, nSub, zLT, zLE, zNat, RAes1883, List.length_nil, c1, c2, c3, sixteen_ne]
  refine hK _ _ ?_
  clear hK K
  clear c1 c2 c3
  refine awp_block ?_
  refine awp_loop (fun E s6 => E 11 = .sl 1 0 [] .any ∧ E 36 = nV 0 ∧ E 37 = nV 0 ∧ s6 = s5)
    (fun E _ => 0) ?_ ?_
  · exact ⟨by simp only [upd, Nat.reduceEqDiff, ↓reduceIte], by simp only [upd, Nat.reduceEqDiff, ↓reduceIte], by simp only [upd, ↓reduceIte]; rfl, rfl⟩
  · rintro E1 s6 ⟨e11, e36, e37, rfl⟩ -
    refine awp_reg_seq ?_
    intro K hK
    simp only [↓DN, UP, DF, ashift, aconv, aindexAddr, aindex, aslice, abuiltin, AV.cells, AV.one, reduceCtorEq, ↓reduceIte, nLT, nLE, nEQ, nAdd, nMul, nPow, nSub, zLT, zLE, zNat, RAes1883, e36, e37, decide_eq_false (show ¬ ((0 : Nat) : Int) < ((0 : Nat) : Int) by decide)]
    refine hK _ _ ?_
    clear hK K
    refine awp_seq_k ?_
    intro K2 hK2
    refine awp_cond_k ?_
    intro X Y hX hY
    simp only [↓DN, UP, DF, ashift, aconv, aindexAddr, aindex, aslice, abuiltin, AV.cells, AV.one, reduceCtorEq, ↓reduceIte, nLT, nLE, nEQ, nAdd, nMul, nPow, nSub, zLT, zLE, zNat, RAes1883, DB]
    refine hY ?_
    clear hX hY X Y
    refine awp_exit ?_
    simp only [thenQ, blockQ, if_true]
    clear hK2 K2
    refine hK _ _ ?_
    clear hK K
    refine awp_reg_seq ?_
    intro K hK
    simp only [↓DN, UP, DF, ashift, aconv, aindexAddr, aindex, aslice, abuiltin, AV.cells, AV.one, reduceCtorEq, ↓reduceIte, nLT, nLE, nEQ, nAdd, nMul, nPow, nSub, zLT, zLE, zNat, RAes1883, e11]
    refine hK _ _ ?_
    clear hK K
    refine awp_ret ?_
    simp only [retQ, AEnds, aresL, ares, List.toList_toArray, ↓upd_same]; try simp only [↓DN, UP, DF, ashift, aconv, aindexAddr, aindex, aslice, abuiltin, AV.cells, AV.one, reduceCtorEq, ↓reduceIte, nLT, nLE, nEQ, nAdd, nMul, nPow, nSub, zLT, zLE, zNat, RAes1883, DT]
    exact ⟨_, s, AV.weak.refl _, hle4, rfl, rfl⟩

theorem mask_calls (key nonce text : List UInt8) (hk : key.length = 48) (hn : nonce.length = 16) (ht : text.length ≤ 2 ^ 30) (s : AS) :
    ACalls Tryd.prog Γ 83 [bytesV key .any, bytesV nonce .any, bytesV text .any] s (fun r s' => r = bytesV (Aes.mask key nonce text) .any ∧ s' = s) := by
  by_cases h0 : text.length = 0
  · obtain rfl := List.eq_nil_of_length_eq_zero h0
    rw [show Aes.mask key nonce [] = [] from rfl]
    exact mask_none_calls key nonce hk hn s
  · exact mask_some_calls key nonce text hk hn h0 ht s

theorem int_beq_nat (n c : Nat) : (((n : Nat) : Int) == ((c : Nat) : Int)) = decide (n = c) := by
  by_cases h : n = c
  · subst h; simp
  · rw [decide_eq_false h]; simp; omega
set_option maxHeartbeats 1000000 in
theorem sfits_calls (key nonce : List UInt8) (s : AS) :
    ACalls Tryd.prog Γ 82 [bytesV key .any, bytesV nonce .any] s (fun r s' => r = .v (.bool (decide (key.length = 48 ∧ nonce.length = 16))) ∧ s' = s) := by
  refine acalls_body Tryd.func82 rfl Tryd.ntmps82 Tryd.results82 (by simp) ?_
  have e1 : ((key.length : Int) == 48) = decide (key.length = 48) := int_beq_nat key.length 48
  have e2 : ((nonce.length : Int) == 16) = decide (nonce.length = 16) := int_beq_nat nonce.length 16
  by_cases h1 : key.length = 48
  · rw [decide_eq_true h1] at e1
    by_cases h2 : nonce.length = 16
    · rw [decide_eq_true h2] at e2
      rw [decide_eq_true (⟨h1, h2⟩ : key.length = 48 ∧ nonce.length = 16)]
      refine awp_reg_seq ?_
      intro K hK
      simp only [↓DN, UP, DF, ashift, aconv, aindexAddr, aindex, aslice, abuiltin, AV.cells, AV.one, reduceCtorEq, ↓reduceIte, nLT, nLE, nEQ, nAdd, nMul, nPow, nSub, zLT, zLE, zNat, RAes1882]
      refine hK _ _ ?_
      clear hK K
      refine awp_reg_seq ?_
      intro K hK
      simp only [↓DN, UP, DF, ashift, aconv, aindexAddr, aindex, aslice, abuiltin, AV.cells, AV.one, reduceCtorEq, ↓reduceIte, nLT, nLE, nEQ, nAdd, nMul, nPow, nSub, zLT, zLE, zNat, RAes1882, e1, e2]
      refine hK _ _ ?_
      clear hK K
      refine awp_ret ?_
      simp only [retQ, AEnds, aresL, ares, List.toList_toArray, ↓upd_same]; try simp only [↓DN, UP, DF, ashift, aconv, aindexAddr, aindex, aslice, abuiltin, AV.cells, AV.one, reduceCtorEq, ↓reduceIte, nLT, nLE, nEQ, nAdd, nMul, nPow, nSub, zLT, zLE, zNat, RAes1882, DT]
      exact ⟨_, _, AV.weak.refl _, AS.le.refl _, rfl, rfl⟩
    · rw [decide_eq_false h2] at e2
      rw [decide_eq_false (fun h : key.length = 48 ∧ nonce.length = 16 => h2 h.2)]
      refine awp_reg_seq ?_
      intro K hK
      simp only [↓DN, UP, DF, ashift, aconv, aindexAddr, aindex, aslice, abuiltin, AV.cells, AV.one, reduceCtorEq, ↓reduceIte, nLT, nLE, nEQ, nAdd, nMul, nPow, nSub, zLT, zLE, zNat, RAes1882]
      refine hK _ _ ?_
      clear hK K
      refine awp_reg_seq ?_
      intro K hK
      simp only [↓DN, UP, DF, ashift, aconv, aindexAddr, aindex, aslice, abuiltin, AV.cells, AV.one, reduceCtorEq, ↓reduceIte, nLT, nLE, nEQ, nAdd, nMul, nPow, nSub, zLT, zLE, zNat, RAes1882, e1, e2]
      refine hK _ _ ?_
      clear hK K
      refine awp_ret ?_
      simp only [retQ, AEnds, aresL, ares, List.toList_toArray, ↓upd_same]; try simp only [↓DN, UP, DF, ashift, aconv, aindexAddr, aindex, aslice, abuiltin, AV.cells, AV.one, reduceCtorEq, ↓reduceIte, nLT, nLE, nEQ, nAdd, nMul, nPow, nSub, zLT, zLE, zNat, RAes1882, DT]
      exact ⟨_, _, AV.weak.refl _, AS.le.refl _, rfl, rfl⟩
  · rw [decide_eq_false h1] at e1
    rw [decide_eq_false (fun h : key.length = 48 ∧ nonce.length = 16 => h1 h.1)]
    refine awp_reg_seq ?_
    intro K hK
    simp only [↓DN, UP, DF, ashift, aconv, aindexAddr, aindex, aslice, abuiltin, AV.cells, AV.one, reduceCtorEq, ↓reduceIte, nLT, nLE, nEQ, nAdd, nMul, nPow, nSub, zLT, zLE, zNat, RAes1882]
    refine hK _ _ ?_
    clear hK K
    refine awp_reg_seq ?_
    intro K hK
    simp only [↓DN, UP, DF, ashift, aconv, aindexAddr, aindex, aslice, abuiltin, AV.cells, AV.one, reduceCtorEq, ↓reduceIte, nLT, nLE, nEQ, nAdd, nMul, nPow, nSub, zLT, zLE, zNat, RAes1882, e1]
    refine hK _ _ ?_
    clear hK K
    refine awp_ret ?_
    simp only [retQ, AEnds, aresL, ares, List.toList_toArray, ↓upd_same]; try simp only [↓DN, UP, DF, ashift, aconv, aindexAddr, aindex, aslice, abuiltin, AV.cells, AV.one, reduceCtorEq, ↓reduceIte, nLT, nLE, nEQ, nAdd, nMul, nPow, nSub, zLT, zLE, zNat, RAes1882, DT]
    exact ⟨_, _, AV.weak.refl _, AS.le.refl _, rfl, rfl⟩

theorem partsB_quad (a b c d : List UInt8) : PartsB [a, b, c, d] = [bytesV a .any, bytesV b .any, bytesV c .any, bytesV d .any] := rfl

set_option maxHeartbeats 4000000 in
theorem stag_calls (hG0 : Γ 0 = stC Sha.H0) (hG : Γ 1 = Sha.K.map wV) (key nonce beside masked : List UInt8) (hk : key.length = 48) (hn : nonce.length = 16) (hb : beside.length ≤ 2 ^ 30) (hm : masked.length ≤ 2 ^ 30) (s : AS) :
    ACalls Tryd.prog Γ 84 [bytesV key .any, bytesV nonce .any, bytesV beside .any, bytesV masked .any] s (fun r s' => r = bytesV (Aes.tag key nonce beside masked) .any ∧ s' = s) := by
  refine acalls_body Tryd.func84 rfl Tryd.ntmps84 Tryd.results84 (by simp) ?_
  have hps : penSmall 4 (beside.length : Int) ([], false) = (be 4 beside.length, false) := by
    unfold penSmall
    rw [if_pos ⟨by omega, by omega⟩]
    simp [penNum]
  have hkd : (key.drop 16).length = 32 := by simp [hk]
  have htag := fun s => macTag_calls (Γ := Γ) hG0 hG (key.drop 16) [be 4 beside.length, beside, nonce, masked] .new (by omega) (by simp) (by simp [hn]; omega) s
  rw [show [be 4 beside.length, beside, nonce, masked].flatten = be 4 beside.length ++ (beside ++ (nonce ++ masked)) from by simp, partsB_quad] at htag
  have htl := Mac.tag_len (key.drop 16) (be 4 beside.length ++ (beside ++ (nonce ++ masked)))
  rw [tag_eq]
  have hbl : (be 4 beside.length).length = 4 := by simp
  generalize Mac.tag (key.drop 16) (be 4 beside.length ++ (beside ++ (nonce ++ masked))) = T0 at *
  have htk : List.take 48 key = key := List.take_of_length_le (by omega)
  refine awp_reg_seq ?_
  intro K hK
  simp only [↓DN, UP, DF, ashift, aconv, aindexAddr, aindex, aslice, abuiltin, AV.cells, AV.one, reduceCtorEq, ↓reduceIte, nLT, nLE, nEQ, nAdd, nMul, nPow, nSub, zLT, zLE, zNat, RAes1884]
  refine hK _ _ ?_
  clear hK K
  refine awp_reg_seq ?_
  intro K hK
  simp only [↓DN, UP, DF, ashift, aconv, aindexAddr, aindex, aslice, abuiltin, AV.cells, AV.one, reduceCtorEq, ↓reduceIte, nLT, nLE, nEQ, nAdd, nMul, nPow, nSub, zLT, zLE, zNat, RAes1884]
  refine acallk (new_calls s) ?_
  rintro r s1 ⟨p, rfl, q1⟩
  simp only [↓AXq_nil, ↓AXq_cons, pval, DX, Nat.reduceBEq, ↓DN, UP, DF, ashift, aconv, aindexAddr, aindex, aslice, abuiltin, AV.cells, AV.one, reduceCtorEq, ↓reduceIte, nLT, nLE, nEQ, nAdd, nMul, nPow, nSub, zLT, zLE, zNat, RAes1884]
  refine hK _ _ ?_
  clear hK K
  refine awp_reg_seq ?_
  intro K hK
  simp only [↓DN, UP, DF, ashift, aconv, aindexAddr, aindex, aslice, abuiltin, AV.cells, AV.one, reduceCtorEq, ↓reduceIte, nLT, nLE, nEQ, nAdd, nMul, nPow, nSub, zLT, zLE, zNat, RAes1884]
  refine acallk (penU32_calls s s1 p ([], false) (beside.length : Int) (by omega) (by simp) q1) ?_
  rintro r s2 ⟨rfl, q2⟩
  rw [hps] at q2
  simp only [↓AXq_nil, ↓AXq_cons, pval, DX, Nat.reduceBEq, ↓DN, UP, DF, ashift, aconv, aindexAddr, aindex, aslice, abuiltin, AV.cells, AV.one, reduceCtorEq, ↓reduceIte, nLT, nLE, nEQ, nAdd, nMul, nPow, nSub, zLT, zLE, zNat, RAes1884]
  refine hK _ _ ?_
  clear hK K
  refine awp_reg_seq ?_
  intro K hK
  simp only [↓DN, UP, DF, ashift, aconv, aindexAddr, aindex, aslice, abuiltin, AV.cells, AV.one, reduceCtorEq, ↓reduceIte, nLT, nLE, nEQ, nAdd, nMul, nPow, nSub, zLT, zLE, zNat, RAes1884]
  refine acallk (penBytes_calls s s2 p _ (by simp) q2) ?_
  rintro r s3 ⟨rfl, rfl⟩
  generalize be 4 beside.length = bh at *
  simp only [↓AXq_nil, ↓AXq_cons, pval, DX, Nat.reduceBEq, ↓DN, UP, DF, ashift, aconv, aindexAddr, aindex, aslice, abuiltin, AV.cells, AV.one, reduceCtorEq, ↓reduceIte, nLT, nLE, nEQ, nAdd, nMul, nPow, nSub, zLT, zLE, zNat, RAes1884]
  refine hK _ _ ?_
  clear hK K
  unfold bytesV at htag
  rw [hkd] at htag
  have rep4' : ∀ x : AV, List.replicate 4 x = [x, x, x, x] := fun _ => rfl
  refine awp_reg_seq ?_
  intro K hK
  simp only [↓DN, UP, DF, ashift, aconv, aindexAddr, aindex, aslice, abuiltin, AV.cells, AV.one, reduceCtorEq, ↓reduceIte, nLT, nLE, nEQ, nAdd, nMul, nPow, nSub, zLT, zLE, zNat, RAes1884, hk, htk, rep4', show (0 : Int) ≤ 16 from by decide, show (16 : Int) ≤ ((48 : Nat) : Int) from by decide, show ((48 : Nat) : Int) ≤ ((48 : Nat) : Int) from by decide]
  refine acallk (htag _) ?_
  intro r s4 hout
  have hle4 : s.le s4 := AS.le.trans q2.le hout.1
  obtain ⟨t, e, rfl⟩ := outS_own hout (by rw [← List.length_pos_iff, htl]; decide)
  clear hout
  simp only [↓AXq_nil, ↓AXq_cons, pval, DX, Nat.reduceBEq, ↓DN, UP, DF, ashift, aconv, aindexAddr, aindex, aslice, abuiltin, AV.cells, AV.one, reduceCtorEq, ↓reduceIte, nLT, nLE, nEQ, nAdd, nMul, nPow, nSub, zLT, zLE, zNat, RAes1884, htl, show (0 : Int) ≤ 16 from by decide, show (16 : Int) ≤ ((32 : Nat) : Int) from by decide, show ¬ ((16 : Int) = ((32 : Nat) : Int)) from by decide]
  refine hK _ _ ?_
  clear hK K
  refine awp_ret ?_
  simp only [retQ, AEnds, aresL, ares, List.toList_toArray, ↓upd_same]; try simp only [↓DN, UP, DF, ashift, aconv, aindexAddr, aindex, aslice, abuiltin, AV.cells, AV.one, reduceCtorEq, ↓reduceIte, nLT, nLE, nEQ, nAdd, nMul, nPow, nSub, zLT, zLE, zNat, RAes1884, DT]
  have hl16 : (T0.take 16).length = 16 := by simp [htl]
  refine ⟨bytesV (T0.take 16) .any, s, ?_, hle4, rfl, rfl⟩
  unfold bytesV
  rw [hl16]
  exact AV.weak_any

end Go.Proofs.YtooeklnbdgoneaaDoor


set_option autoImplicit false
namespace Go.Proofs.YtooeklnbdgoneaaDoor
open Go Go.AM Go.Proofs

theorem RAes1951 : type_of% (And.intro (And.intro (And.intro (And.intro (And.intro @Tryd.underlying4 (And.intro T.c4 T.g4)) (And.intro T.b4 (And.intro T.z4 @Tryd.underlying5))) (And.intro (And.intro T.c5 (And.intro T.g5 T.b5)) (And.intro (And.intro T.z5 @Tryd.underlying22) (And.intro T.c22 T.g22)))) (And.intro (And.intro (And.intro T.b22 (And.intro T.z22 T.s22)) (And.intro @Tryd.underlying77 (And.intro T.c77 T.g77))) (And.intro (And.intro T.b77 (And.intro T.z77 T.s77)) (And.intro (And.intro T.k82 T.k84) (And.intro T.k46 T.k83))))) Tryd.ntmps51) :=
  (And.intro (And.intro (And.intro (And.intro (And.intro @Tryd.underlying4 (And.intro T.c4 T.g4)) (And.intro T.b4 (And.intro T.z4 @Tryd.underlying5))) (And.intro (And.intro T.c5 (And.intro T.g5 T.b5)) (And.intro (And.intro T.z5 @Tryd.underlying22) (And.intro T.c22 T.g22)))) (And.intro (And.intro (And.intro T.b22 (And.intro T.z22 T.s22)) (And.intro @Tryd.underlying77 (And.intro T.c77 T.g77))) (And.intro (And.intro T.b77 (And.intro T.z77 T.s77)) (And.intro (And.intro T.k82 T.k84) (And.intro T.k46 T.k83))))) Tryd.ntmps51)
theorem RAes1954 : type_of% (And.intro (And.intro (And.intro (And.intro (And.intro @Tryd.underlying3 (And.intro T.c3 T.g3)) (And.intro T.b3 (And.intro T.z3 @Tryd.underlying4))) (And.intro (And.intro T.c4 (And.intro T.g4 T.b4)) (And.intro T.z4 (And.intro @Tryd.underlying5 T.c5)))) (And.intro (And.intro (And.intro T.g5 (And.intro T.b5 T.z5)) (And.intro @Tryd.underlying22 (And.intro T.c22 T.g22))) (And.intro (And.intro T.b22 (And.intro T.z22 T.s22)) (And.intro (And.intro T.k82 T.k84) (And.intro T.k88 T.k83))))) Tryd.ntmps54) :=
  (And.intro (And.intro (And.intro (And.intro (And.intro @Tryd.underlying3 (And.intro T.c3 T.g3)) (And.intro T.b3 (And.intro T.z3 @Tryd.underlying4))) (And.intro (And.intro T.c4 (And.intro T.g4 T.b4)) (And.intro T.z4 (And.intro @Tryd.underlying5 T.c5)))) (And.intro (And.intro (And.intro T.g5 (And.intro T.b5 T.z5)) (And.intro @Tryd.underlying22 (And.intro T.c22 T.g22))) (And.intro (And.intro T.b22 (And.intro T.z22 T.s22)) (And.intro (And.intro T.k82 T.k84) (And.intro T.k88 T.k83))))) Tryd.ntmps54)

variable {Γ : Nat → List AV}

def sealT (key nonce beside text : List UInt8) : List UInt8 := if key.length = 48 ∧ nonce.length = 16 then Aes.sealed key nonce beside text else []
def sealE (key nonce : List UInt8) : Nat := if key.length = 48 ∧ nonce.length = 16 then 0 else 2
def opT (key nonce beside z : List UInt8) : List UInt8 := if key.length = 48 ∧ nonce.length = 16 then openedT key nonce beside z else []
def opE (key nonce beside z : List UInt8) : Nat := if key.length = 48 ∧ nonce.length = 16 then openedE key nonce beside z else 2
theorem sealed_len (key nonce beside text : List UInt8) : (Aes.sealed key nonce beside text).length = text.length + 16 := by
  rw [Aes.sealed, List.length_append, Aes.mask_len, Aes.tag_len]

set_option maxHeartbeats 4000000 in
theorem seal_calls (hG0 : Γ 0 = stC Sha.H0) (hG : Γ 1 = Sha.K.map wV) (key nonce beside text : List UInt8) (hb : beside.length ≤ 2 ^ 30) (ht : text.length ≤ 2 ^ 30) (s : AS) :
    ACalls Tryd.prog Γ 51 [bytesV key .any, bytesV nonce .any, bytesV beside .any, bytesV text .any] s (fun r s' => r = .tup [bytesV (sealT key nonce beside text) .any, .v (.int .i64 ((sealE key nonce : Nat) : Int))] ∧ s' = s) := by
  refine acalls_body Tryd.func51 rfl Tryd.ntmps51 Tryd.results51 (by simp) ?_
  refine awp_reg_seq ?_
  intro K hK
  simp only [↓DN, UP, DF, ashift, aconv, aindexAddr, aindex, aslice, abuiltin, AV.cells, AV.one, reduceCtorEq, ↓reduceIte, nLT, nLE, nEQ, nAdd, nMul, nPow, nSub, zLT, zLE, zNat, RAes1951]
  refine hK _ _ ?_
  clear hK K
  refine awp_seq_k ?_
  intro K hK
  refine awp_reg_seq ?_
  intro K hK
  simp only [↓DN, UP, DF, ashift, aconv, aindexAddr, aindex, aslice, abuiltin, AV.cells, AV.one, reduceCtorEq, ↓reduceIte, nLT, nLE, nEQ, nAdd, nMul, nPow, nSub, zLT, zLE, zNat, RAes1951]
  refine acallk (sfits_calls key nonce _) ?_
  rintro r s1 ⟨rfl, rfl⟩
  by_cases hf : key.length = 48 ∧ nonce.length = 16
  · have h1 : sealT key nonce beside text = Aes.sealed key nonce beside text := by unfold sealT; rw [if_pos hf]
    have h2 : sealE key nonce = 0 := by unfold sealE; rw [if_pos hf]
    rw [decide_eq_true hf]
    obtain ⟨hk, hn⟩ := hf
    simp only [↓AXq_nil, ↓AXq_cons, pval, DX, Nat.reduceBEq, ↓DN, UP, DF, ashift, aconv, aindexAddr, aindex, aslice, abuiltin, AV.cells, AV.one, reduceCtorEq, ↓reduceIte, nLT, nLE, nEQ, nAdd, nMul, nPow, nSub, zLT, zLE, zNat, RAes1951]
    refine hK _ _ ?_
    clear hK K
    refine awp_cond_k ?_
    intro X Y hX hY
    simp only [↓DN, UP, DF, ashift, aconv, aindexAddr, aindex, aslice, abuiltin, AV.cells, AV.one, reduceCtorEq, ↓reduceIte, nLT, nLE, nEQ, nAdd, nMul, nPow, nSub, zLT, zLE, zNat, RAes1951, DB]
    refine hY ?_
    clear hX hY X Y
    refine awp_skip ?_
    refine hK _ _ ?_
    clear hK K
    have hml := Aes.mask_len key nonce text
    have htl := Aes.tag_len key nonce beside (Aes.mask key nonce text)
    have c1 := fun s => mask_calls (Γ := Γ) key nonce text hk hn ht s
    have c2 := fun s => stag_calls (Γ := Γ) hG0 hG key nonce beside (Aes.mask key nonce text) hk hn hb (by omega) s
    have hsd : Aes.sealed key nonce beside text = Aes.mask key nonce text ++ Aes.tag key nonce beside (Aes.mask key nonce text) := rfl
    have c3 := fun s => concat_calls (Γ := Γ) [Aes.mask key nonce text, Aes.tag key nonce beside (Aes.mask key nonce text)] .new (by simp) (by simp; omega) s
    rw [show [Aes.mask key nonce text, Aes.tag key nonce beside (Aes.mask key nonce text)].flatten = Aes.sealed key nonce beside text from by rw [hsd]; simp, partsB_two] at c3
    have hsl := sealed_len key nonce beside text
    clear hsd
    generalize Aes.sealed key nonce beside text = S0 at *
    generalize Aes.tag key nonce beside (Aes.mask key nonce text) = T0 at *
    generalize Aes.mask key nonce text = M at *
    refine awp_reg_seq ?_
    intro K hK
    simp only [↓DN, UP, DF, ashift, aconv, aindexAddr, aindex, aslice, abuiltin, AV.cells, AV.one, reduceCtorEq, ↓reduceIte, nLT, nLE, nEQ, nAdd, nMul, nPow, nSub, zLT, zLE, zNat, RAes1951]
    refine acallk (c1 _) ?_
    rintro r s2 ⟨rfl, rfl⟩
    simp only [↓AXq_nil, ↓AXq_cons, pval, DX, Nat.reduceBEq, ↓DN, UP, DF, ashift, aconv, aindexAddr, aindex, aslice, abuiltin, AV.cells, AV.one, reduceCtorEq, ↓reduceIte, nLT, nLE, nEQ, nAdd, nMul, nPow, nSub, zLT, zLE, zNat, RAes1951]
    refine hK _ _ ?_
    clear hK K
    refine awp_reg_seq ?_
    intro K hK
    simp only [↓DN, UP, DF, ashift, aconv, aindexAddr, aindex, aslice, abuiltin, AV.cells, AV.one, reduceCtorEq, ↓reduceIte, nLT, nLE, nEQ, nAdd, nMul, nPow, nSub, zLT, zLE, zNat, RAes1951, List.replicate_succ, List.replicate_zero]
    refine acallk (c2 _) ?_
    rintro r s3 ⟨rfl, rfl⟩
    simp only [↓AXq_nil, ↓AXq_cons, pval, DX, Nat.reduceBEq, ↓DN, UP, DF, ashift, aconv, aindexAddr, aindex, aslice, abuiltin, AV.cells, AV.one, reduceCtorEq, ↓reduceIte, nLT, nLE, nEQ, nAdd, nMul, nPow, nSub, zLT, zLE, zNat, RAes1951, List.replicate_succ, List.replicate_zero]
    refine acallk (c3 _) ?_
    intro r s4 hout
    have hw := hout.weak
    have hle := hout.1
    obtain ⟨t, e, rfl⟩ := outS_own hout (by rw [← List.length_pos_iff, hsl]; omega)
    simp only [↓AXq_nil, ↓AXq_cons, pval, DX, Nat.reduceBEq, ↓DN, UP, DF, ashift, aconv, aindexAddr, aindex, aslice, abuiltin, AV.cells, AV.one, reduceCtorEq, ↓reduceIte, nLT, nLE, nEQ, nAdd, nMul, nPow, nSub, zLT, zLE, zNat, RAes1951]
    refine hK _ _ ?_
    clear hK K
    refine awp_ret ?_
    simp only [retQ, AEnds, aresL, ares, List.toList_toArray, ↓upd_same]; try simp only [↓DN, UP, DF, ashift, aconv, aindexAddr, aindex, aslice, abuiltin, AV.cells, AV.one, reduceCtorEq, ↓reduceIte, nLT, nLE, nEQ, nAdd, nMul, nPow, nSub, zLT, zLE, zNat, RAes1951, DT]
    rw [h1, h2]
    exact ⟨_, s3, AV.weak_tup2 hw (AV.weak.refl _), hle, rfl, rfl⟩
  · have h1 : sealT key nonce beside text = [] := by unfold sealT; rw [if_neg hf]
    have h2 : sealE key nonce = 2 := by unfold sealE; rw [if_neg hf]
    rw [decide_eq_false hf]
    simp only [↓AXq_nil, ↓AXq_cons, pval, DX, Nat.reduceBEq, ↓DN, UP, DF, ashift, aconv, aindexAddr, aindex, aslice, abuiltin, AV.cells, AV.one, reduceCtorEq, ↓reduceIte, nLT, nLE, nEQ, nAdd, nMul, nPow, nSub, zLT, zLE, zNat, RAes1951]
    refine hK _ _ ?_
    clear hK K
    refine awp_cond_k ?_
    intro X Y hX hY
    simp only [↓DN, UP, DF, ashift, aconv, aindexAddr, aindex, aslice, abuiltin, AV.cells, AV.one, reduceCtorEq, ↓reduceIte, nLT, nLE, nEQ, nAdd, nMul, nPow, nSub, zLT, zLE, zNat, RAes1951, DB]
    refine hX ?_
    clear hX hY X Y
    refine awp_reg_seq ?_
    intro K hK
    simp only [↓DN, UP, DF, ashift, aconv, aindexAddr, aindex, aslice, abuiltin, AV.cells, AV.one, reduceCtorEq, ↓reduceIte, nLT, nLE, nEQ, nAdd, nMul, nPow, nSub, zLT, zLE, zNat, RAes1951]
    refine hK _ _ ?_
    clear hK K
    refine awp_ret ?_
    try simp only [thenQ, blockQ]
    simp only [retQ, AEnds, aresL, ares, List.toList_toArray, ↓upd_same]; try simp only [↓DN, UP, DF, ashift, aconv, aindexAddr, aindex, aslice, abuiltin, AV.cells, AV.one, reduceCtorEq, ↓reduceIte, nLT, nLE, nEQ, nAdd, nMul, nPow, nSub, zLT, zLE, zNat, RAes1951, DT]
    rw [h1, h2]
    exact ⟨_, _, AV.weak_tup2 AV.weak_nil (AV.weak.refl _), AS.le.refl _, rfl, rfl⟩

set_option maxHeartbeats 4000000 in
theorem open_seal_calls (hG0 : Γ 0 = stC Sha.H0) (hG : Γ 1 = Sha.K.map wV) (key nonce beside z : List UInt8) (hb : beside.length ≤ 2 ^ 30) (hz : z.length ≤ 2 ^ 30) (s : AS) :
    ACalls Tryd.prog Γ 54 [bytesV key .any, bytesV nonce .any, bytesV beside .any, bytesV z .any] s (fun r s' => r = .tup [bytesV (opT key nonce beside z) .any, .v (.int .i64 ((opE key nonce beside z : Nat) : Int))] ∧ s' = s) := by
  refine acalls_body Tryd.func54 rfl Tryd.ntmps54 Tryd.results54 (by simp) ?_
  have hsub : isub .i64 (z.length : Int) 16 = (z.length : Int) - 16 := isub_i64 (by omega)
  refine awp_reg_seq ?_
  intro K hK
  simp only [↓DN, UP, DF, ashift, aconv, aindexAddr, aindex, aslice, abuiltin, AV.cells, AV.one, reduceCtorEq, ↓reduceIte, nLT, nLE, nEQ, nAdd, nMul, nPow, nSub, zLT, zLE, zNat, RAes1954]
  refine hK _ _ ?_
  clear hK K
  refine awp_reg_seq ?_
  intro K hK
  simp only [↓DN, UP, DF, ashift, aconv, aindexAddr, aindex, aslice, abuiltin, AV.cells, AV.one, reduceCtorEq, ↓reduceIte, nLT, nLE, nEQ, nAdd, nMul, nPow, nSub, zLT, zLE, zNat, RAes1954, hsub]
  refine hK _ _ ?_
  clear hK K
  refine awp_seq_k ?_
  intro K hK
  refine awp_block ?_
  refine awp_reg_seq ?_
  intro K hK
  simp only [↓DN, UP, DF, ashift, aconv, aindexAddr, aindex, aslice, abuiltin, AV.cells, AV.one, reduceCtorEq, ↓reduceIte, nLT, nLE, nEQ, nAdd, nMul, nPow, nSub, zLT, zLE, zNat, RAes1954]
  refine acallk (sfits_calls key nonce _) ?_
  rintro r s1 ⟨rfl, rfl⟩
  by_cases hf : key.length = 48 ∧ nonce.length = 16
  · have h1 : opT key nonce beside z = openedT key nonce beside z := by unfold opT; rw [if_pos hf]
    have h2 : opE key nonce beside z = openedE key nonce beside z := by unfold opE; rw [if_pos hf]
    rw [decide_eq_true hf]
    obtain ⟨hk, hn⟩ := hf
    simp only [↓AXq_nil, ↓AXq_cons, pval, DX, Nat.reduceBEq, ↓DN, UP, DF, ashift, aconv, aindexAddr, aindex, aslice, abuiltin, AV.cells, AV.one, reduceCtorEq, ↓reduceIte, nLT, nLE, nEQ, nAdd, nMul, nPow, nSub, zLT, zLE, zNat, RAes1954]
    refine hK _ _ ?_
    clear hK K
    refine awp_cond_k ?_
    intro X Y hX hY
    simp only [↓DN, UP, DF, ashift, aconv, aindexAddr, aindex, aslice, abuiltin, AV.cells, AV.one, reduceCtorEq, ↓reduceIte, nLT, nLE, nEQ, nAdd, nMul, nPow, nSub, zLT, zLE, zNat, RAes1954, DB]
    refine hY ?_
    clear hX hY X Y
    by_cases h16 : z.length < 16
    · have h3 : openedT key nonce beside z = [] := by unfold openedT; rw [if_pos h16]
      have h4 : openedE key nonce beside z = 10 := by unfold openedE; rw [if_pos h16]
      refine awp_reg_seq ?_
      intro K hK
      simp only [↓DN, UP, DF, ashift, aconv, aindexAddr, aindex, aslice, abuiltin, AV.cells, AV.one, reduceCtorEq, ↓reduceIte, nLT, nLE, nEQ, nAdd, nMul, nPow, nSub, zLT, zLE, zNat, RAes1954, decide_eq_true (show (z.length : Int) - 16 < 0 by omega)]
      refine hK _ _ ?_
      clear hK K
      refine awp_cond_k ?_
      intro X Y hX hY
      simp only [↓DN, UP, DF, ashift, aconv, aindexAddr, aindex, aslice, abuiltin, AV.cells, AV.one, reduceCtorEq, ↓reduceIte, nLT, nLE, nEQ, nAdd, nMul, nPow, nSub, zLT, zLE, zNat, RAes1954, DB]
      refine hX ?_
      clear hX hY X Y
      refine awp_reg_seq ?_
      intro K hK
      simp only [↓DN, UP, DF, ashift, aconv, aindexAddr, aindex, aslice, abuiltin, AV.cells, AV.one, reduceCtorEq, ↓reduceIte, nLT, nLE, nEQ, nAdd, nMul, nPow, nSub, zLT, zLE, zNat, RAes1954]
      refine hK _ _ ?_
      clear hK K
      refine awp_ret ?_
      try simp only [thenQ, blockQ]
      simp only [retQ, AEnds, aresL, ares, List.toList_toArray, ↓upd_same]; try simp only [↓DN, UP, DF, ashift, aconv, aindexAddr, aindex, aslice, abuiltin, AV.cells, AV.one, reduceCtorEq, ↓reduceIte, nLT, nLE, nEQ, nAdd, nMul, nPow, nSub, zLT, zLE, zNat, RAes1954, DT]
      rw [h1, h2, h3, h4]
      exact ⟨_, _, AV.weak_tup2 AV.weak_nil (AV.weak.refl _), AS.le.refl _, rfl, rfl⟩
    · have hnat : (z.length : Int) - 16 = ((z.length - 16 : Nat) : Int) := by omega
      have htz : List.take z.length (z.map byteV) = z.map byteV := List.take_of_length_le (by simp)
      have m0 : (0 : Int) ≤ ((z.length - 16 : Nat) : Int) := by omega
      have m1 : ((z.length - 16 : Nat) : Int) ≤ (z.length : Int) := by omega
      have m2 : (z.length : Int) ≤ (z.length : Int) := Int.le_refl _
      have m3 : z.length - (z.length - 16) = 16 := by omega
      rw [hnat]
      have htl : (z.take (z.length - 16)).length = z.length - 16 := by rw [List.length_take]; omega
      have hdl : (z.drop (z.length - 16)).length = 16 := by rw [List.length_drop]; omega
      have c2 := fun s => stag_calls (Γ := Γ) hG0 hG key nonce beside (z.take (z.length - 16)) hk hn hb (by omega) s
      have c1 := fun s => mask_calls (Γ := Γ) key nonce (z.take (z.length - 16)) hk hn (by omega) s
      have c4 := fun s => same_calls (Γ := Γ) (Aes.tag key nonce beside (z.take (z.length - 16))) (z.drop (z.length - 16)) (by rw [Aes.tag_len]; decide) s
      have htz2 : List.take z.length z = z := List.take_length
      unfold bytesV at c1 c2 c4
      rw [htl] at c1 c2
      rw [hdl] at c4
      refine awp_reg_seq ?_
      intro K hK
      simp only [↓DN, UP, DF, ashift, aconv, aindexAddr, aindex, aslice, abuiltin, AV.cells, AV.one, reduceCtorEq, ↓reduceIte, nLT, nLE, nEQ, nAdd, nMul, nPow, nSub, zLT, zLE, zNat, RAes1954, decide_eq_false (show ¬ ((z.length - 16 : Nat) : Int) < 0 by omega)]
      refine hK _ _ ?_
      clear hK K
      refine awp_cond_k ?_
      intro X Y hX hY
      simp only [↓DN, UP, DF, ashift, aconv, aindexAddr, aindex, aslice, abuiltin, AV.cells, AV.one, reduceCtorEq, ↓reduceIte, nLT, nLE, nEQ, nAdd, nMul, nPow, nSub, zLT, zLE, zNat, RAes1954, DB]
      refine hY ?_
      clear hX hY X Y
      refine awp_drw_seq T.mixed [6, 10] (by kernel_rfl) ?_
      intro K hK
      simp only [↓AXq_nil, ↓AXq_cons, pval, DX, Nat.reduceBEq, ↓DN, UP, DF, ashift, aconv, aindexAddr, aindex, aslice, abuiltin, AV.cells, AV.one, reduceCtorEq, ↓reduceIte, nLT, nLE, nEQ, nAdd, nMul, nPow, nSub, zLT, zLE, zNat, RAes1954, m0, m1, m2, m3, htz, htz2]
      refine acallk (c2 _) ?_
      rintro r s2 ⟨rfl, rfl⟩
      simp only [↓AXq_nil, ↓AXq_cons, pval, DX, Nat.reduceBEq, ↓DN, UP, DF, ashift, aconv, aindexAddr, aindex, aslice, abuiltin, AV.cells, AV.one, reduceCtorEq, ↓reduceIte, nLT, nLE, nEQ, nAdd, nMul, nPow, nSub, zLT, zLE, zNat, RAes1954, m0, m1, m2, m3, htz, htz2]
      refine acallk (c4 _) ?_
      rintro r s3 ⟨rfl, rfl⟩
      by_cases ht : Aes.tag key nonce beside (z.take (z.length - 16)) = z.drop (z.length - 16)
      · have h3 : openedT key nonce beside z = Aes.mask key nonce (z.take (z.length - 16)) := by unfold openedT; rw [if_neg h16, if_pos ht]
        have h4 : openedE key nonce beside z = 0 := by unfold openedE; rw [if_neg h16, if_pos ht]
        rw [decide_eq_true ht]
        simp only [↓AXq_nil, ↓AXq_cons, pval, DX, Nat.reduceBEq, ↓DN, UP, DF, ashift, aconv, aindexAddr, aindex, aslice, abuiltin, AV.cells, AV.one, reduceCtorEq, ↓reduceIte, nLT, nLE, nEQ, nAdd, nMul, nPow, nSub, zLT, zLE, zNat, RAes1954]
        refine hK _ _ ?_
        clear hK K
        refine awp_cond_k ?_
        intro X Y hX hY
        simp only [↓DN, UP, DF, ashift, aconv, aindexAddr, aindex, aslice, abuiltin, AV.cells, AV.one, reduceCtorEq, ↓reduceIte, nLT, nLE, nEQ, nAdd, nMul, nPow, nSub, zLT, zLE, zNat, RAes1954, DB]
        refine hY ?_
        clear hX hY X Y
        refine awp_skip ?_
        simp only [blockQ, thenQ, if_true, if_false]
        refine hK _ _ ?_
        clear hK K
        refine awp_reg_seq ?_
        intro K hK
        simp only [↓DN, UP, DF, ashift, aconv, aindexAddr, aindex, aslice, abuiltin, AV.cells, AV.one, reduceCtorEq, ↓reduceIte, nLT, nLE, nEQ, nAdd, nMul, nPow, nSub, zLT, zLE, zNat, RAes1954, m0, m1, m2, m3, htz, htz2]
        refine acallk (c1 _) ?_
        rintro r s4 ⟨rfl, rfl⟩
        simp only [↓AXq_nil, ↓AXq_cons, pval, DX, Nat.reduceBEq, ↓DN, UP, DF, ashift, aconv, aindexAddr, aindex, aslice, abuiltin, AV.cells, AV.one, reduceCtorEq, ↓reduceIte, nLT, nLE, nEQ, nAdd, nMul, nPow, nSub, zLT, zLE, zNat, RAes1954]
        refine hK _ _ ?_
        clear hK K
        refine awp_ret ?_
        simp only [retQ, AEnds, aresL, ares, List.toList_toArray, ↓upd_same]; try simp only [↓DN, UP, DF, ashift, aconv, aindexAddr, aindex, aslice, abuiltin, AV.cells, AV.one, reduceCtorEq, ↓reduceIte, nLT, nLE, nEQ, nAdd, nMul, nPow, nSub, zLT, zLE, zNat, RAes1954, DT]
        rw [h1, h2, h3, h4]
        exact ⟨_, _, AV.weak.refl _, AS.le.refl _, rfl, rfl⟩
      · have h3 : openedT key nonce beside z = [] := by unfold openedT; rw [if_neg h16, if_neg ht]
        have h4 : openedE key nonce beside z = 14 := by unfold openedE; rw [if_neg h16, if_neg ht]
        rw [decide_eq_false ht]
        simp only [↓AXq_nil, ↓AXq_cons, pval, DX, Nat.reduceBEq, ↓DN, UP, DF, ashift, aconv, aindexAddr, aindex, aslice, abuiltin, AV.cells, AV.one, reduceCtorEq, ↓reduceIte, nLT, nLE, nEQ, nAdd, nMul, nPow, nSub, zLT, zLE, zNat, RAes1954]
        refine hK _ _ ?_
        clear hK K
        refine awp_cond_k ?_
        intro X Y hX hY
        simp only [↓DN, UP, DF, ashift, aconv, aindexAddr, aindex, aslice, abuiltin, AV.cells, AV.one, reduceCtorEq, ↓reduceIte, nLT, nLE, nEQ, nAdd, nMul, nPow, nSub, zLT, zLE, zNat, RAes1954, DB]
        refine hX ?_
        clear hX hY X Y
        refine awp_reg_seq ?_
        intro K hK
        simp only [↓DN, UP, DF, ashift, aconv, aindexAddr, aindex, aslice, abuiltin, AV.cells, AV.one, reduceCtorEq, ↓reduceIte, nLT, nLE, nEQ, nAdd, nMul, nPow, nSub, zLT, zLE, zNat, RAes1954]
        refine hK _ _ ?_
        clear hK K
        refine awp_ret ?_
        try simp only [thenQ, blockQ]
        simp only [retQ, AEnds, aresL, ares, List.toList_toArray, ↓upd_same]; try simp only [↓DN, UP, DF, ashift, aconv, aindexAddr, aindex, aslice, abuiltin, AV.cells, AV.one, reduceCtorEq, ↓reduceIte, nLT, nLE, nEQ, nAdd, nMul, nPow, nSub, zLT, zLE, zNat, RAes1954, DT]
        rw [h1, h2, h3, h4]
        exact ⟨_, _, AV.weak_tup2 AV.weak_nil (AV.weak.refl _), AS.le.refl _, rfl, rfl⟩
  · have h1 : opT key nonce beside z = [] := by unfold opT; rw [if_neg hf]
    have h2 : opE key nonce beside z = 2 := by unfold opE; rw [if_neg hf]
    rw [decide_eq_false hf]
    simp only [↓AXq_nil, ↓AXq_cons, pval, DX, Nat.reduceBEq, ↓DN, UP, DF, ashift, aconv, aindexAddr, aindex, aslice, abuiltin, AV.cells, AV.one, reduceCtorEq, ↓reduceIte, nLT, nLE, nEQ, nAdd, nMul, nPow, nSub, zLT, zLE, zNat, RAes1954]
    refine hK _ _ ?_
    clear hK K
    refine awp_cond_k ?_
    intro X Y hX hY
    simp only [↓DN, UP, DF, ashift, aconv, aindexAddr, aindex, aslice, abuiltin, AV.cells, AV.one, reduceCtorEq, ↓reduceIte, nLT, nLE, nEQ, nAdd, nMul, nPow, nSub, zLT, zLE, zNat, RAes1954, DB]
    refine hX ?_
    clear hX hY X Y
    refine awp_reg_seq ?_
    intro K hK
    simp only [↓DN, UP, DF, ashift, aconv, aindexAddr, aindex, aslice, abuiltin, AV.cells, AV.one, reduceCtorEq, ↓reduceIte, nLT, nLE, nEQ, nAdd, nMul, nPow, nSub, zLT, zLE, zNat, RAes1954]
    refine hK _ _ ?_
    clear hK K
    refine awp_ret ?_
    try simp only [thenQ, blockQ]
    simp only [retQ, AEnds, aresL, ares, List.toList_toArray, ↓upd_same]; try simp only [↓DN, UP, DF, ashift, aconv, aindexAddr, aindex, aslice, abuiltin, AV.cells, AV.one, reduceCtorEq, ↓reduceIte, nLT, nLE, nEQ, nAdd, nMul, nPow, nSub, zLT, zLE, zNat, RAes1954, DT]
    rw [h1, h2]
    exact ⟨_, _, AV.weak_tup2 AV.weak_nil (AV.weak.refl _), AS.le.refl _, rfl, rfl⟩

end Go.Proofs.YtooeklnbdgoneaaDoor


set_option autoImplicit false
namespace Go.AM
namespace Aes
def key0 : List UInt8 := List.replicate 48 0
end Aes
end Go.AM


set_option autoImplicit false
namespace Go.Proofs.YtooeklnbdgoneaaDoor
open Go Go.AM Go.Proofs



variable {Γ : Nat → List AV}



theorem opened_sealedT (key nonce beside text : List UInt8) : openedT key nonce beside (Aes.sealed key nonce beside text) = text := by
  have hl := sealed_len key nonce beside text
  unfold openedT
  rw [if_neg (by omega)]
  have hml := Aes.mask_len key nonce text
  have e1 : (Aes.sealed key nonce beside text).take ((Aes.sealed key nonce beside text).length - 16) = Aes.mask key nonce text := by
    rw [hl, Aes.sealed, Nat.add_sub_cancel, List.take_append_of_le_length (by omega), List.take_of_length_le (by omega)]
  have e2 : (Aes.sealed key nonce beside text).drop ((Aes.sealed key nonce beside text).length - 16) = Aes.tag key nonce beside (Aes.mask key nonce text) := by
    rw [hl, Aes.sealed, Nat.add_sub_cancel, List.drop_append_of_le_length (by omega), List.drop_eq_nil_of_le (by omega), List.nil_append]
  rw [e1, e2, if_pos rfl, Aes.mask_back]
theorem opened_sealedE (key nonce beside text : List UInt8) : openedE key nonce beside (Aes.sealed key nonce beside text) = 0 := by
  have hl := sealed_len key nonce beside text
  unfold openedE
  rw [if_neg (by omega)]
  have hml := Aes.mask_len key nonce text
  have e1 : (Aes.sealed key nonce beside text).take ((Aes.sealed key nonce beside text).length - 16) = Aes.mask key nonce text := by
    rw [hl, Aes.sealed, Nat.add_sub_cancel, List.take_append_of_le_length (by omega), List.take_of_length_le (by omega)]
  have e2 : (Aes.sealed key nonce beside text).drop ((Aes.sealed key nonce beside text).length - 16) = Aes.tag key nonce beside (Aes.mask key nonce text) := by
    rw [hl, Aes.sealed, Nat.add_sub_cancel, List.drop_append_of_le_length (by omega), List.drop_eq_nil_of_le (by omega), List.nil_append]
  rw [e1, e2, if_pos rfl]

end Go.Proofs.YtooeklnbdgoneaaDoor


set_option autoImplicit false
namespace Go.AM
open Go

/-! ### Slices of whole numbers; nodes -/
def intC (n : Int) : AV := .v (.int .i64 n)
def intsV (l : List Int) (sp : Sp) : AV := .sl 1 l.length (l.map intC) sp
theorem IsTy.ints {avs : List AV} (h : IsTy (.slice 1 tyI) avs) : ∃ l : List Int, avs = [intsV l .any] := by
  obtain ⟨els, rfl, _, hall⟩ := IsTy.rows h
  have key : ∀ els : List (List AV), (∀ el ∈ els, el.length = 1 ∧ IsTy tyI el) → ∃ l : List Int, l.length = els.length ∧ els.flatten = l.map intC := by
    intro els
    induction els with
    | nil => intro _; exact ⟨[], rfl, rfl⟩
    | cons e els ih =>
      intro h
      obtain ⟨l, h1, h2⟩ := ih (fun el hel => h el (by simp [hel]))
      obtain ⟨_, t⟩ := h e (by simp)
      obtain ⟨n, rfl, _⟩ := isTy_int t
      exact ⟨n :: l, by simp [h1], by simp [h2, intC]⟩
  obtain ⟨l, h1, h2⟩ := key els hall
  exact ⟨l, by rw [← h1, h2]; rfl⟩

structure NodeV where
  kind : Int
  name : List UInt8
  key : Nat
  parent : List UInt8
  unm : List Int
  deriving DecidableEq
def NodeV.cells (n : NodeV) : List AV := [.v (.int .i64 n.kind), bytesV n.name .any, .v (.int .u64 n.key), bytesV n.parent .any, intsV n.unm .any]
def NodeV.nought : NodeV := ⟨0, [], 0, [], []⟩

def okAt (l : List Int) (i : Nat) : Prop := 0 ≤ l.getD i 0 ∧ l.getD i 0 < 32 ∧ (0 < i → l.getD (i - 1) 0 < l.getD i 0)
instance decOkAt (l : List Int) (i : Nat) : Decidable (okAt l i) := by unfold okAt; infer_instance
def Rising (l : List Int) : Prop := ∀ i, i < l.length → okAt l i
instance decRising (l : List Int) : Decidable (Rising l) := by unfold Rising; infer_instance
def NodeV.held (N : NodeV) : Prop := 2 ≤ N.key ∧ N.key ≤ 2305843009213693949 ∧ (N.parent.length = 0 ∨ N.parent.length = 32)
instance decNodeHeld (N : NodeV) : Decidable N.held := by unfold NodeV.held; infer_instance
def NodeV.right (N : NodeV) : Prop :=
  if N.kind = 0 then N = NodeV.nought
  else if N.kind = 1 then (1 ≤ N.name.length ∧ N.name.length ≤ 16 ∧ N.held ∧ N.unm.length = 0)
  else if N.kind = 2 then (N.name.length = 0 ∧ N.held ∧ Rising N.unm)
  else False
instance decNodeRight (N : NodeV) : Decidable N.right := by unfold NodeV.right; infer_instance
theorem right_one {N : NodeV} (h : N.kind = 1) : N.right ↔ (1 ≤ N.name.length ∧ N.name.length ≤ 16 ∧ N.held ∧ N.unm.length = 0) := by unfold NodeV.right; rw [if_neg (by omega), if_pos h]
theorem right_two {N : NodeV} (h : N.kind = 2) : N.right ↔ (N.name.length = 0 ∧ N.held ∧ Rising N.unm) := by unfold NodeV.right; rw [if_neg (by omega), if_neg (by omega), if_pos h]
end Go.AM


set_option autoImplicit false
namespace Go.AM
namespace Vault
def wrapW : List UInt8 := [119, 114, 97, 112]
def nonceW : List UInt8 := [110, 111, 110, 99, 101]
/-- A secret's context, the keys of it. -/
def ctx (g : List UInt8) (e : Nat) : List UInt8 := be 1 g.length ++ g ++ be 8 e
def vk (key : List UInt8) : List UInt8 := Kdf.label key wrapW [] 48
def vn (key c : List UInt8) : List UInt8 := Kdf.label key nonceW c 16
def key0 : List UInt8 := List.replicate 32 0
def group0 : List UInt8 := [103]
def text0 : List UInt8 := [97, 32, 115, 101, 99, 114, 101, 116, 32, 111, 102, 32, 116, 119, 111, 32, 97, 110, 100, 32, 116, 104, 105, 114, 116, 121, 32, 98, 121, 116, 101, 115]
def k0 : List UInt8 := [169, 244, 63, 67, 64, 52, 17, 249, 117, 86, 100, 57, 122, 167, 125, 1, 230, 91, 103, 131, 115, 144, 199, 68, 248, 159, 166, 218, 250, 248, 1, 114, 135, 15, 162, 208, 108, 252, 211, 18, 83, 148, 90, 178, 179, 251, 67, 14]
def n3 : List UInt8 := [8, 190, 219, 198, 217, 21, 206, 227, 25, 6, 89, 27, 186, 224, 186, 54]
def n4 : List UInt8 := [184, 102, 163, 253, 77, 158, 128, 5, 108, 65, 104, 250, 253, 115, 180, 138]
def m3 : List UInt8 := [247, 169, 26, 226, 24, 129, 224, 169, 173, 123, 5, 148, 71, 154, 82, 74, 108, 148, 179, 118, 179, 215, 27, 211, 244, 97, 172, 107, 233, 136, 76, 169]
def t3 : List UInt8 := [8, 206, 240, 108, 85, 27, 1, 138, 119, 108, 80, 208, 57, 159, 143, 149]
set_option maxRecDepth 100000 in
theorem k0_is : vk key0 = k0 := by decide +kernel
set_option maxRecDepth 100000 in
theorem n3_is : vn key0 (ctx group0 3) = n3 := by decide +kernel
set_option maxRecDepth 100000 in
theorem n4_is : vn key0 (ctx group0 4) = n4 := by decide +kernel
set_option maxRecDepth 100000 in
theorem m3_is : Aes.mask k0 n3 text0 = m3 := by decide +kernel
set_option maxRecDepth 100000 in
theorem t3_is : Aes.tag k0 n3 (ctx group0 3) m3 = t3 := by decide +kernel
set_option maxRecDepth 100000 in
theorem t4_not : Aes.tag k0 n4 (ctx group0 4) m3 ≠ t3 := by decide +kernel
end Vault
end Go.AM


set_option autoImplicit false
namespace Go.AM
open Go

/-! ### Records -/
structure Rec where
  kind : Int
  group : List UInt8
  epoch : Int
  time : Int
  bucket : Int
  body : List UInt8
  tree : List UInt8
  script : List UInt8
  wrapped : List UInt8
  deriving DecidableEq

def Rec.cells (r : Rec) : List AV := [.v (.int .i64 r.kind), bytesV r.group .any, .v (.int .i64 r.epoch), .v (.int .i64 r.time), .v (.int .i64 r.bucket), bytesV r.body .any, bytesV r.tree .any, bytesV r.script .any, bytesV r.wrapped .any]
def Rec.nought : Rec := ⟨0, [], 0, 0, 0, [], [], [], []⟩

def Rec.right (r : Rec) : Prop :=
  1 ≤ r.kind ∧ r.kind ≤ 3 ∧ 1 ≤ r.group.length ∧ r.group.length ≤ 16 ∧ 0 ≤ r.epoch ∧ r.epoch ≤ 1048576 ∧ 0 ≤ r.time ∧ r.time ≤ 1099511627776 ∧ 0 ≤ r.bucket ∧ r.bucket ≤ 1099511627776 ∧ r.body.length ≤ 60000 ∧
    r.tree.length = (if r.kind = 3 then 0 else 32) ∧ r.script.length = (if r.kind = 3 then 0 else 32) ∧ r.wrapped.length = (if r.kind = 3 then 0 else 48)
instance (r : Rec) : Decidable r.right := by unfold Rec.right; infer_instance

def Rec.text (r : Rec) : List UInt8 :=
  be 1 r.kind.toNat ++ (be 1 r.group.length ++ r.group ++ (be 8 r.epoch.toNat ++ (be 8 r.time.toNat ++ (be 8 r.bucket.toNat ++
    (be 2 r.body.length ++ r.body ++ (be 1 r.tree.length ++ r.tree ++ (be 1 r.script.length ++ r.script ++ (be 1 r.wrapped.length ++ r.wrapped ++ []))))))))

/-! What was read is written back. -/
end Go.AM


set_option autoImplicit false
namespace Go.AM
open Go

/-! ### Pens: octets put, whether bad or not -/
theorem penNum_raw (k n : Nat) (st : List UInt8 × Bool) : penNum k n st = penRaw (be k n) st := rfl
theorem penSmall_raw {k n : Nat} (h : n < 256 ^ k) (st : List UInt8 × Bool) : penSmall k (n : Int) st = penRaw (be k n) st := by
  have e : (256 : Nat) ^ k = 2 ^ (8 * k) := by rw [Nat.pow_mul]
  have hh : (n : Int) < 2 ^ (8 * k) := by
    rw [e] at h
    exact_mod_cast h
  unfold penSmall
  rw [if_pos ⟨by omega, hh⟩]
  simp only [Int.toNat_natCast, penNum_raw]
theorem penRaw_raw (a b : List UInt8) (st : List UInt8 × Bool) : penRaw a (penRaw b st) = penRaw (b ++ a) st := by
  unfold penRaw
  by_cases h : st.2 = true
  · simp [h]
  · simp [h]
theorem penText_raw {k : Nat} {m : List UInt8} (h : m.length < 256 ^ k) (st : List UInt8 × Bool) : penText k m st = penRaw (be k m.length ++ m) st := by
  unfold penText
  rw [penSmall_raw h, penRaw_raw]
/-! ### A node's octets, and back -/
def intsText (l : List Int) : List UInt8 := (l.map fun x => be 1 x.toNat).flatten
def NodeV.text (N : NodeV) : List UInt8 :=
  if N.kind = 0 then be 1 0
  else if N.kind = 1 then be 1 1 ++ (be 1 N.name.length ++ N.name) ++ be 8 N.key ++ (be 1 N.parent.length ++ N.parent)
  else be 1 2 ++ be 8 N.key ++ (be 1 N.parent.length ++ N.parent) ++ be 1 N.unm.length ++ intsText N.unm

theorem rising_at {l : List Int} (h : Rising l) : ∀ i, i < l.length → (i : Int) ≤ l.getD i 0
  | 0, k => (h 0 k).1
  | i + 1, k => by
    have := rising_at h i (by omega)
    have h3 := (h (i + 1) k).2.2 (by omega)
    simp only [Nat.add_sub_cancel] at h3
    omega
theorem rising_len {l : List Int} (h : Rising l) : l.length ≤ 32 := by
  by_cases k : l.length = 0
  · omega
  · have h1 := rising_at h (l.length - 1) (by omega)
    have h2 := (h (l.length - 1) (by omega)).2.1
    omega
theorem intsText_len : ∀ (l : List Int), (intsText l).length = l.length
  | [] => rfl
  | x :: l => by
    have := intsText_len l
    simp only [intsText, List.map_cons, List.flatten_cons, List.length_append, length_be, List.length_cons] at *
    omega
theorem node_kind {N : NodeV} (h : N.right) : N.kind = 0 ∨ N.kind = 1 ∨ N.kind = 2 := by
  unfold NodeV.right at h
  split at h
  · left; assumption
  · split at h
    · right; left; assumption
    · split at h
      · right; right; assumption
      · exact h.elim

theorem NodeV.text_len {N : NodeV} (h : N.right) : N.text.length ≤ 100 := by
  obtain ⟨k, m, y, p, u⟩ := N
  rcases node_kind h with hk | hk | hk
  · simp only at hk
    simp [NodeV.text, hk]
  · obtain ⟨h1, h2, ⟨h3, h4, h5⟩, h6⟩ := (right_one hk).1 h
    simp only at hk h1 h2 h3 h4 h5 h6
    simp [NodeV.text, hk]
    omega
  · obtain ⟨h1, ⟨h3, h4, h5⟩, h6⟩ := (right_two hk).1 h
    simp only at hk h1 h3 h4 h5 h6
    have hu := rising_len h6
    simp [NodeV.text, hk, intsText_len]
    omega

/-! ### A reader: an eye at p, the result at o2, the variable at o3 -/
structure RdS (s s1 : AS) (p o2 o3 : Nat) (ce z cs : List AV) : Prop where
  le : (s.drop p).le s1
  eye : s1.objs p = some ce
  res : s1.objs o2 = some z
  var : s1.objs o3 = some cs
  n2 : s.objs o2 = none
  n3 : s.objs o3 = none
  p2 : p ≠ o2
  p3 : p ≠ o3
  d : o2 ≠ o3
theorem RdS.gain {s s1 : AS} {p o2 o3 : Nat} {ce z cs : List AV} (h : RdS s s1 p o2 o3 ce z cs) {t : Nat} (ht : s.own t = none) (e : Nat) : RdS s (s1.gain t e) p o2 o3 ce z cs :=
  ⟨AS.le_gain h.le (by simpa [AS.drop] using ht) e, h.eye, h.res, h.var, h.n2, h.n3, h.p2, h.p3, h.d⟩
theorem RdS.out {s s1 : AS} {p o2 o3 : Nat} {ce z cs : List AV} (h : RdS s s1 p o2 o3 ce z cs) : (s.set p ce).le s1 := AS.set_le_of h.le h.eye
theorem RdS.own_none {s s1 : AS} {p o2 o3 : Nat} {ce z cs : List AV} (h : RdS s s1 p o2 o3 ce z cs) {t : Nat} (ht : s1.own t = none) : s.own t = none := by
  cases h0 : s.own t with
  | none => rfl
  | some e =>
    have := h.le.own t e (by simpa [AS.drop] using h0)
    rw [ht] at this
    cases this
/-- A slice of whole numbers that grows. -/
def IBuf (s0 s : AS) (x : AV) (l : List Int) : Prop := (x = nilS ∧ l = []) ∨ ∃ t e, x = intsV l (.own t e) ∧ s.own t = some e ∧ s0.own t = none
theorem IBuf.weak {s0 s : AS} {x : AV} {l : List Int} (h : IBuf s0 s x l) : x.weak (intsV l .any) := by
  rcases h with ⟨rfl, rfl⟩ | ⟨t, e, rfl, _, _⟩
  · exact AV.weak_nil
  · exact AV.weak_any
end Go.AM


set_option autoImplicit false
namespace Go.Proofs.YtooeklnbdgoneaaDoor
open Go Go.AM Go.Proofs

theorem RVau120 : type_of% (And.intro (And.intro (And.intro (And.intro (And.intro (And.intro @Tryd.underlying3 T.c3) (And.intro T.g3 (And.intro T.b3 T.z3))) (And.intro (And.intro @Tryd.underlying4 T.c4) (And.intro T.g4 (And.intro T.b4 T.z4)))) (And.intro (And.intro (And.intro @Tryd.underlying5 T.c5) (And.intro T.g5 (And.intro T.b5 T.z5))) (And.intro (And.intro @Tryd.underlying22 (And.intro T.c22 T.g22)) (And.intro T.b22 (And.intro T.z22 T.s22))))) (And.intro (And.intro (And.intro (And.intro @Tryd.underlying41 T.c41) (And.intro T.g41 (And.intro T.b41 T.z41))) (And.intro (And.intro @Tryd.underlying61 T.c61) (And.intro T.g61 (And.intro T.b61 T.z61)))) (And.intro (And.intro (And.intro T.p61 @Tryd.underlying105) (And.intro T.c105 (And.intro T.g105 T.b105))) (And.intro (And.intro T.z105 (And.intro T.h105 T.k36)) (And.intro T.k57 (And.intro T.k56 T.k34)))))) Tryd.ntmps20) :=
  (And.intro (And.intro (And.intro (And.intro (And.intro (And.intro @Tryd.underlying3 T.c3) (And.intro T.g3 (And.intro T.b3 T.z3))) (And.intro (And.intro @Tryd.underlying4 T.c4) (And.intro T.g4 (And.intro T.b4 T.z4)))) (And.intro (And.intro (And.intro @Tryd.underlying5 T.c5) (And.intro T.g5 (And.intro T.b5 T.z5))) (And.intro (And.intro @Tryd.underlying22 (And.intro T.c22 T.g22)) (And.intro T.b22 (And.intro T.z22 T.s22))))) (And.intro (And.intro (And.intro (And.intro @Tryd.underlying41 T.c41) (And.intro T.g41 (And.intro T.b41 T.z41))) (And.intro (And.intro @Tryd.underlying61 T.c61) (And.intro T.g61 (And.intro T.b61 T.z61)))) (And.intro (And.intro (And.intro T.p61 @Tryd.underlying105) (And.intro T.c105 (And.intro T.g105 T.b105))) (And.intro (And.intro T.z105 (And.intro T.h105 T.k36)) (And.intro T.k57 (And.intro T.k56 T.k34)))))) Tryd.ntmps20)

variable {Γ : Nat → List AV}

def ctxOk (g : List UInt8) (e : Int) : Prop := g.length ≤ 16 ∧ 0 ≤ e ∧ e ≤ 1048576
theorem ctx_len (g : List UInt8) (e : Nat) : (Vault.ctx g e).length = 9 + g.length := by
  simp [Vault.ctx]; omega

set_option maxHeartbeats 400000 in
theorem context_ok (g : List UInt8) (e : Nat) (hg : g.length ≤ 16) (he : e ≤ 1048576) (s : AS) :
    ACalls Tryd.prog Γ 20 [bytesV g .any, .v (.int .i64 e)] s (fun r s' => r = bytesV (Vault.ctx g e) .any ∧ s' = s) := by
  refine acalls_body Tryd.func20 rfl Tryd.ntmps20 Tryd.results20 (by simp) ?_
  have hu : iconv .u64 (e : Int) = (e : Int) := u64_conv (by omega)
  have hpen : penNum 8 e (penText 1 g ([], false)) = (Vault.ctx g e, false) := by
    rw [penNum_raw, penText_raw (by omega), penRaw_raw]
    simp [penRaw, Vault.ctx]
  refine awp_reg_seq ?_
  intro K hK
  simp only [↓DN, UP, DF, ashift, aconv, aindexAddr, aindex, aslice, abuiltin, AV.cells, AV.one, reduceCtorEq, ↓reduceIte, nLT, nLE, nEQ, nAdd, nMul, nPow, nSub, zLT, zLE, zNat, RVau120]
  refine hK _ _ ?_
  clear hK K
  refine awp_seq_k ?_
  intro K hK
  refine awp_reg_seq ?_
  intro K hK
  simp only [↓DN, UP, DF, ashift, aconv, aindexAddr, aindex, aslice, abuiltin, AV.cells, AV.one, reduceCtorEq, ↓reduceIte, nLT, nLE, nEQ, nAdd, nMul, nPow, nSub, zLT, zLE, zNat, RVau120, show decide ((16 : Int) < (g.length : Int)) = false from decide_eq_false (by omega), show decide ((e : Int) < 0) = false from decide_eq_false (by omega), show decide ((1048576 : Int) < (e : Int)) = false from decide_eq_false (by omega)]
  refine hK _ _ ?_
  clear hK K
  refine awp_cond_k ?_
  intro X Y hX hY
  simp only [↓DN, UP, DF, ashift, aconv, aindexAddr, aindex, aslice, abuiltin, AV.cells, AV.one, reduceCtorEq, ↓reduceIte, nLT, nLE, nEQ, nAdd, nMul, nPow, nSub, zLT, zLE, zNat, RVau120, DB]
  refine hY ?_
  clear hX hY X Y
  refine awp_skip ?_
  refine hK _ _ ?_
  clear hK K
  refine awp_reg_seq ?_
  intro K hK
  simp only [↓DN, UP, DF, ashift, aconv, aindexAddr, aindex, aslice, abuiltin, AV.cells, AV.one, reduceCtorEq, ↓reduceIte, nLT, nLE, nEQ, nAdd, nMul, nPow, nSub, zLT, zLE, zNat, RVau120]
  refine acallk (new_calls s) ?_
  rintro r s1 ⟨p, rfl, h1⟩
  simp only [↓AXq_nil, ↓AXq_cons, pval, DX, Nat.reduceBEq, ↓DN, UP, DF, ashift, aconv, aindexAddr, aindex, aslice, abuiltin, AV.cells, AV.one, reduceCtorEq, ↓reduceIte, nLT, nLE, nEQ, nAdd, nMul, nPow, nSub, zLT, zLE, zNat, RVau120]
  refine hK _ _ ?_
  clear hK K
  refine awp_reg_seq ?_
  intro K hK
  simp only [↓DN, UP, DF, ashift, aconv, aindexAddr, aindex, aslice, abuiltin, AV.cells, AV.one, reduceCtorEq, ↓reduceIte, nLT, nLE, nEQ, nAdd, nMul, nPow, nSub, zLT, zLE, zNat, RVau120]
  refine acallk (penShort_calls s s1 p _ _ g (IsB.any g) (by simp; omega) h1) ?_
  rintro r s2 ⟨rfl, h2⟩
  simp only [↓AXq_nil, ↓AXq_cons, pval, DX, Nat.reduceBEq, ↓DN, UP, DF, ashift, aconv, aindexAddr, aindex, aslice, abuiltin, AV.cells, AV.one, reduceCtorEq, ↓reduceIte, nLT, nLE, nEQ, nAdd, nMul, nPow, nSub, zLT, zLE, zNat, RVau120]
  refine hK _ _ ?_
  clear hK K
  refine awp_reg_seq ?_
  intro K hK
  simp only [↓DN, UP, DF, ashift, aconv, aindexAddr, aindex, aslice, abuiltin, AV.cells, AV.one, reduceCtorEq, ↓reduceIte, nLT, nLE, nEQ, nAdd, nMul, nPow, nSub, zLT, zLE, zNat, RVau120, hu]
  refine acallk (penU64_calls s s2 p _ e (by omega) (by have := Kdf.text_len 1 g ([], false); simp at this; omega) h2) ?_
  rintro r s3 ⟨rfl, h3⟩
  rw [hpen] at h3
  simp only [↓AXq_nil, ↓AXq_cons, pval, DX, Nat.reduceBEq, ↓DN, UP, DF, ashift, aconv, aindexAddr, aindex, aslice, abuiltin, AV.cells, AV.one, reduceCtorEq, ↓reduceIte, nLT, nLE, nEQ, nAdd, nMul, nPow, nSub, zLT, zLE, zNat, RVau120]
  refine hK _ _ ?_
  clear hK K
  refine awp_reg_seq ?_
  intro K hK
  simp only [↓DN, UP, DF, ashift, aconv, aindexAddr, aindex, aslice, abuiltin, AV.cells, AV.one, reduceCtorEq, ↓reduceIte, nLT, nLE, nEQ, nAdd, nMul, nPow, nSub, zLT, zLE, zNat, RVau120]
  refine acallk (penBytes_calls s s3 p _ (by rw [ctx_len]; omega) h3) ?_
  rintro r s4 ⟨rfl, rfl⟩
  simp only [↓AXq_nil, ↓AXq_cons, pval, DX, Nat.reduceBEq, ↓DN, UP, DF, ashift, aconv, aindexAddr, aindex, aslice, abuiltin, AV.cells, AV.one, reduceCtorEq, ↓reduceIte, nLT, nLE, nEQ, nAdd, nMul, nPow, nSub, zLT, zLE, zNat, RVau120]
  refine hK _ _ ?_
  clear hK K
  refine awp_reg_seq ?_
  intro K hK
  simp only [↓DN, UP, DF, ashift, aconv, aindexAddr, aindex, aslice, abuiltin, AV.cells, AV.one, reduceCtorEq, ↓reduceIte, nLT, nLE, nEQ, nAdd, nMul, nPow, nSub, zLT, zLE, zNat, RVau120]
  refine hK _ _ ?_
  clear hK K
  refine awp_ret ?_
  simp only [retQ, AEnds, aresL, ares, List.toList_toArray, ↓upd_same]; try simp only [↓DN, UP, DF, ashift, aconv, aindexAddr, aindex, aslice, abuiltin, AV.cells, AV.one, reduceCtorEq, ↓reduceIte, nLT, nLE, nEQ, nAdd, nMul, nPow, nSub, zLT, zLE, zNat, RVau120, DT]
  exact ⟨_, s, AV.weak.refl _, h3.le, rfl, rfl⟩

set_option maxHeartbeats 400000 in
theorem context_bad (g : List UInt8) (e : Int) (h : ¬ ctxOk g e) (s : AS) :
    ACalls Tryd.prog Γ 20 [bytesV g .any, .v (.int .i64 e)] s (fun r s' => r = .v (.slice none 0 0) ∧ s' = s) := by
  refine acalls_body Tryd.func20 rfl Tryd.ntmps20 Tryd.results20 (by simp) ?_
  refine awp_reg_seq ?_
  intro K hK
  simp only [↓DN, UP, DF, ashift, aconv, aindexAddr, aindex, aslice, abuiltin, AV.cells, AV.one, reduceCtorEq, ↓reduceIte, nLT, nLE, nEQ, nAdd, nMul, nPow, nSub, zLT, zLE, zNat, RVau120]
  refine hK _ _ ?_
  clear hK K
  refine awp_seq_k ?_
  intro K hK
  rcases tt3 (decide ((16 : Int) < (g.length : Int))) (decide (e < 0)) (decide ((1048576 : Int) < e)) with hd | hd | hd | hd
  · refine awp_reg_seq ?_
    intro K hK
    simp only [↓DN, UP, DF, ashift, aconv, aindexAddr, aindex, aslice, abuiltin, AV.cells, AV.one, reduceCtorEq, ↓reduceIte, nLT, nLE, nEQ, nAdd, nMul, nPow, nSub, zLT, zLE, zNat, RVau120, hd]
    refine hK _ _ ?_
    clear hK K
    refine awp_cond_k ?_
    intro X Y hX hY
    simp only [↓DN, UP, DF, ashift, aconv, aindexAddr, aindex, aslice, abuiltin, AV.cells, AV.one, reduceCtorEq, ↓reduceIte, nLT, nLE, nEQ, nAdd, nMul, nPow, nSub, zLT, zLE, zNat, RVau120, DB]
    refine hX ?_
    clear hX hY X Y
    refine awp_reg_seq ?_
    intro K hK
    simp only [↓DN, UP, DF, ashift, aconv, aindexAddr, aindex, aslice, abuiltin, AV.cells, AV.one, reduceCtorEq, ↓reduceIte, nLT, nLE, nEQ, nAdd, nMul, nPow, nSub, zLT, zLE, zNat, RVau120]
    refine hK _ _ ?_
    clear hK K
    refine awp_ret ?_
    try simp only [thenQ, blockQ]
    simp only [retQ, AEnds, aresL, ares, List.toList_toArray, ↓upd_same]; try simp only [↓DN, UP, DF, ashift, aconv, aindexAddr, aindex, aslice, abuiltin, AV.cells, AV.one, reduceCtorEq, ↓reduceIte, nLT, nLE, nEQ, nAdd, nMul, nPow, nSub, zLT, zLE, zNat, RVau120, DT]
    exact ⟨_, s, AV.weak.refl _, AS.le.refl _, rfl, rfl⟩
  · refine awp_reg_seq ?_
    intro K hK
    simp only [↓DN, UP, DF, ashift, aconv, aindexAddr, aindex, aslice, abuiltin, AV.cells, AV.one, reduceCtorEq, ↓reduceIte, nLT, nLE, nEQ, nAdd, nMul, nPow, nSub, zLT, zLE, zNat, RVau120, hd]
    refine hK _ _ ?_
    clear hK K
    refine awp_cond_k ?_
    intro X Y hX hY
    simp only [↓DN, UP, DF, ashift, aconv, aindexAddr, aindex, aslice, abuiltin, AV.cells, AV.one, reduceCtorEq, ↓reduceIte, nLT, nLE, nEQ, nAdd, nMul, nPow, nSub, zLT, zLE, zNat, RVau120, DB]
    refine hX ?_
    clear hX hY X Y
    refine awp_reg_seq ?_
    intro K hK
    simp only [↓DN, UP, DF, ashift, aconv, aindexAddr, aindex, aslice, abuiltin, AV.cells, AV.one, reduceCtorEq, ↓reduceIte, nLT, nLE, nEQ, nAdd, nMul, nPow, nSub, zLT, zLE, zNat, RVau120]
    refine hK _ _ ?_
    clear hK K
    refine awp_ret ?_
    try simp only [thenQ, blockQ]
    simp only [retQ, AEnds, aresL, ares, List.toList_toArray, ↓upd_same]; try simp only [↓DN, UP, DF, ashift, aconv, aindexAddr, aindex, aslice, abuiltin, AV.cells, AV.one, reduceCtorEq, ↓reduceIte, nLT, nLE, nEQ, nAdd, nMul, nPow, nSub, zLT, zLE, zNat, RVau120, DT]
    exact ⟨_, s, AV.weak.refl _, AS.le.refl _, rfl, rfl⟩
  · refine awp_reg_seq ?_
    intro K hK
    simp only [↓DN, UP, DF, ashift, aconv, aindexAddr, aindex, aslice, abuiltin, AV.cells, AV.one, reduceCtorEq, ↓reduceIte, nLT, nLE, nEQ, nAdd, nMul, nPow, nSub, zLT, zLE, zNat, RVau120, hd]
    refine hK _ _ ?_
    clear hK K
    refine awp_cond_k ?_
    intro X Y hX hY
    simp only [↓DN, UP, DF, ashift, aconv, aindexAddr, aindex, aslice, abuiltin, AV.cells, AV.one, reduceCtorEq, ↓reduceIte, nLT, nLE, nEQ, nAdd, nMul, nPow, nSub, zLT, zLE, zNat, RVau120, DB]
    refine hX ?_
    clear hX hY X Y
    refine awp_reg_seq ?_
    intro K hK
    simp only [↓DN, UP, DF, ashift, aconv, aindexAddr, aindex, aslice, abuiltin, AV.cells, AV.one, reduceCtorEq, ↓reduceIte, nLT, nLE, nEQ, nAdd, nMul, nPow, nSub, zLT, zLE, zNat, RVau120]
    refine hK _ _ ?_
    clear hK K
    refine awp_ret ?_
    try simp only [thenQ, blockQ]
    simp only [retQ, AEnds, aresL, ares, List.toList_toArray, ↓upd_same]; try simp only [↓DN, UP, DF, ashift, aconv, aindexAddr, aindex, aslice, abuiltin, AV.cells, AV.one, reduceCtorEq, ↓reduceIte, nLT, nLE, nEQ, nAdd, nMul, nPow, nSub, zLT, zLE, zNat, RVau120, DT]
    exact ⟨_, s, AV.weak.refl _, AS.le.refl _, rfl, rfl⟩
  · exact absurd (by simp only [decide_eq_false_iff_not] at hd; unfold ctxOk; omega) h

end Go.Proofs.YtooeklnbdgoneaaDoor


set_option autoImplicit false
namespace Go.Proofs.YtooeklnbdgoneaaDoor
open Go Go.AM Go.Proofs

theorem RVau250 : type_of% (And.intro (And.intro (And.intro (And.intro (And.intro @Tryd.underlying3 T.c3) (And.intro T.g3 (And.intro T.b3 T.z3))) (And.intro (And.intro @Tryd.underlying5 (And.intro T.c5 T.g5)) (And.intro T.b5 (And.intro T.z5 @Tryd.underlying9)))) (And.intro (And.intro (And.intro T.c9 T.g9) (And.intro T.b9 (And.intro T.z9 @Tryd.underlying22))) (And.intro (And.intro T.c22 (And.intro T.g22 T.b22)) (And.intro T.z22 (And.intro T.s22 T.k81))))) Tryd.ntmps50) :=
  (And.intro (And.intro (And.intro (And.intro (And.intro @Tryd.underlying3 T.c3) (And.intro T.g3 (And.intro T.b3 T.z3))) (And.intro (And.intro @Tryd.underlying5 (And.intro T.c5 T.g5)) (And.intro T.b5 (And.intro T.z5 @Tryd.underlying9)))) (And.intro (And.intro (And.intro T.c9 T.g9) (And.intro T.b9 (And.intro T.z9 @Tryd.underlying22))) (And.intro (And.intro T.c22 (And.intro T.g22 T.b22)) (And.intro T.z22 (And.intro T.s22 T.k81))))) Tryd.ntmps50)
theorem RVau221 : type_of% (And.intro (And.intro (And.intro (And.intro @Tryd.underlying3 T.c3) (And.intro T.g3 (And.intro T.b3 T.z3))) (And.intro (And.intro @Tryd.underlying9 T.c9) (And.intro T.g9 (And.intro T.b9 T.z9)))) Tryd.ntmps21) :=
  (And.intro (And.intro (And.intro (And.intro @Tryd.underlying3 T.c3) (And.intro T.g3 (And.intro T.b3 T.z3))) (And.intro (And.intro @Tryd.underlying9 T.c9) (And.intro T.g9 (And.intro T.b9 T.z9)))) Tryd.ntmps21)
theorem RVau224 : type_of% (And.intro (And.intro (And.intro (And.intro (And.intro @Tryd.underlying3 T.c3) (And.intro T.g3 T.b3)) (And.intro (And.intro T.z3 @Tryd.underlying9) (And.intro T.c9 T.g9))) (And.intro (And.intro (And.intro T.b9 T.z9) (And.intro @Tryd.underlying41 T.c41)) (And.intro (And.intro T.g41 T.b41) (And.intro T.z41 (And.intro T.k58 T.k59))))) Tryd.ntmps24) :=
  (And.intro (And.intro (And.intro (And.intro (And.intro @Tryd.underlying3 T.c3) (And.intro T.g3 T.b3)) (And.intro (And.intro T.z3 @Tryd.underlying9) (And.intro T.c9 T.g9))) (And.intro (And.intro (And.intro T.b9 T.z9) (And.intro @Tryd.underlying41 T.c41)) (And.intro (And.intro T.g41 T.b41) (And.intro T.z41 (And.intro T.k58 T.k59))))) Tryd.ntmps24)
theorem RVau222 : type_of% (And.intro (And.intro (And.intro @Tryd.underlying3 T.c3) (And.intro T.g3 (And.intro T.b3 T.z3))) Tryd.ntmps22) :=
  (And.intro (And.intro (And.intro @Tryd.underlying3 T.c3) (And.intro T.g3 (And.intro T.b3 T.z3))) Tryd.ntmps22)
variable {Γ : Nat → List AV}

theorem vk_len (key : List UInt8) : (Vault.vk key).length = 48 := by
  rw [Vault.vk, Kdf.label, show Kdf.fits Vault.wrapW [] 48 = true from by decide, if_pos rfl]
  exact Kdf.expand_len _ _ _
theorem vn_fits (c : List UInt8) (hc : c.length ≤ 65535) : Kdf.fits Vault.nonceW c 16 = true := by
  simp [Kdf.fits, Vault.nonceW]
  omega
theorem vn_len (key c : List UInt8) (hc : c.length ≤ 65535) : (Vault.vn key c).length = 16 := by
  rw [Vault.vn, Kdf.label, vn_fits c hc, if_pos rfl]
  exact Kdf.expand_len _ _ _

set_option maxHeartbeats 400000 in
theorem vkeys_calls (hG0 : Γ 0 = stC Sha.H0) (hG : Γ 1 = Sha.K.map wV) (key c : List UInt8) (hk : key.length ≤ 2 ^ 36) (hc : c.length ≤ 60000) (s : AS) :
    ACalls Tryd.prog Γ 50 [bytesV key .any, bytesV c .any] s (fun r s' => r = .tup [bytesV (Vault.vk key) .any, bytesV (Vault.vn key c) .any] ∧ s' = s) := by
  refine acalls_body Tryd.func50 rfl Tryd.ntmps50 Tryd.results50 (by simp) ?_
  have h1 := fun s => label_calls (Γ := Γ) hG0 hG key Vault.wrapW [] 48 hk (by decide) (by decide) (by decide) s
  have h2 := fun s => label_calls (Γ := Γ) hG0 hG key Vault.nonceW c 16 hk (by decide) (by omega) (by decide) s
  change ∀ s, ACalls _ _ _ _ s (fun r s' => r = .tup [bytesV (Vault.vk key) .any, _] ∧ s' = s) at h1
  change ∀ s, ACalls _ _ _ _ s (fun r s' => r = .tup [bytesV (Vault.vn key c) .any, _] ∧ s' = s) at h2
  generalize Vault.vk key = k at *
  generalize Vault.vn key c = n at *
  refine awp_reg_seq ?_
  intro K hK
  simp only [↓DN, UP, DF, ashift, aconv, aindexAddr, aindex, aslice, abuiltin, AV.cells, AV.one, reduceCtorEq, ↓reduceIte, nLT, nLE, nEQ, nAdd, nMul, nPow, nSub, zLT, zLE, zNat, RVau250]
  refine hK _ _ ?_
  clear hK K
  refine awp_reg_seq ?_
  intro K hK
  simp only [↓DN, UP, DF, ashift, aconv, aindexAddr, aindex, aslice, abuiltin, AV.cells, AV.one, reduceCtorEq, ↓reduceIte, nLT, nLE, nEQ, nAdd, nMul, nPow, nSub, zLT, zLE, zNat, RVau250]
  refine acallk (ACalls.weaks (AVs.weak.cons (AV.weak.refl _) (AVs.weak.cons (AV.weak.refl _) (AVs.weak.cons (AV.weak_nil (sz := 1)) (AVs.weak.refl _)))) (h1 s)) ?_
  rintro r s1 ⟨rfl, rfl⟩
  simp only [↓AXq_nil, ↓AXq_cons, pval, DX, Nat.reduceBEq, ↓DN, UP, DF, ashift, aconv, aindexAddr, aindex, aslice, abuiltin, AV.cells, AV.one, reduceCtorEq, ↓reduceIte, nLT, nLE, nEQ, nAdd, nMul, nPow, nSub, zLT, zLE, zNat, RVau250]
  refine hK _ _ ?_
  clear hK K
  refine awp_reg_seq ?_
  intro K hK
  simp only [↓DN, UP, DF, ashift, aconv, aindexAddr, aindex, aslice, abuiltin, AV.cells, AV.one, reduceCtorEq, ↓reduceIte, nLT, nLE, nEQ, nAdd, nMul, nPow, nSub, zLT, zLE, zNat, RVau250]
  refine acallk (h2 _) ?_
  rintro r s2 ⟨rfl, rfl⟩
  simp only [↓AXq_nil, ↓AXq_cons, pval, DX, Nat.reduceBEq, ↓DN, UP, DF, ashift, aconv, aindexAddr, aindex, aslice, abuiltin, AV.cells, AV.one, reduceCtorEq, ↓reduceIte, nLT, nLE, nEQ, nAdd, nMul, nPow, nSub, zLT, zLE, zNat, RVau250]
  refine hK _ _ ?_
  clear hK K
  refine awp_reg_seq ?_
  intro K hK
  simp only [↓DN, UP, DF, ashift, aconv, aindexAddr, aindex, aslice, abuiltin, AV.cells, AV.one, reduceCtorEq, ↓reduceIte, nLT, nLE, nEQ, nAdd, nMul, nPow, nSub, zLT, zLE, zNat, RVau250]
  refine hK _ _ ?_
  clear hK K
  refine awp_ret ?_
  simp only [retQ, AEnds, aresL, ares, List.toList_toArray, ↓upd_same]; try simp only [↓DN, UP, DF, ashift, aconv, aindexAddr, aindex, aslice, abuiltin, AV.cells, AV.one, reduceCtorEq, ↓reduceIte, nLT, nLE, nEQ, nAdd, nMul, nPow, nSub, zLT, zLE, zNat, RVau250, DT]
  exact ⟨_, _, AV.weak.refl _, AS.le.refl _, rfl, rfl⟩

theorem refIs17_calls (g : List UInt8) (e : Int) (s : AS) : ACalls Tryd.prog Γ 21 [.v (.string ⟨g.toArray⟩), .v (.int .i64 e)] s (fun r s' => (∃ b, r = .v (.bool b) ∧ (b = true ↔ ctxOk g e)) ∧ s' = s) := by
  refine acalls_body Tryd.func21 rfl Tryd.ntmps21 Tryd.results21 (by simp) ?_
  unfold ctxOk
  refine awp_reg_seq ?_
  intro K hK
  simp only [↓DN, UP, DF, ashift, aconv, aindexAddr, aindex, aslice, abuiltin, AV.cells, AV.one, reduceCtorEq, ↓reduceIte, nLT, nLE, nEQ, nAdd, nMul, nPow, nSub, zLT, zLE, zNat, RVau221]
  refine hK _ _ ?_
  clear hK K
  rcases ff3 (decide ((g.length : Int) ≤ 16)) (decide (0 ≤ e)) (decide (e ≤ 1048576)) with hd | hd | hd | hd
  all_goals
    refine awp_reg_seq ?_
    intro K hK
    simp only [↓DN, UP, DF, ashift, aconv, aindexAddr, aindex, aslice, abuiltin, AV.cells, AV.one, reduceCtorEq, ↓reduceIte, nLT, nLE, nEQ, nAdd, nMul, nPow, nSub, zLT, zLE, zNat, RVau221, hd]
    refine hK _ _ ?_
    clear hK K
    refine awp_ret ?_
    simp only [retQ, AEnds, aresL, ares, List.toList_toArray, ↓upd_same]; try simp only [↓DN, UP, DF, ashift, aconv, aindexAddr, aindex, aslice, abuiltin, AV.cells, AV.one, reduceCtorEq, ↓reduceIte, nLT, nLE, nEQ, nAdd, nMul, nPow, nSub, zLT, zLE, zNat, RVau221, DT]
    refine ⟨_, _, AV.weak.refl _, AS.le.refl _, ⟨_, rfl, ?_⟩, rfl⟩
    simp only [decide_eq_true_eq, decide_eq_false_iff_not] at hd
    simp only [Bool.false_eq_true, false_iff, true_iff]
    omega

theorem refContext17_calls (g : List UInt8) (e : Nat) (hg : g.length ≤ 16) (he : e ≤ 1048576) (s : AS) :
    ACalls Tryd.prog Γ 24 [.v (.string ⟨g.toArray⟩), .v (.int .i64 e)] s (fun r s' => r = .v (.string ⟨(Vault.ctx g e).toArray⟩) ∧ s' = s) := by
  refine acalls_body Tryd.func24 rfl Tryd.ntmps24 Tryd.results24 (by simp) ?_
  have hu : iconv .u64 (e : Int) = (e : Int) := u64_conv (by omega)
  refine awp_reg_seq ?_
  intro K hK
  simp only [↓DN, UP, DF, ashift, aconv, aindexAddr, aindex, aslice, abuiltin, AV.cells, AV.one, reduceCtorEq, ↓reduceIte, nLT, nLE, nEQ, nAdd, nMul, nPow, nSub, zLT, zLE, zNat, RVau224]
  refine hK _ _ ?_
  clear hK K
  refine awp_reg_seq ?_
  intro K hK
  simp only [↓DN, UP, DF, ashift, aconv, aindexAddr, aindex, aslice, abuiltin, AV.cells, AV.one, reduceCtorEq, ↓reduceIte, nLT, nLE, nEQ, nAdd, nMul, nPow, nSub, zLT, zLE, zNat, RVau224]
  refine acallk (refText_calls g 1 (by omega) (by decide) s) ?_
  rintro r s1 ⟨rfl, rfl⟩
  simp only [↓AXq_nil, ↓AXq_cons, pval, DX, Nat.reduceBEq, ↓DN, UP, DF, ashift, aconv, aindexAddr, aindex, aslice, abuiltin, AV.cells, AV.one, reduceCtorEq, ↓reduceIte, nLT, nLE, nEQ, nAdd, nMul, nPow, nSub, zLT, zLE, zNat, RVau224, hu]
  refine acallk (refNumber_calls e 8 (by omega) (by decide) s1) ?_
  rintro r s2 ⟨rfl, rfl⟩
  simp only [↓AXq_nil, ↓AXq_cons, pval, DX, Nat.reduceBEq, ↓DN, UP, DF, ashift, aconv, aindexAddr, aindex, aslice, abuiltin, AV.cells, AV.one, reduceCtorEq, ↓reduceIte, nLT, nLE, nEQ, nAdd, nMul, nPow, nSub, zLT, zLE, zNat, RVau224, i64_room (show (be 1 g.length).length + g.length + (be 8 e).length < 2 ^ 62 by simp; omega)]
  refine hK _ _ ?_
  clear hK K
  refine awp_ret ?_
  simp only [retQ, AEnds, aresL, ares, List.toList_toArray, ↓upd_same]; try simp only [↓DN, UP, DF, ashift, aconv, aindexAddr, aindex, aslice, abuiltin, AV.cells, AV.one, reduceCtorEq, ↓reduceIte, nLT, nLE, nEQ, nAdd, nMul, nPow, nSub, zLT, zLE, zNat, RVau224, DT]
  refine ⟨_, _, AV.weak.refl _, AS.le.refl _, ?_, rfl⟩
  simp [Vault.ctx]

theorem bucket_calls (t p : Int) (s : AS) : ACalls Tryd.prog Γ 22 [.v (.int .i64 t), .v (.int .i64 p)] s (fun r s' => r = .v (.int .i64 (if t < 0 then 0 else if p < 1 then t else iquo .i64 t p)) ∧ s' = s) := by
  refine acalls_body Tryd.func22 rfl Tryd.ntmps22 Tryd.results22 (by simp) ?_
  refine awp_reg_seq ?_
  intro K hK
  simp only [↓DN, UP, DF, ashift, aconv, aindexAddr, aindex, aslice, abuiltin, AV.cells, AV.one, reduceCtorEq, ↓reduceIte, nLT, nLE, nEQ, nAdd, nMul, nPow, nSub, zLT, zLE, zNat, RVau222]
  refine hK _ _ ?_
  clear hK K
  refine awp_seq_k ?_
  intro K hK
  refine awp_block ?_
  by_cases h1 : t < 0
  · refine awp_reg_seq ?_
    intro K hK
    simp only [↓DN, UP, DF, ashift, aconv, aindexAddr, aindex, aslice, abuiltin, AV.cells, AV.one, reduceCtorEq, ↓reduceIte, nLT, nLE, nEQ, nAdd, nMul, nPow, nSub, zLT, zLE, zNat, RVau222, decide_eq_true h1]
    refine hK _ _ ?_
    clear hK K
    refine awp_cond_k ?_
    intro X Y hX hY
    simp only [↓DN, UP, DF, ashift, aconv, aindexAddr, aindex, aslice, abuiltin, AV.cells, AV.one, reduceCtorEq, ↓reduceIte, nLT, nLE, nEQ, nAdd, nMul, nPow, nSub, zLT, zLE, zNat, RVau222, DB]
    refine hX ?_
    clear hX hY X Y
    refine awp_reg_seq ?_
    intro K hK
    simp only [↓DN, UP, DF, ashift, aconv, aindexAddr, aindex, aslice, abuiltin, AV.cells, AV.one, reduceCtorEq, ↓reduceIte, nLT, nLE, nEQ, nAdd, nMul, nPow, nSub, zLT, zLE, zNat, RVau222]
    refine hK _ _ ?_
    clear hK K
    refine awp_ret ?_
    try simp only [thenQ, blockQ]
    simp only [retQ, AEnds, aresL, ares, List.toList_toArray, ↓upd_same]; try simp only [↓DN, UP, DF, ashift, aconv, aindexAddr, aindex, aslice, abuiltin, AV.cells, AV.one, reduceCtorEq, ↓reduceIte, nLT, nLE, nEQ, nAdd, nMul, nPow, nSub, zLT, zLE, zNat, RVau222, DT]
    exact ⟨_, _, AV.weak.refl _, AS.le.refl _, by rw [if_pos h1], rfl⟩
  · refine awp_reg_seq ?_
    intro K hK
    simp only [↓DN, UP, DF, ashift, aconv, aindexAddr, aindex, aslice, abuiltin, AV.cells, AV.one, reduceCtorEq, ↓reduceIte, nLT, nLE, nEQ, nAdd, nMul, nPow, nSub, zLT, zLE, zNat, RVau222, decide_eq_false h1]
    refine hK _ _ ?_
    clear hK K
    refine awp_cond_k ?_
    intro X Y hX hY
    simp only [↓DN, UP, DF, ashift, aconv, aindexAddr, aindex, aslice, abuiltin, AV.cells, AV.one, reduceCtorEq, ↓reduceIte, nLT, nLE, nEQ, nAdd, nMul, nPow, nSub, zLT, zLE, zNat, RVau222, DB]
    refine hY ?_
    clear hX hY X Y
    by_cases h2 : p < 1
    · refine awp_reg_seq ?_
      intro K hK
      simp only [↓DN, UP, DF, ashift, aconv, aindexAddr, aindex, aslice, abuiltin, AV.cells, AV.one, reduceCtorEq, ↓reduceIte, nLT, nLE, nEQ, nAdd, nMul, nPow, nSub, zLT, zLE, zNat, RVau222, decide_eq_true h2]
      refine hK _ _ ?_
      clear hK K
      refine awp_cond_k ?_
      intro X Y hX hY
      simp only [↓DN, UP, DF, ashift, aconv, aindexAddr, aindex, aslice, abuiltin, AV.cells, AV.one, reduceCtorEq, ↓reduceIte, nLT, nLE, nEQ, nAdd, nMul, nPow, nSub, zLT, zLE, zNat, RVau222, DB]
      refine hX ?_
      clear hX hY X Y
      refine awp_reg_seq ?_
      intro K hK
      simp only [↓DN, UP, DF, ashift, aconv, aindexAddr, aindex, aslice, abuiltin, AV.cells, AV.one, reduceCtorEq, ↓reduceIte, nLT, nLE, nEQ, nAdd, nMul, nPow, nSub, zLT, zLE, zNat, RVau222]
      refine hK _ _ ?_
      clear hK K
      refine awp_ret ?_
      try simp only [thenQ, blockQ]
      simp only [retQ, AEnds, aresL, ares, List.toList_toArray, ↓upd_same]; try simp only [↓DN, UP, DF, ashift, aconv, aindexAddr, aindex, aslice, abuiltin, AV.cells, AV.one, reduceCtorEq, ↓reduceIte, nLT, nLE, nEQ, nAdd, nMul, nPow, nSub, zLT, zLE, zNat, RVau222, DT]
      exact ⟨_, _, AV.weak.refl _, AS.le.refl _, by rw [if_neg h1, if_pos h2], rfl⟩
    · refine awp_reg_seq ?_
      intro K hK
      simp only [↓DN, UP, DF, ashift, aconv, aindexAddr, aindex, aslice, abuiltin, AV.cells, AV.one, reduceCtorEq, ↓reduceIte, nLT, nLE, nEQ, nAdd, nMul, nPow, nSub, zLT, zLE, zNat, RVau222, decide_eq_false h2]
      refine hK _ _ ?_
      clear hK K
      refine awp_cond_k ?_
      intro X Y hX hY
      simp only [↓DN, UP, DF, ashift, aconv, aindexAddr, aindex, aslice, abuiltin, AV.cells, AV.one, reduceCtorEq, ↓reduceIte, nLT, nLE, nEQ, nAdd, nMul, nPow, nSub, zLT, zLE, zNat, RVau222, DB]
      refine hY ?_
      clear hX hY X Y
      refine awp_skip ?_
      simp only [blockQ, thenQ, if_true, if_false]
      refine hK _ _ ?_
      clear hK K
      refine awp_reg_seq ?_
      intro K hK
      simp only [↓DN, UP, DF, ashift, aconv, aindexAddr, aindex, aslice, abuiltin, AV.cells, AV.one, reduceCtorEq, ↓reduceIte, nLT, nLE, nEQ, nAdd, nMul, nPow, nSub, zLT, zLE, zNat, RVau222, show ¬ p = 0 from by omega]
      refine hK _ _ ?_
      clear hK K
      refine awp_ret ?_
      simp only [retQ, AEnds, aresL, ares, List.toList_toArray, ↓upd_same]; try simp only [↓DN, UP, DF, ashift, aconv, aindexAddr, aindex, aslice, abuiltin, AV.cells, AV.one, reduceCtorEq, ↓reduceIte, nLT, nLE, nEQ, nAdd, nMul, nPow, nSub, zLT, zLE, zNat, RVau222, DT]
      exact ⟨_, _, AV.weak.refl _, AS.le.refl _, by rw [if_neg h1, if_neg h2], rfl⟩
end Go.Proofs.YtooeklnbdgoneaaDoor


set_option autoImplicit false
namespace Go.Proofs.YtooeklnbdgoneaaDoor
open Go Go.AM Go.Proofs



variable {Γ : Nat → List AV}



theorem len48 {n : Nat} (h : n = 48) : ((n : Int) != 48) = false := by subst h; rfl
theorem len48T {n : Nat} (h : n ≠ 48) : ((n : Int) != 48) = true := by simp only [bne_iff_ne, ne_eq]; omega
end Go.Proofs.YtooeklnbdgoneaaDoor


