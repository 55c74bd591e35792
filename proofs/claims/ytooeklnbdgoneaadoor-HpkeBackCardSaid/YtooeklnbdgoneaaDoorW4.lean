/- Contracts of the program's functions, each walked once; the conditions stand in each theorem. -/
import Derived.Test.YtooeklnbdgoneaaDoorAMp6
import Derived.Test.YtooeklnbdgoneaaDoorW3
import Derived.Test.YtooeklnbdgoneaaDoorAMp4
import Derived.Test.YtooeklnbdgoneaaDoorW1
set_option linter.unusedSimpArgs false
set_option linter.unusedVariables false
open Nat renaming reduceLT → nLT, reduceLeDiff → nLE, reduceEqDiff → nEQ, reduceAdd → nAdd, reduceMul → nMul, reducePow → nPow, reduceSub → nSub
open Int renaming reduceLT → zLT, reduceLE → zLE, reduceToNat → zNat
open Go.AM renaming ashift → qSh, aconv → qCv, aindexAddr → qIA, aindex → qIx, aslice → qSl, abuiltin → qBu
open Go.AM.AV renaming cells → qCe, one → qOn
set_option autoImplicit false
namespace Go.Proofs.YtooeklnbdgoneaaDoor
open Go Go.AM Go.Proofs

theorem RMac3114 : type_of% (And.intro (And.intro (And.intro (And.intro (And.intro @Tryd.underlying3 T.c3) (And.intro T.g3 (And.intro T.b3 T.z3))) (And.intro (And.intro @Tryd.underlying5 T.c5) (And.intro T.g5 (And.intro T.b5 T.z5)))) (And.intro (And.intro (And.intro @Tryd.underlying9 T.c9) (And.intro T.g9 (And.intro T.b9 T.z9))) (And.intro (And.intro @Tryd.underlying22 (And.intro T.c22 T.g22)) (And.intro T.b22 (And.intro T.z22 T.s22))))) Tryd.ntmps114) :=
  (And.intro (And.intro (And.intro (And.intro (And.intro @Tryd.underlying3 T.c3) (And.intro T.g3 (And.intro T.b3 T.z3))) (And.intro (And.intro @Tryd.underlying5 T.c5) (And.intro T.g5 (And.intro T.b5 T.z5)))) (And.intro (And.intro (And.intro @Tryd.underlying9 T.c9) (And.intro T.g9 (And.intro T.b9 T.z9))) (And.intro (And.intro @Tryd.underlying22 (And.intro T.c22 T.g22)) (And.intro T.b22 (And.intro T.z22 T.s22))))) Tryd.ntmps114)
theorem RMac394 : type_of% (And.intro (And.intro (And.intro (And.intro (And.intro @Tryd.underlying3 T.c3) (And.intro T.g3 T.b3)) (And.intro (And.intro T.z3 @Tryd.underlying5) (And.intro T.c5 T.g5))) (And.intro (And.intro (And.intro T.b5 T.z5) (And.intro @Tryd.underlying9 T.c9)) (And.intro (And.intro T.g9 T.b9) (And.intro T.z9 (And.intro T.k114 T.k13))))) Tryd.ntmps94) :=
  (And.intro (And.intro (And.intro (And.intro (And.intro @Tryd.underlying3 T.c3) (And.intro T.g3 T.b3)) (And.intro (And.intro T.z3 @Tryd.underlying5) (And.intro T.c5 T.g5))) (And.intro (And.intro (And.intro T.b5 T.z5) (And.intro @Tryd.underlying9 T.c9)) (And.intro (And.intro T.g9 T.b9) (And.intro T.z9 (And.intro T.k114 T.k13))))) Tryd.ntmps94)

variable {Γ : Nat → List AV}

theorem fill_get (k : List UInt8) (i : Nat) (h : i < k.length) (hk : k.length ≤ 64) : (Mac.fill k)[i]'(by rw [Mac.fill_len k hk]; omega) = k[i] := by
  simp only [Mac.fill]
  rw [List.getElem_append_left h]
theorem fill_nil (k : List UInt8) (i : Nat) (h : ¬ i < k.length) (hi : i < 64) (hk : k.length ≤ 64) : (Mac.fill k)[i]'(by rw [Mac.fill_len k hk]; omega) = 0 := by
  simp only [Mac.fill]
  rw [List.getElem_append_right (by omega), List.getElem_replicate]
theorem turn_succ (x : UInt8) (l : List UInt8) (i : Nat) (h : i < l.length) : Mac.turn x (l.take (i + 1)) = Mac.turn x (l.take i) ++ [l[i] ^^^ x] := by
  rw [List.take_succ_eq_append_getElem h]
  simp only [Mac.turn, List.map_append, List.map_cons, List.map_nil]

set_option maxHeartbeats 2000000 in
set_option maxRecDepth 100000 in
theorem refWith03_calls (key : List UInt8) (hk : key.length ≤ 64) (x : UInt8) (s : AS) :
    ACalls Tryd.prog Γ 114 [.v (.string ⟨key.toArray⟩), .v (.int .u8 (x.toNat : Int))] s (fun r s' => r = .v (.string ⟨(Mac.turn x (Mac.fill key)).toArray⟩) ∧ s' = s) := by
  refine acalls_body Tryd.func114 rfl Tryd.ntmps114 Tryd.results114 (by simp) ?_
  have hfl := Mac.fill_len key hk
  refine awp_reg_seq ?_
  intro K hK
  simp only [↓DN, UP, DF, qSh, qCv, qIA, qIx, qSl, qBu, qCe, qOn, reduceCtorEq, ↓reduceIte, nLT, nLE, nEQ, nAdd, nMul, nPow, nSub, zLT, zLE, zNat, RMac3114]
  refine hK _ _ ?_
  clear hK K
  refine awp_reg_seq ?_
  intro K hK
  simp only [↓DN, UP, DF, qSh, qCv, qIA, qIx, qSl, qBu, qCe, qOn, reduceCtorEq, ↓reduceIte, nLT, nLE, nEQ, nAdd, nMul, nPow, nSub, zLT, zLE, zNat, RMac3114]
  refine hK _ _ ?_
  clear hK K
  refine awp_seq_k ?_
  intro K hK
  refine awp_reg_seq ?_
  intro K hK
  simp only [↓DN, UP, DF, qSh, qCv, qIA, qIx, qSl, qBu, qCe, qOn, reduceCtorEq, ↓reduceIte, nLT, nLE, nEQ, nAdd, nMul, nPow, nSub, zLT, zLE, zNat, RMac3114]
  refine hK _ _ ?_
  clear hK K
  refine awp_block ?_
  refine awp_loop (fun E s1 => ∃ i : Nat, i ≤ 64 ∧ E 0 = .v (.string ⟨key.toArray⟩) ∧ E 1 = .v (.int .u8 (x.toNat : Int)) ∧ E 6 = .v (.int .i64 i) ∧ OutS s (Mac.turn x ((Mac.fill key).take i)) (E 5) s1)
    (fun E _ => match E 6 with | .v (.int _ i) => 64 - i.toNat | _ => 0) ?_ ?_
  · exact ⟨0, Nat.zero_le _, by simp only [upd, initE, nEQ, ↓reduceIte, List.getD_cons_succ, List.getD_cons_zero], by simp only [upd, initE, nEQ, ↓reduceIte, List.getD_cons_succ, List.getD_cons_zero], by simp only [upd, ↓reduceIte]; rfl, by simp only [upd, nEQ, ↓reduceIte]; exact OutS.nil s⟩
  · rintro E1 s1 ⟨i, hi, e0, e1, e6, hout⟩ -
    refine awp_seq_k ?_
    intro K2 hK2
    by_cases hi' : i < 64
    · have hlt : (i : Int) < 64 := by omega
      have hge : (0 : Int) ≤ (i : Int) := by omega
      have hts := turn_succ x (Mac.fill key) i (by omega)
      have hg1 := fill_get key i
      have hg2 := fill_nil key i
      refine awp_reg_seq ?_
      intro K hK
      simp only [↓DN, UP, DF, qSh, qCv, qIA, qIx, qSl, qBu, qCe, qOn, reduceCtorEq, ↓reduceIte, nLT, nLE, nEQ, nAdd, nMul, nPow, nSub, zLT, zLE, zNat, RMac3114, e6, decide_eq_true hlt]
      refine hK _ _ ?_
      clear hK K
      refine awp_cond_k ?_
      intro X Y hX hY
      simp only [↓DN, UP, DF, qSh, qCv, qIA, qIx, qSl, qBu, qCe, qOn, reduceCtorEq, ↓reduceIte, nLT, nLE, nEQ, nAdd, nMul, nPow, nSub, zLT, zLE, zNat, RMac3114, DB]
      refine hX ?_
      clear hX hY X Y
      refine awp_skip ?_
      refine hK2 _ _ ?_
      clear hK2 K2
      refine awp_seq_k ?_
      intro K3 hK3
      refine awp_block ?_
      refine awp_reg_seq ?_
      intro K hK
      simp only [↓DN, UP, DF, qSh, qCv, qIA, qIx, qSl, qBu, qCe, qOn, reduceCtorEq, ↓reduceIte, nLT, nLE, nEQ, nAdd, nMul, nPow, nSub, zLT, zLE, zNat, RMac3114]
      refine hK _ _ ?_
      clear hK K
      refine awp_seq_k ?_
      intro K4 hK4
      have hgo : ∀ (E2 : Env) (c : UInt8), (Mac.fill key)[i]'(by omega) = c → E2 0 = .v (.string ⟨key.toArray⟩) → E2 1 = .v (.int .u8 (x.toNat : Int)) → E2 6 = .v (.int .i64 i) → E2 5 = E1 5 → E2 7 = .v (.int .u8 (c.toNat : Int)) → K4 E2 s1 := by
        intro E2 c hc f0 f1 f6 f5 f7
        refine hK4 _ _ ?_
        clear hK4 K4
        rw [hc] at hts
        have hxor := Mac.byte_xor c x
        generalize hr6 : E1 5 = r6 at hout f5
        refine awp_reg_end ?_
        intro K hK
        simp only [↓DN, UP, DF, qSh, qCv, qIA, qIx, qSl, qBu, qCe, qOn, reduceCtorEq, ↓reduceIte, nLT, nLE, nEQ, nAdd, nMul, nPow, nSub, zLT, zLE, zNat, RMac3114, f0, f1, f5, f6, f7, hxor, List.replicate_one]
        refine aappend_out (ds := [c ^^^ x]) hout rfl rfl T.c5 T.b5 (by simp [Mac.turn]; omega) ?_
        intro r2 s2 h2
        rw [← hts] at h2
        refine hK _ _ ?_
        clear hK K
        simp only [thenQ, blockQ, if_true, if_false]
        refine hK3 _ _ ?_
        clear hK3 K3
        refine awp_reg_end ?_
        intro K hK
        simp only [↓DN, UP, DF, qSh, qCv, qIA, qIx, qSl, qBu, qCe, qOn, reduceCtorEq, ↓reduceIte, nLT, nLE, nEQ, nAdd, nMul, nPow, nSub, zLT, zLE, zNat, RMac3114, f6, w_succ i (by omega)]
        refine hK _ _ ?_
        clear hK K
        refine ⟨⟨i + 1, by omega, by simp only [upd, f0, nEQ, ↓reduceIte], by simp only [upd, f1, nEQ, ↓reduceIte], by simp only [upd, ↓reduceIte], by simpa only [upd, nEQ, ↓reduceIte] using h2⟩, ?_⟩
        simp only [e6, upd, ↓reduceIte]
        omega
      by_cases hik : i < key.length
      · have hget := ba_get' key i hik
        have hg := hg1 hik hk
        generalize key[i] = c at *
        refine awp_reg_seq ?_
        intro K hK
        simp only [↓DN, UP, DF, qSh, qCv, qIA, qIx, qSl, qBu, qCe, qOn, reduceCtorEq, ↓reduceIte, nLT, nLE, nEQ, nAdd, nMul, nPow, nSub, zLT, zLE, zNat, RMac3114, e0, e6, bs_size, decide_eq_true (show (i : Int) < (key.length : Int) by omega)]
        refine hK _ _ ?_
        clear hK K
        refine awp_cond_k ?_
        intro X Y hX hY
        simp only [↓DN, UP, DF, qSh, qCv, qIA, qIx, qSl, qBu, qCe, qOn, reduceCtorEq, ↓reduceIte, nLT, nLE, nEQ, nAdd, nMul, nPow, nSub, zLT, zLE, zNat, RMac3114, DB]
        refine hX ?_
        clear hX hY X Y
        refine awp_reg_end ?_
        intro K hK
        simp only [↓DN, UP, DF, qSh, qCv, qIA, qIx, qSl, qBu, qCe, qOn, reduceCtorEq, ↓reduceIte, nLT, nLE, nEQ, nAdd, nMul, nPow, nSub, zLT, zLE, zNat, RMac3114, e0, e6, hge, hget]
        refine hK _ _ ?_
        clear hK
        simp only [thenQ]
        refine hgo _ c hg ?_ ?_ ?_ ?_ ?_
        · simp only [upd, e0, nEQ, ↓reduceIte]
        · simp only [upd, e1, nEQ, ↓reduceIte]
        · simp only [upd, e6, nEQ, ↓reduceIte]
        · simp only [upd, nEQ, ↓reduceIte]
        · simp only [upd, ↓reduceIte]
          rfl
      · have hg := hg2 hik hi' hk
        refine awp_reg_seq ?_
        intro K hK
        simp only [↓DN, UP, DF, qSh, qCv, qIA, qIx, qSl, qBu, qCe, qOn, reduceCtorEq, ↓reduceIte, nLT, nLE, nEQ, nAdd, nMul, nPow, nSub, zLT, zLE, zNat, RMac3114, e0, e6, bs_size, decide_eq_false (show ¬ (i : Int) < (key.length : Int) by omega)]
        refine hK _ _ ?_
        clear hK K
        refine awp_cond_k ?_
        intro X Y hX hY
        simp only [↓DN, UP, DF, qSh, qCv, qIA, qIx, qSl, qBu, qCe, qOn, reduceCtorEq, ↓reduceIte, nLT, nLE, nEQ, nAdd, nMul, nPow, nSub, zLT, zLE, zNat, RMac3114, DB]
        refine hY ?_
        clear hX hY X Y
        refine awp_skip ?_
        simp only [thenQ]
        refine hgo _ 0 hg ?_ ?_ ?_ ?_ ?_
        · simp only [upd, e0, nEQ, ↓reduceIte]
        · simp only [upd, e1, nEQ, ↓reduceIte]
        · simp only [upd, e6, nEQ, ↓reduceIte]
        · simp only [upd, nEQ, ↓reduceIte]
        · simp only [upd, nEQ, ↓reduceIte]
          rfl
    · have hlt : ¬ (i : Int) < 64 := by omega
      obtain rfl : i = 64 := by omega
      refine awp_reg_seq ?_
      intro K hK
      simp only [↓DN, UP, DF, qSh, qCv, qIA, qIx, qSl, qBu, qCe, qOn, reduceCtorEq, ↓reduceIte, nLT, nLE, nEQ, nAdd, nMul, nPow, nSub, zLT, zLE, zNat, RMac3114, e6, decide_eq_false hlt]
      refine hK _ _ ?_
      clear hK K
      refine awp_cond_k ?_
      intro X Y hX hY
      simp only [↓DN, UP, DF, qSh, qCv, qIA, qIx, qSl, qBu, qCe, qOn, reduceCtorEq, ↓reduceIte, nLT, nLE, nEQ, nAdd, nMul, nPow, nSub, zLT, zLE, zNat, RMac3114, DB]
      refine hY ?_
      clear hX hY X Y
      refine awp_exit ?_
      simp only [thenQ, blockQ, if_true]
      clear hK2 K2
      refine hK _ _ ?_
      clear hK K
      rw [List.take_of_length_le (by omega)] at hout
      have htl : (Mac.turn x (Mac.fill key)).length = 64 := by rw [Mac.turn_len, hfl]
      have hle := hout.1
      obtain ⟨t, g, e5⟩ := outS_own hout (by rw [← List.length_pos_iff, htl]; decide)
      refine awp_reg_seq ?_
      intro K hK
      simp only [↓DN, UP, DF, qSh, qCv, qIA, qIx, qSl, qBu, qCe, qOn, reduceCtorEq, ↓reduceIte, nLT, nLE, nEQ, nAdd, nMul, nPow, nSub, zLT, zLE, zNat, RMac3114, e5]
      refine hK _ _ ?_
      clear hK K
      refine awp_ret ?_
      simp only [retQ, AEnds, aresL, ares, List.toList_toArray, ↓upd_same]; try simp only [↓DN, UP, DF, qSh, qCv, qIA, qIx, qSl, qBu, qCe, qOn, reduceCtorEq, ↓reduceIte, nLT, nLE, nEQ, nAdd, nMul, nPow, nSub, zLT, zLE, zNat, RMac3114, DT]
      exact ⟨_, _, AV.weak.refl _, hle, rfl, rfl⟩

set_option maxHeartbeats 2000000 in
set_option maxRecDepth 100000 in
theorem refTag_calls (key l : List UInt8) (hk : key.length ≤ 2 ^ 38) (hl : l.length ≤ 2 ^ 38) (s : AS) :
    ACalls Tryd.prog Γ 94 [.v (.string ⟨key.toArray⟩), .v (.string ⟨l.toArray⟩)] s (fun r s' => r = .v (.string ⟨(Mac.tag key l).toArray⟩) ∧ s' = s) := by
  refine acalls_body Tryd.func94 rfl Tryd.ntmps94 Tryd.results94 (by simp) ?_
  refine awp_reg_seq ?_
  intro K hK
  simp only [↓DN, UP, DF, qSh, qCv, qIA, qIx, qSl, qBu, qCe, qOn, reduceCtorEq, ↓reduceIte, nLT, nLE, nEQ, nAdd, nMul, nPow, nSub, zLT, zLE, zNat, RMac394]
  refine hK _ _ ?_
  clear hK K
  refine awp_seq_k ?_
  intro K hK
  have hgo : ∀ (E1 : Env), E1 0 = .v (.string ⟨(Mac.key key).toArray⟩) → E1 1 = .v (.string ⟨l.toArray⟩) → K E1 s := by
    intro E1 e0 e1
    refine hK _ _ ?_
    clear hK K
    have hkl := Mac.key_le key
    have hin : Sha.sum (Mac.turn 54 (Mac.fill (Mac.key key)) ++ l) = Mac.inner key l := rfl
    have htag : Sha.sum (Mac.turn 92 (Mac.fill (Mac.key key)) ++ Mac.inner key l) = Mac.tag key l := rfl
    have hfl := Mac.fill_len _ hkl
    have hil := Mac.inner_len key l
    have tl1 : (Mac.turn 54 (Mac.fill (Mac.key key))).length = 64 := by rw [Mac.turn_len, hfl]
    have tl2 : (Mac.turn 92 (Mac.fill (Mac.key key))).length = 64 := by rw [Mac.turn_len, hfl]
    generalize hkk : Mac.key key = kk at *
    refine awp_reg_seq ?_
    intro K hK
    simp only [↓DN, UP, DF, qSh, qCv, qIA, qIx, qSl, qBu, qCe, qOn, reduceCtorEq, ↓reduceIte, nLT, nLE, nEQ, nAdd, nMul, nPow, nSub, zLT, zLE, zNat, RMac394, e0]
    refine acallk (refWith03_calls kk hkl 92 s) ?_
    rintro r s1 ⟨rfl, rfl⟩
    simp only [↓AXq_nil, ↓AXq_cons, pval, DX, Nat.reduceBEq, ↓DN, UP, DF, qSh, qCv, qIA, qIx, qSl, qBu, qCe, qOn, reduceCtorEq, ↓reduceIte, nLT, nLE, nEQ, nAdd, nMul, nPow, nSub, zLT, zLE, zNat, RMac394, e0]
    refine acallk (refWith03_calls kk hkl 54 s1) ?_
    rintro r s2 ⟨rfl, rfl⟩
    simp only [↓AXq_nil, ↓AXq_cons, pval, DX, Nat.reduceBEq, ↓DN, UP, DF, qSh, qCv, qIA, qIx, qSl, qBu, qCe, qOn, reduceCtorEq, ↓reduceIte, nLT, nLE, nEQ, nAdd, nMul, nPow, nSub, zLT, zLE, zNat, RMac394, e1, i64_room (show (Mac.turn 54 (Mac.fill kk)).length + l.length < 2 ^ 62 by omega)]
    refine acallk (refSum_calls (Mac.turn 54 (Mac.fill kk) ++ l) (by rw [List.length_append, tl1]; omega) s2) ?_
    rintro r s3 ⟨rfl, rfl⟩
    rw [hin]
    simp only [↓AXq_nil, ↓AXq_cons, pval, DX, Nat.reduceBEq, ↓DN, UP, DF, qSh, qCv, qIA, qIx, qSl, qBu, qCe, qOn, reduceCtorEq, ↓reduceIte, nLT, nLE, nEQ, nAdd, nMul, nPow, nSub, zLT, zLE, zNat, RMac394, i64_room (show (Mac.turn 92 (Mac.fill kk)).length + (Mac.inner key l).length < 2 ^ 62 by omega)]
    refine acallk (refSum_calls (Mac.turn 92 (Mac.fill kk) ++ Mac.inner key l) (by rw [List.length_append, tl2, hil]; decide) s3) ?_
    rintro r s4 ⟨rfl, rfl⟩
    rw [htag]
    simp only [↓AXq_nil, ↓AXq_cons, pval, DX, Nat.reduceBEq, ↓DN, UP, DF, qSh, qCv, qIA, qIx, qSl, qBu, qCe, qOn, reduceCtorEq, ↓reduceIte, nLT, nLE, nEQ, nAdd, nMul, nPow, nSub, zLT, zLE, zNat, RMac394]
    refine hK _ _ ?_
    clear hK K
    refine awp_ret ?_
    simp only [retQ, AEnds, aresL, ares, List.toList_toArray, ↓upd_same]; try simp only [↓DN, UP, DF, qSh, qCv, qIA, qIx, qSl, qBu, qCe, qOn, reduceCtorEq, ↓reduceIte, nLT, nLE, nEQ, nAdd, nMul, nPow, nSub, zLT, zLE, zNat, RMac394, DT]
    exact ⟨_, _, AV.weak.refl _, AS.le.refl _, rfl, rfl⟩
  by_cases hlong : 64 < key.length
  · have hkey : Mac.key key = Sha.sum key := by rw [Mac.key, if_pos hlong]
    rw [hkey] at hgo
    refine awp_reg_seq ?_
    intro K hK
    simp only [↓DN, UP, DF, qSh, qCv, qIA, qIx, qSl, qBu, qCe, qOn, reduceCtorEq, ↓reduceIte, nLT, nLE, nEQ, nAdd, nMul, nPow, nSub, zLT, zLE, zNat, RMac394, decide_eq_true (show (64 : Int) < (key.length : Int) by omega)]
    refine hK _ _ ?_
    clear hK K
    refine awp_cond_k ?_
    intro X Y hX hY
    simp only [↓DN, UP, DF, qSh, qCv, qIA, qIx, qSl, qBu, qCe, qOn, reduceCtorEq, ↓reduceIte, nLT, nLE, nEQ, nAdd, nMul, nPow, nSub, zLT, zLE, zNat, RMac394, DB]
    refine hX ?_
    clear hX hY X Y
    refine awp_reg_end ?_
    intro K hK
    simp only [↓DN, UP, DF, qSh, qCv, qIA, qIx, qSl, qBu, qCe, qOn, reduceCtorEq, ↓reduceIte, nLT, nLE, nEQ, nAdd, nMul, nPow, nSub, zLT, zLE, zNat, RMac394]
    refine acallk (refSum_calls key (by omega) s) ?_
    rintro r s1 ⟨rfl, rfl⟩
    simp only [↓AXq_nil, ↓AXq_cons, pval, DX, Nat.reduceBEq, ↓DN, UP, DF, qSh, qCv, qIA, qIx, qSl, qBu, qCe, qOn, reduceCtorEq, ↓reduceIte, nLT, nLE, nEQ, nAdd, nMul, nPow, nSub, zLT, zLE, zNat, RMac394]
    refine hK _ _ ?_
    clear hK K
    simp only [thenQ]
    refine hgo _ ?_ ?_
    · simp only [upd, ↓reduceIte]
    · simp only [upd, initE, nEQ, ↓reduceIte, List.getD_cons_succ, List.getD_cons_zero]
  · have hkey : Mac.key key = key := by rw [Mac.key, if_neg hlong]
    rw [hkey] at hgo
    refine awp_reg_seq ?_
    intro K hK
    simp only [↓DN, UP, DF, qSh, qCv, qIA, qIx, qSl, qBu, qCe, qOn, reduceCtorEq, ↓reduceIte, nLT, nLE, nEQ, nAdd, nMul, nPow, nSub, zLT, zLE, zNat, RMac394, decide_eq_false (show ¬ (64 : Int) < (key.length : Int) by omega)]
    refine hK _ _ ?_
    clear hK K
    refine awp_cond_k ?_
    intro X Y hX hY
    simp only [↓DN, UP, DF, qSh, qCv, qIA, qIx, qSl, qBu, qCe, qOn, reduceCtorEq, ↓reduceIte, nLT, nLE, nEQ, nAdd, nMul, nPow, nSub, zLT, zLE, zNat, RMac394, DB]
    refine hY ?_
    clear hX hY X Y
    refine awp_skip ?_
    simp only [thenQ]
    refine hgo _ ?_ ?_
    · simp only [upd, initE, nEQ, ↓reduceIte, List.getD_cons_succ, List.getD_cons_zero]
    · simp only [upd, initE, nEQ, ↓reduceIte, List.getD_cons_succ, List.getD_cons_zero]

end Go.Proofs.YtooeklnbdgoneaaDoor


set_option autoImplicit false
namespace Go.Proofs.YtooeklnbdgoneaaDoor
open Go Go.AM Go.Proofs

variable {Γ : Nat → List AV}



def nothing : List UInt8 := [119, 104, 97, 116, 32, 100, 111, 32, 121, 97, 32, 119, 97, 110, 116, 32, 102, 111, 114, 32, 110, 111, 116, 104, 105, 110, 103, 63]
theorem partsB_two (a b : List UInt8) : PartsB [a, b] = [bytesV a .any, bytesV b .any] := rfl

end Go.Proofs.YtooeklnbdgoneaaDoor


set_option autoImplicit false
namespace Go.Proofs.YtooeklnbdgoneaaDoor
open Go Go.AM Go.Proofs

theorem RMac588 : type_of% (And.intro (And.intro (And.intro (And.intro (And.intro @Tryd.underlying3 T.c3) (And.intro T.g3 T.b3)) (And.intro (And.intro T.z3 @Tryd.underlying5) (And.intro T.c5 T.g5))) (And.intro (And.intro (And.intro T.b5 T.z5) (And.intro @Tryd.underlying22 T.c22)) (And.intro (And.intro T.g22 T.b22) (And.intro T.z22 T.s22)))) Tryd.ntmps88) :=
  (And.intro (And.intro (And.intro (And.intro (And.intro @Tryd.underlying3 T.c3) (And.intro T.g3 T.b3)) (And.intro (And.intro T.z3 @Tryd.underlying5) (And.intro T.c5 T.g5))) (And.intro (And.intro (And.intro T.b5 T.z5) (And.intro @Tryd.underlying22 T.c22)) (And.intro (And.intro T.g22 T.b22) (And.intro T.z22 T.s22)))) Tryd.ntmps88)

variable {Γ : Nat → List AV}



theorem or_xor_zero (c x y : UInt8) : c ||| (x ^^^ y) = 0 ↔ c = 0 ∧ x = y := by
  rw [UInt8.or_eq_zero_iff, UInt8.xor_eq_zero_iff]
theorem byte_or (a b : UInt8) : ior .u8 (a.toNat : Int) (b.toNat : Int) = (((a ||| b).toNat : Nat) : Int) := by
  rw [ior_u (k := .u8) rfl a.toNat b.toNat (by simpa [IntKind.bits] using a.toNat_lt) (by simpa [IntKind.bits] using b.toNat_lt), UInt8.toNat_or]
theorem byte_zero (c : UInt8) : (((c.toNat : Nat) : Int) == 0) = decide (c = 0) := by
  rw [Bool.eq_iff_iff, beq_iff_eq, decide_eq_true_iff, ← UInt8.toNat_inj]
  simp
theorem take_same (a b : List UInt8) (i : Nat) (ha : i < a.length) (hb : i < b.length) : a.take (i + 1) = b.take (i + 1) ↔ a.take i = b.take i ∧ a.getD i 0 = b.getD i 0 := by
  rw [List.take_succ_eq_append_getElem ha, List.take_succ_eq_append_getElem hb]
  have e1 : (a.take i).length = (b.take i).length := by simp; omega
  constructor
  · intro h
    have := List.append_inj h e1
    refine ⟨this.1, ?_⟩
    simp only [List.getD_eq_getElem?_getD, List.getElem?_eq_getElem ha, List.getElem?_eq_getElem hb, Option.getD_some]
    simpa using this.2
  · rintro ⟨h1, h2⟩
    simp only [List.getD_eq_getElem?_getD, List.getElem?_eq_getElem ha, List.getElem?_eq_getElem hb, Option.getD_some] at h2
    rw [h1, h2]

set_option maxHeartbeats 2000000 in
theorem same_calls (a b : List UInt8) (ha : a.length ≤ 2 ^ 40) (s : AS) :
    ACalls Tryd.prog Γ 88 [bytesV a .any, bytesV b .any] s (fun r s' => r = .v (.bool (decide (a = b))) ∧ s' = s) := by
  refine acalls_body Tryd.func88 rfl Tryd.ntmps88 Tryd.results88 (by simp) ?_
  refine awp_reg_seq ?_
  intro K hK
  simp only [↓DN, UP, DF, qSh, qCv, qIA, qIx, qSl, qBu, qCe, qOn, reduceCtorEq, ↓reduceIte, nLT, nLE, nEQ, nAdd, nMul, nPow, nSub, zLT, zLE, zNat, RMac588]
  refine hK _ _ ?_
  clear hK K
  refine awp_seq_k ?_
  intro K hK
  by_cases hne : a.length = b.length
  · refine awp_reg_seq ?_
    intro K hK
    simp only [↓DN, UP, DF, qSh, qCv, qIA, qIx, qSl, qBu, qCe, qOn, reduceCtorEq, ↓reduceIte, nLT, nLE, nEQ, nAdd, nMul, nPow, nSub, zLT, zLE, zNat, RMac588, show ((a.length : Int) != (b.length : Int)) = false from by rw [hne]; simp]
    refine hK _ _ ?_
    clear hK K
    refine awp_cond_k ?_
    intro X Y hX hY
    simp only [↓DN, UP, DF, qSh, qCv, qIA, qIx, qSl, qBu, qCe, qOn, reduceCtorEq, ↓reduceIte, nLT, nLE, nEQ, nAdd, nMul, nPow, nSub, zLT, zLE, zNat, RMac588, DB]
    refine hY ?_
    clear hX hY X Y
    refine awp_skip ?_
    refine hK _ _ ?_
    clear hK K
    refine awp_reg_seq ?_
    intro K hK
    simp only [↓DN, UP, DF, qSh, qCv, qIA, qIx, qSl, qBu, qCe, qOn, reduceCtorEq, ↓reduceIte, nLT, nLE, nEQ, nAdd, nMul, nPow, nSub, zLT, zLE, zNat, RMac588]
    refine hK _ _ ?_
    clear hK K
    refine awp_seq_k ?_
    intro K hK
    refine awp_reg_seq ?_
    intro K hK
    simp only [↓DN, UP, DF, qSh, qCv, qIA, qIx, qSl, qBu, qCe, qOn, reduceCtorEq, ↓reduceIte, nLT, nLE, nEQ, nAdd, nMul, nPow, nSub, zLT, zLE, zNat, RMac588]
    refine hK _ _ ?_
    clear hK K
    refine awp_block ?_
    refine awp_loop (fun E s2 => ∃ (i : Nat) (c : UInt8), i ≤ a.length ∧ E 0 = .sl 1 a.length (a.map byteV) .any ∧ E 1 = .sl 1 b.length (b.map byteV) .any ∧ E 5 = .v (.int .u8 (c.toNat : Int)) ∧ E 13 = .v (.int .i64 a.length) ∧ E 14 = .v (.int .i64 i) ∧ (c = 0 ↔ a.take i = b.take i) ∧ s2 = s)
      (fun E _ => match E 14 with | .v (.int _ y) => a.length - y.toNat | _ => 0) ?_ ?_
    · exact ⟨0, 0, by omega, by simp only [upd, initE, nEQ, ↓reduceIte, List.getD_cons_succ, List.getD_cons_zero, bytesV], by simp only [upd, initE, nEQ, ↓reduceIte, List.getD_cons_succ, List.getD_cons_zero, bytesV], by simp only [upd, nEQ, ↓reduceIte]; rfl, by simp only [upd, nEQ, ↓reduceIte], by simp only [upd, ↓reduceIte]; rfl, by simp, rfl⟩
    · rintro E2 s2 ⟨i, c, hi, g0, g1, g5, g13, g14, hc, rfl⟩ -
      by_cases hi' : i < a.length
      · have hlt : (i : Int) < (a.length : Int) := by omega
        have hlt2 : (i : Int) < (b.length : Int) := by omega
        have hi0 : (0 : Int) ≤ (i : Int) := by omega
        have hga := bget' a i hi'
        have hgb := bget' b i (by omega)
        have hts := take_same a b i hi' (by omega)
        generalize a.getD i 0 = x at *
        generalize b.getD i 0 = y at *
        have hxor := Mac.byte_xor x y
        have hor := byte_or c (x ^^^ y)
        have hz := or_xor_zero c x y
        refine awp_reg_seq ?_
        intro K hK
        simp only [↓DN, UP, DF, qSh, qCv, qIA, qIx, qSl, qBu, qCe, qOn, reduceCtorEq, ↓reduceIte, nLT, nLE, nEQ, nAdd, nMul, nPow, nSub, zLT, zLE, zNat, RMac588, g13, g14, decide_eq_true hlt]
        refine hK _ _ ?_
        clear hK K
        refine awp_seq_k ?_
        intro K2 hK2
        refine awp_cond_k ?_
        intro X Y hX hY
        simp only [↓DN, UP, DF, qSh, qCv, qIA, qIx, qSl, qBu, qCe, qOn, reduceCtorEq, ↓reduceIte, nLT, nLE, nEQ, nAdd, nMul, nPow, nSub, zLT, zLE, zNat, RMac588, DB]
        refine hX ?_
        clear hX hY X Y
        refine awp_skip ?_
        refine hK2 _ _ ?_
        clear hK2 K2
        refine awp_seq_k ?_
        intro K3 hK3
        refine awp_block ?_
        refine awp_reg_seq ?_
        intro K hK
        simp only [↓DN, UP, DF, qSh, qCv, qIA, qIx, qSl, qBu, qCe, qOn, reduceCtorEq, ↓reduceIte, nLT, nLE, nEQ, nAdd, nMul, nPow, nSub, zLT, zLE, zNat, RMac588, g14]
        refine hK _ _ ?_
        clear hK K
        refine awp_drw_end T.mixed [] (by kernel_rfl) ?_
        intro K hK
        simp only [↓AXq_nil, ↓AXq_cons, pval, DX, Nat.reduceBEq, ↓DN, UP, DF, qSh, qCv, qIA, qIx, qSl, qBu, qCe, qOn, reduceCtorEq, ↓reduceIte, nLT, nLE, nEQ, nAdd, nMul, nPow, nSub, zLT, zLE, zNat, RMac588, g0, g1, g5, hi0, hlt, hlt2, hga, hgb, hxor, hor]
        refine hK _ _ ?_
        clear hK K
        simp only [thenQ, blockQ, if_true, if_false]
        refine hK3 _ _ ?_
        clear hK3 K3
        refine awp_reg_end ?_
        intro K hK
        simp only [↓DN, UP, DF, qSh, qCv, qIA, qIx, qSl, qBu, qCe, qOn, reduceCtorEq, ↓reduceIte, nLT, nLE, nEQ, nAdd, nMul, nPow, nSub, zLT, zLE, zNat, RMac588, g14, w_succ i (by omega)]
        refine hK _ _ ?_
        clear hK K
        refine ⟨⟨i + 1, c ||| (x ^^^ y), by omega, by simp only [upd, g0, nEQ, ↓reduceIte], by simp only [upd, g1, nEQ, ↓reduceIte], by simp only [upd, nEQ, ↓reduceIte], by simp only [upd, g13, nEQ, ↓reduceIte], by simp only [upd, ↓reduceIte], ?_, rfl⟩, ?_⟩
        · rw [hz, hc, hts]
        · simp only [g14, upd, ↓reduceIte]
          omega
      · have hlt : ¬ (i : Int) < (a.length : Int) := by omega
        obtain rfl : i = a.length := by omega
        refine awp_reg_seq ?_
        intro K hK
        simp only [↓DN, UP, DF, qSh, qCv, qIA, qIx, qSl, qBu, qCe, qOn, reduceCtorEq, ↓reduceIte, nLT, nLE, nEQ, nAdd, nMul, nPow, nSub, zLT, zLE, zNat, RMac588, g13, g14, decide_eq_false hlt]
        refine hK _ _ ?_
        clear hK K
        refine awp_seq_k ?_
        intro K2 hK2
        refine awp_cond_k ?_
        intro X Y hX hY
        simp only [↓DN, UP, DF, qSh, qCv, qIA, qIx, qSl, qBu, qCe, qOn, reduceCtorEq, ↓reduceIte, nLT, nLE, nEQ, nAdd, nMul, nPow, nSub, zLT, zLE, zNat, RMac588, DB]
        refine hY ?_
        clear hX hY X Y
        refine awp_exit ?_
        simp only [thenQ, blockQ, if_true]
        clear hK2 K2
        refine hK _ _ ?_
        clear hK K
        rw [List.take_length, hne, List.take_length] at hc
        have hr : (((c.toNat : Nat) : Int) == 0) = decide (a = b) := by
          rw [byte_zero]
          exact decide_eq_decide.2 hc
        refine awp_reg_seq ?_
        intro K hK
        simp only [↓DN, UP, DF, qSh, qCv, qIA, qIx, qSl, qBu, qCe, qOn, reduceCtorEq, ↓reduceIte, nLT, nLE, nEQ, nAdd, nMul, nPow, nSub, zLT, zLE, zNat, RMac588, g5, hr]
        refine hK _ _ ?_
        clear hK K
        refine awp_ret ?_
        simp only [retQ, AEnds, aresL, ares, List.toList_toArray, ↓upd_same]; try simp only [↓DN, UP, DF, qSh, qCv, qIA, qIx, qSl, qBu, qCe, qOn, reduceCtorEq, ↓reduceIte, nLT, nLE, nEQ, nAdd, nMul, nPow, nSub, zLT, zLE, zNat, RMac588, DT]
        exact ⟨_, _, AV.weak.refl _, AS.le.refl _, rfl, rfl⟩
  · refine awp_reg_seq ?_
    intro K hK
    simp only [↓DN, UP, DF, qSh, qCv, qIA, qIx, qSl, qBu, qCe, qOn, reduceCtorEq, ↓reduceIte, nLT, nLE, nEQ, nAdd, nMul, nPow, nSub, zLT, zLE, zNat, RMac588, show ((a.length : Int) != (b.length : Int)) = true from by rw [bne_iff_ne]; omega]
    refine hK _ _ ?_
    clear hK K
    refine awp_cond_k ?_
    intro X Y hX hY
    simp only [↓DN, UP, DF, qSh, qCv, qIA, qIx, qSl, qBu, qCe, qOn, reduceCtorEq, ↓reduceIte, nLT, nLE, nEQ, nAdd, nMul, nPow, nSub, zLT, zLE, zNat, RMac588, DB]
    refine hX ?_
    clear hX hY X Y
    refine awp_reg_seq ?_
    intro K hK
    simp only [↓DN, UP, DF, qSh, qCv, qIA, qIx, qSl, qBu, qCe, qOn, reduceCtorEq, ↓reduceIte, nLT, nLE, nEQ, nAdd, nMul, nPow, nSub, zLT, zLE, zNat, RMac588]
    refine hK _ _ ?_
    clear hK K
    refine awp_ret ?_
    simp only [retQ, AEnds, aresL, ares, List.toList_toArray, ↓upd_same]; try simp only [↓DN, UP, DF, qSh, qCv, qIA, qIx, qSl, qBu, qCe, qOn, reduceCtorEq, ↓reduceIte, nLT, nLE, nEQ, nAdd, nMul, nPow, nSub, zLT, zLE, zNat, RMac588, DT]
    exact ⟨.v (.bool false), _, AV.weak.refl _, AS.le.refl _, by rw [decide_eq_false (fun e => hne (by rw [e]))], rfl⟩

end Go.Proofs.YtooeklnbdgoneaaDoor


set_option autoImplicit false
namespace Go.AM

/-! ### Expanding, in plain Lean -/
namespace Kdf
variable (secret info : List UInt8)
def blk : Nat → List UInt8
  | 0 => []
  | i + 1 => Mac.tag secret (blk i ++ info ++ [UInt8.ofNat (i + 1)])
def row : Nat → List UInt8
  | 0 => []
  | i + 1 => row i ++ blk secret info (i + 1)
theorem blk_len (i : Nat) : (blk secret info (i + 1)).length = 32 := Mac.tag_len _ _
theorem row_len : ∀ i : Nat, (row secret info i).length = 32 * i
  | 0 => rfl
  | i + 1 => by rw [row, List.length_append, row_len i, blk_len]; omega
def rounds (n : Nat) : Nat := (n + 31) / 32
def expand (n : Nat) : List UInt8 := (row secret info (rounds n)).take n
theorem rounds_le (n : Nat) : n ≤ 32 * rounds n := by unfold rounds; omega
theorem expand_len (n : Nat) : (expand secret info n).length = n := by
  rw [expand, List.length_take, row_len]
  have := rounds_le n
  omega
/-- A round is due. -/
theorem due (n i : Nat) : 32 * i < n ↔ i < rounds n := by unfold rounds; omega
def ok (n : Int) : Bool := decide (0 ≤ n) && decide (n ≤ 8160)
def get (n : Int) : List UInt8 := if ok n = true then expand secret info n.toNat else []
end Kdf
end Go.AM


set_option autoImplicit false
namespace Go.Proofs.YtooeklnbdgoneaaDoor
open Go Go.AM Go.Proofs

theorem RKdf192 : type_of% (And.intro (And.intro (And.intro (And.intro (And.intro @Tryd.underlying5 T.c5) (And.intro T.g5 T.b5)) (And.intro (And.intro T.z5 @Tryd.underlying22) (And.intro T.c22 (And.intro T.g22 T.b22)))) (And.intro (And.intro (And.intro T.z22 T.s22) (And.intro @Tryd.underlying77 T.c77)) (And.intro (And.intro T.g77 T.b77) (And.intro T.z77 (And.intro T.s77 T.k12))))) Tryd.ntmps92) :=
  (And.intro (And.intro (And.intro (And.intro (And.intro @Tryd.underlying5 T.c5) (And.intro T.g5 T.b5)) (And.intro (And.intro T.z5 @Tryd.underlying22) (And.intro T.c22 (And.intro T.g22 T.b22)))) (And.intro (And.intro (And.intro T.z22 T.s22) (And.intro @Tryd.underlying77 T.c77)) (And.intro (And.intro T.g77 T.b77) (And.intro T.z77 (And.intro T.s77 T.k12))))) Tryd.ntmps92)
theorem RKdf1103 : type_of% (And.intro (And.intro (And.intro (And.intro (And.intro @Tryd.underlying3 T.c3) (And.intro T.g3 (And.intro T.b3 T.z3))) (And.intro (And.intro @Tryd.underlying5 (And.intro T.c5 T.g5)) (And.intro T.b5 (And.intro T.z5 @Tryd.underlying22)))) (And.intro (And.intro (And.intro T.c22 (And.intro T.g22 T.b22)) (And.intro T.z22 (And.intro T.s22 @Tryd.underlying77))) (And.intro (And.intro T.c77 (And.intro T.g77 T.b77)) (And.intro T.z77 (And.intro T.s77 T.k12))))) Tryd.ntmps103) :=
  (And.intro (And.intro (And.intro (And.intro (And.intro @Tryd.underlying3 T.c3) (And.intro T.g3 (And.intro T.b3 T.z3))) (And.intro (And.intro @Tryd.underlying5 (And.intro T.c5 T.g5)) (And.intro T.b5 (And.intro T.z5 @Tryd.underlying22)))) (And.intro (And.intro (And.intro T.c22 (And.intro T.g22 T.b22)) (And.intro T.z22 (And.intro T.s22 @Tryd.underlying77))) (And.intro (And.intro T.c77 (And.intro T.g77 T.b77)) (And.intro T.z77 (And.intro T.s77 T.k12))))) Tryd.ntmps103)

variable {Γ : Nat → List AV}

theorem extract_calls (hG0 : Γ 0 = stC Sha.H0) (hG : Γ 1 = Sha.K.map wV) (salt l : List UInt8) (hk : salt.length ≤ 2 ^ 38) (hl : l.length ≤ 2 ^ 38) (s : AS) :
    ACalls Tryd.prog Γ 92 [bytesV salt .any, bytesV l .any] s (fun r s' => OutS s (Mac.tag salt l) r s') := by
  refine acalls_body Tryd.func92 rfl Tryd.ntmps92 Tryd.results92 (by simp) ?_
  refine awp_reg_seq ?_
  intro K hK
  simp only [↓DN, UP, DF, qSh, qCv, qIA, qIx, qSl, qBu, qCe, qOn, reduceCtorEq, ↓reduceIte, nLT, nLE, nEQ, nAdd, nMul, nPow, nSub, zLT, zLE, zNat, RKdf192]
  refine hK _ _ ?_
  clear hK K
  refine awp_reg_seq ?_
  intro K hK
  simp only [↓DN, UP, DF, qSh, qCv, qIA, qIx, qSl, qBu, qCe, qOn, reduceCtorEq, ↓reduceIte, nLT, nLE, nEQ, nAdd, nMul, nPow, nSub, zLT, zLE, zNat, RKdf192, List.replicate_one]
  have hm := macTag_calls (Γ := Γ) hG0 hG salt [l] .new hk (by simp) (by simpa using hl) s
  rw [show [l].flatten = l from by simp] at hm
  refine acallk hm ?_
  intro r s1 hout
  simp only [↓AXq_nil, ↓AXq_cons, pval, DX, Nat.reduceBEq, ↓DN, UP, DF, qSh, qCv, qIA, qIx, qSl, qBu, qCe, qOn, reduceCtorEq, ↓reduceIte, nLT, nLE, nEQ, nAdd, nMul, nPow, nSub, zLT, zLE, zNat, RKdf192]
  refine hK _ _ ?_
  clear hK K
  refine awp_ret ?_
  simp only [retQ, AEnds, aresL, ares, List.toList_toArray, ↓upd_same]; try simp only [↓DN, UP, DF, qSh, qCv, qIA, qIx, qSl, qBu, qCe, qOn, reduceCtorEq, ↓reduceIte, nLT, nLE, nEQ, nAdd, nMul, nPow, nSub, zLT, zLE, zNat, RKdf192, DT]
  exact ⟨_, _, AV.weak.refl _, AS.le.refl _, hout⟩

theorem _root_.Go.AM.OutS.later {s s1 s2 : AS} {l : List UInt8} {r : AV} (h : OutS s l r s1) (hle : s1.le s2) : OutS s l r s2 := by
  refine ⟨AS.le.trans h.1 hle, ?_⟩
  rcases h.2 with h | ⟨t, e, h1, h2, h3⟩
  · exact .inl h
  · exact .inr ⟨t, e, h1, hle.own t e h2, h3⟩

/-- The last block: none, or a slice of one's own. -/
def LastS (l : List UInt8) (r : AV) : Prop := (l = [] ∧ r = .v (.slice none 0 0)) ∨ ∃ t e, r = .sl 1 l.length (l.map byteV) (.own t e)
theorem LastS.weak {l : List UInt8} {r : AV} (h : LastS l r) : r.weak (bytesV l .any) := by
  rcases h with ⟨rfl, rfl⟩ | ⟨t, e, rfl⟩
  · exact AV.weak_nil
  · exact AV.weak_any
theorem LastS.of {s s' : AS} {l : List UInt8} {r : AV} (h : OutS s l r s') : LastS l r := by
  rcases h.2 with ⟨h1, h2⟩ | ⟨t, e, _, _, h3⟩
  · exact .inl ⟨h1, h2⟩
  · exact .inr ⟨t, e, h3⟩
theorem LastS.cells {l : List UInt8} {r : AV} (h : LastS l r) : r.cells = [r] := by
  rcases h with ⟨_, rfl⟩ | ⟨t, e, rfl⟩ <;> rfl

theorem u8_succ (c : UInt8) : iadd .u8 (c.toNat : Int) 1 = (((c + 1).toNat : Nat) : Int) := by
  rw [show (1 : Int) = ((1 : Nat) : Int) from rfl, iadd_u (k := .u8) rfl]
  simp [IntKind.bits, UInt8.toNat_add]

set_option maxHeartbeats 2000000 in
set_option maxRecDepth 100000 in
theorem expand_calls (hG0 : Γ 0 = stC Sha.H0) (hG : Γ 1 = Sha.K.map wV) (secret info : List UInt8) (hk : secret.length ≤ 2 ^ 37) (hi : info.length ≤ 2 ^ 37) (n : Int) (s : AS) :
    ACalls Tryd.prog Γ 103 [bytesV secret .any, bytesV info .any, .v (.int .i64 n)] s (fun r s' => r = .tup [bytesV (Kdf.get secret info n) .any, .v (.bool (Kdf.ok n))] ∧ s' = s) := by
  refine acalls_body Tryd.func103 rfl Tryd.ntmps103 Tryd.results103 (by simp) ?_
  refine awp_reg_seq ?_
  intro K hK
  simp only [↓DN, UP, DF, qSh, qCv, qIA, qIx, qSl, qBu, qCe, qOn, reduceCtorEq, ↓reduceIte, nLT, nLE, nEQ, nAdd, nMul, nPow, nSub, zLT, zLE, zNat, RKdf1103]
  refine hK _ _ ?_
  clear hK K
  refine awp_seq_k ?_
  intro K hK
  by_cases h0 : n < 0
  · have hok : Kdf.ok n = false := by simp [Kdf.ok]; omega
    refine awp_reg_seq ?_
    intro K hK
    simp only [↓DN, UP, DF, qSh, qCv, qIA, qIx, qSl, qBu, qCe, qOn, reduceCtorEq, ↓reduceIte, nLT, nLE, nEQ, nAdd, nMul, nPow, nSub, zLT, zLE, zNat, RKdf1103, decide_eq_true h0]
    refine hK _ _ ?_
    clear hK K
    refine awp_cond_k ?_
    intro X Y hX hY
    simp only [↓DN, UP, DF, qSh, qCv, qIA, qIx, qSl, qBu, qCe, qOn, reduceCtorEq, ↓reduceIte, nLT, nLE, nEQ, nAdd, nMul, nPow, nSub, zLT, zLE, zNat, RKdf1103, DB]
    refine hX ?_
    clear hX hY X Y
    refine awp_reg_seq ?_
    intro K hK
    simp only [↓DN, UP, DF, qSh, qCv, qIA, qIx, qSl, qBu, qCe, qOn, reduceCtorEq, ↓reduceIte, nLT, nLE, nEQ, nAdd, nMul, nPow, nSub, zLT, zLE, zNat, RKdf1103]
    refine hK _ _ ?_
    clear hK K
    refine awp_ret ?_
    simp only [retQ, AEnds, aresL, ares, List.toList_toArray, ↓upd_same]; try simp only [↓DN, UP, DF, qSh, qCv, qIA, qIx, qSl, qBu, qCe, qOn, reduceCtorEq, ↓reduceIte, nLT, nLE, nEQ, nAdd, nMul, nPow, nSub, zLT, zLE, zNat, RKdf1103, DT]
    exact ⟨_, _, AV.weak_tup2 AV.weak_nil (AV.weak.refl _), AS.le.refl _, by rw [Kdf.get, hok]; rfl, rfl⟩
  by_cases h1 : 8160 < n
  · have hok : Kdf.ok n = false := by simp [Kdf.ok]; omega
    refine awp_reg_seq ?_
    intro K hK
    simp only [↓DN, UP, DF, qSh, qCv, qIA, qIx, qSl, qBu, qCe, qOn, reduceCtorEq, ↓reduceIte, nLT, nLE, nEQ, nAdd, nMul, nPow, nSub, zLT, zLE, zNat, RKdf1103, decide_eq_false h0, decide_eq_true h1]
    refine hK _ _ ?_
    clear hK K
    refine awp_cond_k ?_
    intro X Y hX hY
    simp only [↓DN, UP, DF, qSh, qCv, qIA, qIx, qSl, qBu, qCe, qOn, reduceCtorEq, ↓reduceIte, nLT, nLE, nEQ, nAdd, nMul, nPow, nSub, zLT, zLE, zNat, RKdf1103, DB]
    refine hX ?_
    clear hX hY X Y
    refine awp_reg_seq ?_
    intro K hK
    simp only [↓DN, UP, DF, qSh, qCv, qIA, qIx, qSl, qBu, qCe, qOn, reduceCtorEq, ↓reduceIte, nLT, nLE, nEQ, nAdd, nMul, nPow, nSub, zLT, zLE, zNat, RKdf1103]
    refine hK _ _ ?_
    clear hK K
    refine awp_ret ?_
    simp only [retQ, AEnds, aresL, ares, List.toList_toArray, ↓upd_same]; try simp only [↓DN, UP, DF, qSh, qCv, qIA, qIx, qSl, qBu, qCe, qOn, reduceCtorEq, ↓reduceIte, nLT, nLE, nEQ, nAdd, nMul, nPow, nSub, zLT, zLE, zNat, RKdf1103, DT]
    exact ⟨_, _, AV.weak_tup2 AV.weak_nil (AV.weak.refl _), AS.le.refl _, by rw [Kdf.get, hok]; rfl, rfl⟩
  · have hok : Kdf.ok n = true := by simp [Kdf.ok]; omega
    obtain ⟨m, rfl⟩ : ∃ m : Nat, n = (m : Int) := ⟨n.toNat, by omega⟩
    have hm : m ≤ 8160 := by omega
    have hget : Kdf.get secret info (m : Int) = Kdf.expand secret info m := by rw [Kdf.get, hok]; rfl
    rw [hok, hget]
    refine awp_reg_seq ?_
    intro K hK
    simp only [↓DN, UP, DF, qSh, qCv, qIA, qIx, qSl, qBu, qCe, qOn, reduceCtorEq, ↓reduceIte, nLT, nLE, nEQ, nAdd, nMul, nPow, nSub, zLT, zLE, zNat, RKdf1103, decide_eq_false h0, decide_eq_false h1]
    refine hK _ _ ?_
    clear hK K
    refine awp_cond_k ?_
    intro X Y hX hY
    simp only [↓DN, UP, DF, qSh, qCv, qIA, qIx, qSl, qBu, qCe, qOn, reduceCtorEq, ↓reduceIte, nLT, nLE, nEQ, nAdd, nMul, nPow, nSub, zLT, zLE, zNat, RKdf1103, DB]
    refine hY ?_
    clear hX hY X Y
    refine awp_skip ?_
    refine hK _ _ ?_
    clear hK K
    refine awp_reg_seq ?_
    intro K hK
    simp only [↓DN, UP, DF, qSh, qCv, qIA, qIx, qSl, qBu, qCe, qOn, reduceCtorEq, ↓reduceIte, nLT, nLE, nEQ, nAdd, nMul, nPow, nSub, zLT, zLE, zNat, RKdf1103]
    refine hK _ _ ?_
    clear hK K
    refine awp_seq_k ?_
    intro K hK
    refine awp_reg_seq ?_
    intro K hK
    simp only [↓DN, UP, DF, qSh, qCv, qIA, qIx, qSl, qBu, qCe, qOn, reduceCtorEq, ↓reduceIte, nLT, nLE, nEQ, nAdd, nMul, nPow, nSub, zLT, zLE, zNat, RKdf1103]
    refine hK _ _ ?_
    clear hK K
    refine awp_block ?_
    have hmr : 32 * Kdf.rounds m ≤ 8191 := by unfold Kdf.rounds; omega
    refine awp_loop (fun E s1 => ∃ i : Nat, i ≤ Kdf.rounds m ∧ E 0 = .sl 1 secret.length (secret.map byteV) .any ∧ E 1 = .sl 1 info.length (info.map byteV) .any ∧ E 2 = .v (.int .i64 m) ∧ E 10 = .v (.int .u8 ((UInt8.ofNat (i + 1)).toNat : Int)) ∧ LastS (Kdf.blk secret info i) (E 9) ∧ OutS s (Kdf.row secret info i) (E 8) s1)
      (fun E _ => match E 8 with | .sl _ n _ _ => m - n | _ => m + 1) ?_ ?_
    · refine ⟨0, Nat.zero_le _, by simp only [upd, initE, nEQ, ↓reduceIte, List.getD_cons_succ, List.getD_cons_zero, bytesV], by simp only [upd, initE, nEQ, ↓reduceIte, List.getD_cons_succ, List.getD_cons_zero, bytesV], by simp only [upd, initE, nEQ, ↓reduceIte, List.getD_cons_succ, List.getD_cons_zero], by simp only [upd, ↓reduceIte]; rfl, ?_, ?_⟩
      · simp only [upd, nEQ, ↓reduceIte]; exact .inl ⟨rfl, rfl⟩
      · simp only [upd, nEQ, ↓reduceIte]; exact OutS.nil s
    · rintro E2 s2 ⟨i, hir, g0, g1, g2, g10, hlast, hout⟩ -
      refine awp_seq_k ?_
      intro K2 hK2
      have hrl := Kdf.row_len secret info i
      have hdue := Kdf.due m i
      have hmu : m - 32 * i ≤ (match E2 8 with | .sl _ n _ _ => m - n | _ => m + 1) := by
        rcases hout.2 with ⟨hr0, e8⟩ | ⟨t, e, _, _, e8⟩
        · rw [e8]
          simp only
          omega
        · rw [e8]
          simp only [hrl]
          exact Nat.le_refl _
      generalize hr8 : E2 8 = r8 at hout
      generalize hr9 : E2 9 = r9 at hlast
      by_cases hi' : i < Kdf.rounds m
      · have hlt : 32 * i < m := hdue.2 hi'
        have hgo : ∀ E3 : Env, E3 0 = .sl 1 secret.length (secret.map byteV) .any → E3 1 = .sl 1 info.length (info.map byteV) .any → E3 2 = .v (.int .i64 m) → E3 10 = .v (.int .u8 ((UInt8.ofNat (i + 1)).toNat : Int)) → E3 8 = r8 → E3 9 = r9 → K2 E3 s2 := by
          intro E3 f0 f1 f2 f10 f8 f9
          refine hK2 _ _ ?_
          clear hK2 K2
          refine awp_seq_k ?_
          intro K3 hK3
          refine awp_block ?_
          have hbl := Kdf.blk_len secret info i
          have hbk : Kdf.blk secret info (i + 1) = Mac.tag secret (Kdf.blk secret info i ++ info ++ [UInt8.ofNat (i + 1)]) := rfl
          have hrow : Kdf.row secret info (i + 1) = Kdf.row secret info i ++ Kdf.blk secret info (i + 1) := rfl
          have hbil : (Kdf.blk secret info i).length ≤ 32 := by
            cases i with
            | zero => simp [Kdf.blk]
            | succ j => rw [Kdf.blk_len]; exact Nat.le_refl _
          have rep3' : ∀ x : AV, List.replicate 3 x = [x, x, x] := fun _ => rfl
          have hw9 := hlast.weak
          have hcs := u8_succ (UInt8.ofNat (i + 1))
          have hc2 : UInt8.ofNat (i + 1) + 1 = UInt8.ofNat (i + 1 + 1) := by
            rw [← UInt8.toNat_inj, UInt8.toNat_add, UInt8.toNat_ofNat', UInt8.toNat_ofNat']
            simp
          rw [hc2] at hcs
          have hm0 := macTag_calls (Γ := Γ) hG0 hG secret [Kdf.blk secret info i, info, [UInt8.ofNat (i + 1)]] .new (by omega) (by simp) (by simp only [List.flatten_cons, List.flatten_nil, List.append_nil, List.length_append, List.length_cons, List.length_nil]; omega) s2
          rw [show [Kdf.blk secret info i, info, [UInt8.ofNat (i + 1)]].flatten = Kdf.blk secret info i ++ info ++ [UInt8.ofNat (i + 1)] from by simp, ← hbk] at hm0
          have hcall : ∀ r9' : AV, r9'.weak (bytesV (Kdf.blk secret info i) .any) → ACalls Tryd.prog Γ 12 [.sl 1 secret.length (secret.map byteV) .any, .sl 1 3 [r9', .sl 1 info.length (info.map byteV) .any, .sl 1 1 [.v (.int .u8 ((UInt8.ofNat (i + 1)).toNat : Int))] .new] .new] s2 (fun r s' => OutS s2 (Kdf.blk secret info (i + 1)) r s') := fun r9' hw =>
            ACalls.weaks (AVs.weak.cons (AV.weak.refl _) (AVs.weak.cons (AV.weak_slc (AVs.weak.cons hw (AVs.weak.cons (AV.weak.refl _) (AVs.weak.cons (AV.weak_any (sp := .new)) AVs.weak.nil)))) AVs.weak.nil)) hm0
          have hcall := hcall r9 hw9
          rcases hlast with ⟨_, rfl⟩ | ⟨t9, e9, rfl⟩
          all_goals
            refine awp_reg_seq ?_
            intro K hK
            simp only [↓DN, UP, DF, qSh, qCv, qIA, qIx, qSl, qBu, qCe, qOn, reduceCtorEq, ↓reduceIte, nLT, nLE, nEQ, nAdd, nMul, nPow, nSub, zLT, zLE, zNat, RKdf1103, f0, f1, f10, f9, List.replicate_one, rep3']
            refine acallk hcall ?_
            intro r s3 hr
            obtain ⟨t3, e3, rfl⟩ := outS_own hr (by rw [← List.length_pos_iff, hbl]; decide)
            have hout3 := hout.later hr.1
            have hl3 := LastS.of hr
            rw [hbl] at hl3
            simp only [↓AXq_nil, ↓AXq_cons, pval, DX, Nat.reduceBEq, ↓DN, UP, DF, qSh, qCv, qIA, qIx, qSl, qBu, qCe, qOn, reduceCtorEq, ↓reduceIte, nLT, nLE, nEQ, nAdd, nMul, nPow, nSub, zLT, zLE, zNat, RKdf1103]
            refine hK _ _ ?_
            clear hK K
            refine awp_reg_end ?_
            intro K hK
            simp only [↓DN, UP, DF, qSh, qCv, qIA, qIx, qSl, qBu, qCe, qOn, reduceCtorEq, ↓reduceIte, nLT, nLE, nEQ, nAdd, nMul, nPow, nSub, zLT, zLE, zNat, RKdf1103, f8, hbl]
            refine aappend_out (ds := Kdf.blk secret info (i + 1)) hout3 hbl.symm rfl T.c5 T.b5 (by rw [hrl, hbl]; omega) ?_
            intro r2 s4 h4
            rw [← hrow] at h4
            obtain ⟨t4, e4, rfl⟩ := outS_own h4 (by rw [← List.length_pos_iff, Kdf.row_len]; omega)
            refine hK _ _ ?_
            clear hK
            simp only [thenQ, blockQ, if_true, if_false]
            refine hK3 _ _ ?_
            clear hK3 K3
            refine awp_reg_end ?_
            intro K hK
            simp only [↓DN, UP, DF, qSh, qCv, qIA, qIx, qSl, qBu, qCe, qOn, reduceCtorEq, ↓reduceIte, nLT, nLE, nEQ, nAdd, nMul, nPow, nSub, zLT, zLE, zNat, RKdf1103, f10, hcs]
            refine hK _ _ ?_
            clear hK K
            refine ⟨⟨i + 1, by omega, by simp only [upd, f0, nEQ, ↓reduceIte], by simp only [upd, f1, nEQ, ↓reduceIte], by simp only [upd, f2, nEQ, ↓reduceIte], by simp only [upd, ↓reduceIte], by simpa only [upd, nEQ, ↓reduceIte] using hl3, by simpa only [upd, nEQ, ↓reduceIte] using h4⟩, ?_⟩
            refine Nat.lt_of_lt_of_le ?_ hmu
            simp only [upd, nEQ, ↓reduceIte, Kdf.row_len]
            omega
        rcases hout.2 with ⟨hr0, rfl⟩ | ⟨t, e, _, _, rfl⟩
        · have hi0 : 32 * i = 0 := by rw [← hrl, hr0]; rfl
          refine awp_reg_seq ?_
          intro K hK
          simp only [↓DN, UP, DF, qSh, qCv, qIA, qIx, qSl, qBu, qCe, qOn, reduceCtorEq, ↓reduceIte, nLT, nLE, nEQ, nAdd, nMul, nPow, nSub, zLT, zLE, zNat, RKdf1103, hr8, g2, decide_eq_true (show ((0 : Nat) : Int) < (m : Int) by omega)]
          refine hK _ _ ?_
          clear hK K
          refine awp_cond_k ?_
          intro X Y hX hY
          simp only [↓DN, UP, DF, qSh, qCv, qIA, qIx, qSl, qBu, qCe, qOn, reduceCtorEq, ↓reduceIte, nLT, nLE, nEQ, nAdd, nMul, nPow, nSub, zLT, zLE, zNat, RKdf1103, DB]
          refine hX ?_
          clear hX hY X Y
          refine awp_skip ?_
          simp only [thenQ]
          refine hgo _ ?_ ?_ ?_ ?_ ?_ ?_
          · simp only [upd, g0, nEQ, ↓reduceIte]
          · simp only [upd, g1, nEQ, ↓reduceIte]
          · simp only [upd, g2, nEQ, ↓reduceIte]
          · simp only [upd, g10, nEQ, ↓reduceIte]
          · simp only [upd, hr8, nEQ, ↓reduceIte]
          · simp only [upd, hr9, nEQ, ↓reduceIte]
        · refine awp_reg_seq ?_
          intro K hK
          simp only [↓DN, UP, DF, qSh, qCv, qIA, qIx, qSl, qBu, qCe, qOn, reduceCtorEq, ↓reduceIte, nLT, nLE, nEQ, nAdd, nMul, nPow, nSub, zLT, zLE, zNat, RKdf1103, hr8, g2, hrl, decide_eq_true (show ((32 * i : Nat) : Int) < (m : Int) by omega)]
          refine hK _ _ ?_
          clear hK K
          refine awp_cond_k ?_
          intro X Y hX hY
          simp only [↓DN, UP, DF, qSh, qCv, qIA, qIx, qSl, qBu, qCe, qOn, reduceCtorEq, ↓reduceIte, nLT, nLE, nEQ, nAdd, nMul, nPow, nSub, zLT, zLE, zNat, RKdf1103, DB]
          refine hX ?_
          clear hX hY X Y
          refine awp_skip ?_
          simp only [thenQ]
          refine hgo _ ?_ ?_ ?_ ?_ ?_ ?_
          · simp only [upd, g0, nEQ, ↓reduceIte]
          · simp only [upd, g1, nEQ, ↓reduceIte]
          · simp only [upd, g2, nEQ, ↓reduceIte]
          · simp only [upd, g10, nEQ, ↓reduceIte]
          · simp only [upd, hr8, hrl, nEQ, ↓reduceIte]
          · simp only [upd, hr9, nEQ, ↓reduceIte]
      · obtain rfl : i = Kdf.rounds m := by omega
        have hle := Kdf.rounds_le m
        have hs := hout.1
        have hm0 : (0 : Int) ≤ (m : Int) := by omega
        rcases hout.2 with ⟨hr0, rfl⟩ | ⟨t, e, _, _, rfl⟩
        · have hi0 : 32 * Kdf.rounds m = 0 := by rw [← hrl, hr0]; rfl
          obtain rfl : m = 0 := by omega
          refine awp_reg_seq ?_
          intro K hK
          simp only [↓DN, UP, DF, qSh, qCv, qIA, qIx, qSl, qBu, qCe, qOn, reduceCtorEq, ↓reduceIte, nLT, nLE, nEQ, nAdd, nMul, nPow, nSub, zLT, zLE, zNat, RKdf1103, hr8, g2, decide_eq_false (show ¬ ((0 : Nat) : Int) < ((0 : Nat) : Int) by decide)]
          refine hK _ _ ?_
          clear hK K
          refine awp_cond_k ?_
          intro X Y hX hY
          simp only [↓DN, UP, DF, qSh, qCv, qIA, qIx, qSl, qBu, qCe, qOn, reduceCtorEq, ↓reduceIte, nLT, nLE, nEQ, nAdd, nMul, nPow, nSub, zLT, zLE, zNat, RKdf1103, DB]
          refine hY ?_
          clear hX hY X Y
          refine awp_exit ?_
          simp only [thenQ, blockQ, if_true]
          clear hK2 K2
          refine hK _ _ ?_
          clear hK K
          refine awp_reg_seq ?_
          intro K hK
          simp only [↓DN, UP, DF, qSh, qCv, qIA, qIx, qSl, qBu, qCe, qOn, reduceCtorEq, ↓reduceIte, nLT, nLE, nEQ, nAdd, nMul, nPow, nSub, zLT, zLE, zNat, RKdf1103, hr8, g2, show ((0 : Nat) : Int) = 0 from rfl]
          refine hK _ _ ?_
          clear hK K
          refine awp_ret ?_
          simp only [retQ, AEnds, aresL, ares, List.toList_toArray, ↓upd_same]; try simp only [↓DN, UP, DF, qSh, qCv, qIA, qIx, qSl, qBu, qCe, qOn, reduceCtorEq, ↓reduceIte, nLT, nLE, nEQ, nAdd, nMul, nPow, nSub, zLT, zLE, zNat, RKdf1103, DT]
          refine ⟨_, s, AV.weak_tup2 (AV.weak_nil (sz := 1)) (AV.weak.refl _), hs, ?_, rfl⟩
          have he : Kdf.expand secret info 0 = [] := List.eq_nil_of_length_eq_zero (Kdf.expand_len secret info 0)
          rw [hok, hget, he]
          rfl
        · refine awp_reg_seq ?_
          intro K hK
          simp only [↓DN, UP, DF, qSh, qCv, qIA, qIx, qSl, qBu, qCe, qOn, reduceCtorEq, ↓reduceIte, nLT, nLE, nEQ, nAdd, nMul, nPow, nSub, zLT, zLE, zNat, RKdf1103, hr8, g2, hrl, decide_eq_false (show ¬ ((32 * Kdf.rounds m : Nat) : Int) < (m : Int) by omega)]
          refine hK _ _ ?_
          clear hK K
          refine awp_cond_k ?_
          intro X Y hX hY
          simp only [↓DN, UP, DF, qSh, qCv, qIA, qIx, qSl, qBu, qCe, qOn, reduceCtorEq, ↓reduceIte, nLT, nLE, nEQ, nAdd, nMul, nPow, nSub, zLT, zLE, zNat, RKdf1103, DB]
          refine hY ?_
          clear hX hY X Y
          refine awp_exit ?_
          simp only [thenQ, blockQ, if_true]
          clear hK2 K2
          refine hK _ _ ?_
          clear hK K
          refine awp_reg_seq ?_
          intro K hK
          simp only [↓DN, UP, DF, qSh, qCv, qIA, qIx, qSl, qBu, qCe, qOn, reduceCtorEq, ↓reduceIte, nLT, nLE, nEQ, nAdd, nMul, nPow, nSub, zLT, zLE, zNat, RKdf1103, hr8, g2, hrl, hm0, show (m : Int) ≤ ((32 * Kdf.rounds m : Nat) : Int) by omega]
          refine hK _ _ ?_
          clear hK K
          refine awp_ret ?_
          simp only [retQ, AEnds, aresL, ares, List.toList_toArray, ↓upd_same]; try simp only [↓DN, UP, DF, qSh, qCv, qIA, qIx, qSl, qBu, qCe, qOn, reduceCtorEq, ↓reduceIte, nLT, nLE, nEQ, nAdd, nMul, nPow, nSub, zLT, zLE, zNat, RKdf1103, DT]
          refine ⟨_, s, AV.weak_tup2 AV.weak_any (AV.weak.refl _), hs, ?_, rfl⟩
          rw [hok, hget, Kdf.expand_len, Nat.sub_zero]
          rfl

end Go.Proofs.YtooeklnbdgoneaaDoor


set_option autoImplicit false
namespace Go.Proofs.YtooeklnbdgoneaaDoor
open Go Go.AM Go.Proofs

theorem RKdf287 : type_of% (And.intro (And.intro (And.intro (And.intro (And.intro @Tryd.underlying3 T.c3) (And.intro T.g3 (And.intro T.b3 T.z3))) (And.intro (And.intro @Tryd.underlying5 (And.intro T.c5 T.g5)) (And.intro T.b5 (And.intro T.z5 @Tryd.underlying9)))) (And.intro (And.intro (And.intro T.c9 T.g9) (And.intro T.b9 (And.intro T.z9 @Tryd.underlying22))) (And.intro (And.intro T.c22 (And.intro T.g22 T.b22)) (And.intro T.z22 (And.intro T.s22 T.k94))))) Tryd.ntmps87) :=
  (And.intro (And.intro (And.intro (And.intro (And.intro @Tryd.underlying3 T.c3) (And.intro T.g3 (And.intro T.b3 T.z3))) (And.intro (And.intro @Tryd.underlying5 (And.intro T.c5 T.g5)) (And.intro T.b5 (And.intro T.z5 @Tryd.underlying9)))) (And.intro (And.intro (And.intro T.c9 T.g9) (And.intro T.b9 (And.intro T.z9 @Tryd.underlying22))) (And.intro (And.intro T.c22 (And.intro T.g22 T.b22)) (And.intro T.z22 (And.intro T.s22 T.k94))))) Tryd.ntmps87)

variable {Γ : Nat → List AV}

theorem u8_of_i64 (i : Nat) : iconv .u8 (i : Int) = ((UInt8.ofNat i).toNat : Int) := by
  rw [iconv_u (k := .u8) rfl, UInt8.toNat_ofNat']
  simp only [IntKind.bits]

theorem is_byte (c : UInt8) : isByte (.v (.int .u8 (c.toNat : Int))) = true := by
  have := all_isByte_map [c]
  simpa [byteV] using this
theorem to_byte (c : UInt8) : toBytes [.v (.int .u8 (c.toNat : Int))] = ⟨[c].toArray⟩ := toBytes_map [c]

set_option maxHeartbeats 2000000 in
set_option maxRecDepth 100000 in
theorem refExpand_calls (secret info : List UInt8) (hk : secret.length ≤ 2 ^ 37) (hi : info.length ≤ 2 ^ 37) (m : Nat) (hm : m ≤ 8160) (s : AS) :
    ACalls Tryd.prog Γ 87 [.v (.string ⟨secret.toArray⟩), .v (.string ⟨info.toArray⟩), .v (.int .i64 m)] s (fun r s' => r = .v (.string ⟨(Kdf.expand secret info m).toArray⟩) ∧ s' = s) := by
  refine acalls_body Tryd.func87 rfl Tryd.ntmps87 Tryd.results87 (by simp) ?_
  have hmr : 32 * Kdf.rounds m ≤ 8191 := by unfold Kdf.rounds; omega
  refine awp_reg_seq ?_
  intro K hK
  simp only [↓DN, UP, DF, qSh, qCv, qIA, qIx, qSl, qBu, qCe, qOn, reduceCtorEq, ↓reduceIte, nLT, nLE, nEQ, nAdd, nMul, nPow, nSub, zLT, zLE, zNat, RKdf287]
  refine hK _ _ ?_
  clear hK K
  refine awp_reg_seq ?_
  intro K hK
  simp only [↓DN, UP, DF, qSh, qCv, qIA, qIx, qSl, qBu, qCe, qOn, reduceCtorEq, ↓reduceIte, nLT, nLE, nEQ, nAdd, nMul, nPow, nSub, zLT, zLE, zNat, RKdf287]
  refine hK _ _ ?_
  clear hK K
  refine awp_seq_k ?_
  intro K hK
  refine awp_reg_seq ?_
  intro K hK
  simp only [↓DN, UP, DF, qSh, qCv, qIA, qIx, qSl, qBu, qCe, qOn, reduceCtorEq, ↓reduceIte, nLT, nLE, nEQ, nAdd, nMul, nPow, nSub, zLT, zLE, zNat, RKdf287]
  refine hK _ _ ?_
  clear hK K
  refine awp_block ?_
  refine awp_loop (fun E s1 => ∃ i : Nat, i ≤ Kdf.rounds m ∧ E 0 = .v (.string ⟨secret.toArray⟩) ∧ E 1 = .v (.string ⟨info.toArray⟩) ∧ E 2 = .v (.int .i64 m) ∧ E 7 = .v (.string ⟨(Kdf.blk secret info i).toArray⟩) ∧ E 8 = .v (.string ⟨(Kdf.row secret info i).toArray⟩) ∧ E 9 = .v (.int .i64 ((i + 1 : Nat) : Int)) ∧ s1 = s)
    (fun E _ => match E 9 with | .v (.int _ x) => 300 - x.toNat | _ => 0) ?_ ?_
  · exact ⟨0, Nat.zero_le _, by simp only [upd, initE, nEQ, ↓reduceIte, List.getD_cons_succ, List.getD_cons_zero], by simp only [upd, initE, nEQ, ↓reduceIte, List.getD_cons_succ, List.getD_cons_zero], by simp only [upd, initE, nEQ, ↓reduceIte, List.getD_cons_succ, List.getD_cons_zero], by simp only [upd, nEQ, ↓reduceIte]; rfl, by simp only [upd, nEQ, ↓reduceIte]; rfl, by simp only [upd, ↓reduceIte]; rfl, rfl⟩
  · rintro E2 s2 ⟨i, hir, g0, g1, g2, g7, g8, g9, rfl⟩ -
    refine awp_seq_k ?_
    intro K2 hK2
    have hrl := Kdf.row_len secret info i
    have hdue := Kdf.due m i
    by_cases hi' : i < Kdf.rounds m
    · have hlt : 32 * i < m := hdue.2 hi'
      have hbl := Kdf.blk_len secret info i
      have hbk : Kdf.blk secret info (i + 1) = Mac.tag secret (Kdf.blk secret info i ++ info ++ [UInt8.ofNat (i + 1)]) := rfl
      have hrow : Kdf.row secret info (i + 1) = Kdf.row secret info i ++ Kdf.blk secret info (i + 1) := rfl
      have hbil : (Kdf.blk secret info i).length ≤ 32 := by
        cases i with
        | zero => simp [Kdf.blk]
        | succ j => rw [Kdf.blk_len]; exact Nat.le_refl _
      refine awp_reg_seq ?_
      intro K hK
      simp only [↓DN, UP, DF, qSh, qCv, qIA, qIx, qSl, qBu, qCe, qOn, reduceCtorEq, ↓reduceIte, nLT, nLE, nEQ, nAdd, nMul, nPow, nSub, zLT, zLE, zNat, RKdf287, g2, g8, bs_size, hrl, decide_eq_true (show ((32 * i : Nat) : Int) < (m : Int) by omega)]
      refine hK _ _ ?_
      clear hK K
      refine awp_cond_k ?_
      intro X Y hX hY
      simp only [↓DN, UP, DF, qSh, qCv, qIA, qIx, qSl, qBu, qCe, qOn, reduceCtorEq, ↓reduceIte, nLT, nLE, nEQ, nAdd, nMul, nPow, nSub, zLT, zLE, zNat, RKdf287, DB]
      refine hX ?_
      clear hX hY X Y
      refine awp_skip ?_
      refine hK2 _ _ ?_
      clear hK2 K2
      refine awp_seq_k ?_
      intro K3 hK3
      refine awp_block ?_
      refine awp_reg_seq ?_
      intro K hK
      simp only [↓DN, UP, DF, qSh, qCv, qIA, qIx, qSl, qBu, qCe, qOn, reduceCtorEq, ↓reduceIte, nLT, nLE, nEQ, nAdd, nMul, nPow, nSub, zLT, zLE, zNat, RKdf287, g0, g1, g7, g9, u8_of_i64, List.replicate_one, is_byte, to_byte, i64_room (show (Kdf.blk secret info i).length + info.length < 2 ^ 62 by omega), i64_room (show (Kdf.blk secret info i).length + info.length + 1 < 2 ^ 62 by omega)]
      refine acallk (refTag_calls secret (Kdf.blk secret info i ++ (info ++ [UInt8.ofNat (i + 1)])) (by omega) (by simp only [List.length_append, List.length_cons, List.length_nil]; omega) s2) ?_
      rintro r s3 ⟨rfl, rfl⟩
      rw [← List.append_assoc, ← hbk]
      simp only [↓AXq_nil, ↓AXq_cons, pval, DX, Nat.reduceBEq, ↓DN, UP, DF, qSh, qCv, qIA, qIx, qSl, qBu, qCe, qOn, reduceCtorEq, ↓reduceIte, nLT, nLE, nEQ, nAdd, nMul, nPow, nSub, zLT, zLE, zNat, RKdf287]
      refine hK _ _ ?_
      clear hK K
      refine awp_reg_end ?_
      intro K hK
      simp only [↓DN, UP, DF, qSh, qCv, qIA, qIx, qSl, qBu, qCe, qOn, reduceCtorEq, ↓reduceIte, nLT, nLE, nEQ, nAdd, nMul, nPow, nSub, zLT, zLE, zNat, RKdf287, g8, i64_room (show (Kdf.row secret info i).length + (Kdf.blk secret info (i + 1)).length < 2 ^ 62 by omega)]
      rw [← hrow]
      refine hK _ _ ?_
      clear hK
      simp only [thenQ, blockQ, if_true, if_false]
      refine hK3 _ _ ?_
      clear hK3 K3
      refine awp_reg_end ?_
      intro K hK
      simp only [↓DN, UP, DF, qSh, qCv, qIA, qIx, qSl, qBu, qCe, qOn, reduceCtorEq, ↓reduceIte, nLT, nLE, nEQ, nAdd, nMul, nPow, nSub, zLT, zLE, zNat, RKdf287, g9, w_succ (i + 1) (by omega)]
      refine hK _ _ ?_
      clear hK K
      refine ⟨⟨i + 1, by omega, by simp only [upd, g0, nEQ, ↓reduceIte], by simp only [upd, g1, nEQ, ↓reduceIte], by simp only [upd, g2, nEQ, ↓reduceIte], by simp only [upd, nEQ, ↓reduceIte], by simp only [upd, nEQ, ↓reduceIte], by simp only [upd, ↓reduceIte], rfl⟩, ?_⟩
      simp only [g9, upd, ↓reduceIte]
      omega
    · obtain rfl : i = Kdf.rounds m := by omega
      have hle := Kdf.rounds_le m
      have hm0 : (0 : Int) ≤ (m : Int) := by omega
      refine awp_reg_seq ?_
      intro K hK
      simp only [↓DN, UP, DF, qSh, qCv, qIA, qIx, qSl, qBu, qCe, qOn, reduceCtorEq, ↓reduceIte, nLT, nLE, nEQ, nAdd, nMul, nPow, nSub, zLT, zLE, zNat, RKdf287, g2, g8, bs_size, hrl, decide_eq_false (show ¬ ((32 * Kdf.rounds m : Nat) : Int) < (m : Int) by omega)]
      refine hK _ _ ?_
      clear hK K
      refine awp_cond_k ?_
      intro X Y hX hY
      simp only [↓DN, UP, DF, qSh, qCv, qIA, qIx, qSl, qBu, qCe, qOn, reduceCtorEq, ↓reduceIte, nLT, nLE, nEQ, nAdd, nMul, nPow, nSub, zLT, zLE, zNat, RKdf287, DB]
      refine hY ?_
      clear hX hY X Y
      refine awp_exit ?_
      simp only [thenQ, blockQ, if_true]
      clear hK2 K2
      refine hK _ _ ?_
      clear hK K
      refine awp_reg_seq ?_
      intro K hK
      simp only [↓DN, UP, DF, qSh, qCv, qIA, qIx, qSl, qBu, qCe, qOn, reduceCtorEq, ↓reduceIte, nLT, nLE, nEQ, nAdd, nMul, nPow, nSub, zLT, zLE, zNat, RKdf287, g2, g8, bs_size, hrl, hm0, show (m : Int) ≤ ((32 * Kdf.rounds m : Nat) : Int) by omega]
      refine hK _ _ ?_
      clear hK K
      refine awp_ret ?_
      simp only [retQ, AEnds, aresL, ares, List.toList_toArray, ↓upd_same]; try simp only [↓DN, UP, DF, qSh, qCv, qIA, qIx, qSl, qBu, qCe, qOn, reduceCtorEq, ↓reduceIte, nLT, nLE, nEQ, nAdd, nMul, nPow, nSub, zLT, zLE, zNat, RKdf287, DT]
      exact ⟨_, _, AV.weak.refl _, AS.le.refl _, rfl, rfl⟩

end Go.Proofs.YtooeklnbdgoneaaDoor


set_option autoImplicit false
namespace Go.AM

/-! ### Labelled secrets, in plain Lean -/
namespace Kdf
def mls : List UInt8 := [109, 108, 115, 32]
def fits (l c : List UInt8) (n : Int) : Bool := decide (l.length ≤ 251) && decide (c.length ≤ 65535) && decide (0 ≤ n) && decide (n ≤ 8160)
def text (l c : List UInt8) (n : Nat) : List UInt8 := be 2 n ++ (be 1 (mls ++ l).length ++ (mls ++ l)) ++ (be 2 c.length ++ c)
def label (secret l c : List UInt8) (n : Int) : List UInt8 := if fits l c n = true then expand secret (text l c n.toNat) n.toNat else []
def derive (secret l : List UInt8) : List UInt8 := label secret (l.take 251) [] 32
def pen (l c : List UInt8) (n : Int) : List UInt8 × Bool := penText 2 c (penText 1 (mls ++ l) (penSmall 2 n ([], false)))

theorem num_bad {k n : Nat} {st : List UInt8 × Bool} (h : st.2 = true) : (penNum k n st).2 = true := by rw [penNum, if_pos h]; exact h
theorem small_bad {k : Nat} {n : Int} {st : List UInt8 × Bool} (h : st.2 = true) : (penSmall k n st).2 = true := by
  unfold penSmall
  split
  · exact num_bad h
  · rfl
theorem raw_bad {m : List UInt8} {st : List UInt8 × Bool} (h : st.2 = true) : (penRaw m st).2 = true := by rw [penRaw, if_pos h]; exact h
theorem text_bad {k : Nat} {m : List UInt8} {st : List UInt8 × Bool} (h : st.2 = true) : (penText k m st).2 = true := raw_bad (small_bad h)
theorem small_wide {k : Nat} {n : Int} {st : List UInt8 × Bool} (h : ¬ (0 ≤ n ∧ n < 2 ^ (8 * k))) : (penSmall k n st).2 = true := by rw [penSmall, if_neg h]
theorem text_wide {k : Nat} {m : List UInt8} {st : List UInt8 × Bool} (h : ¬ (m.length : Int) < 2 ^ (8 * k)) : (penText k m st).2 = true := raw_bad (small_wide fun h' => h h'.2)

theorem pen_good (l c : List UInt8) (n : Int) (h0 : 0 ≤ n) (h1 : n ≤ 65535) (hl : l.length ≤ 251) (hc : c.length ≤ 65535) : pen l c n = (text l c n.toNat, false) := by
  obtain ⟨m, rfl⟩ : ∃ m : Nat, n = (m : Int) := ⟨n.toNat, by omega⟩
  have hm : (mls ++ l).length = 4 + l.length := by simp [mls]; omega
  unfold pen
  rw [penSmall_nat (by omega), penText_nat (by rw [hm]; omega), penText_nat (by omega)]
  simp [text]
theorem pen_bad (l c : List UInt8) (n : Int) (h : ¬ (0 ≤ n ∧ n ≤ 65535 ∧ l.length ≤ 251 ∧ c.length ≤ 65535)) : (pen l c n).2 = true := by
  have hm : (mls ++ l).length = 4 + l.length := by simp [mls]; omega
  unfold pen
  by_cases h0 : 0 ≤ n ∧ n < 2 ^ (8 * 2)
  · by_cases h1 : ((mls ++ l).length : Int) < 2 ^ (8 * 1)
    · refine text_wide fun h2 => h ?_
      simp only [Nat.reduceMul] at h0 h1 h2
      refine ⟨h0.1, by omega, by omega, by omega⟩
    · exact text_bad (text_wide h1)
  · exact text_bad (text_bad (small_wide h0))
theorem text_len (k : Nat) (m : List UInt8) (st : List UInt8 × Bool) : (penText k m st).1.length ≤ st.1.length + k + m.length := by
  have := penSmall_len k (m.length : Int) st
  unfold penText penRaw
  split
  · omega
  · simp only [List.length_append]
    omega
end Kdf
end Go.AM


set_option autoImplicit false
namespace Go.Proofs.YtooeklnbdgoneaaDoor
open Go Go.AM Go.Proofs

theorem RPen70 : type_of% (And.intro (And.intro (And.intro (And.intro @Tryd.underlying5 T.c5) (And.intro T.g5 (And.intro T.b5 T.z5))) (And.intro (And.intro @Tryd.underlying22 (And.intro T.c22 T.g22)) (And.intro T.b22 (And.intro T.z22 T.s22)))) Tryd.ntmps70) :=
  (And.intro (And.intro (And.intro (And.intro @Tryd.underlying5 T.c5) (And.intro T.g5 (And.intro T.b5 T.z5))) (And.intro (And.intro @Tryd.underlying22 (And.intro T.c22 T.g22)) (And.intro T.b22 (And.intro T.z22 T.s22)))) Tryd.ntmps70)
theorem RPen90 : type_of% (And.intro (And.intro (And.intro (And.intro (And.intro (And.intro @Tryd.underlying3 T.c3) (And.intro T.g3 T.b3)) (And.intro (And.intro T.z3 @Tryd.underlying4) (And.intro T.c4 T.g4))) (And.intro (And.intro (And.intro T.b4 T.z4) (And.intro @Tryd.underlying5 T.c5)) (And.intro (And.intro T.g5 T.b5) (And.intro T.z5 (And.intro @Tryd.underlying22 T.c22))))) (And.intro (And.intro (And.intro (And.intro T.g22 T.b22) (And.intro T.z22 T.s22)) (And.intro (And.intro @Tryd.underlying41 T.c41) (And.intro T.g41 T.b41))) (And.intro (And.intro (And.intro T.z41 @Tryd.underlying105) (And.intro T.c105 T.g105)) (And.intro (And.intro T.b105 T.z105) (And.intro T.h105 (And.intro T.f105_0 T.f105_1)))))) Tryd.ntmps90) :=
  (And.intro (And.intro (And.intro (And.intro (And.intro (And.intro @Tryd.underlying3 T.c3) (And.intro T.g3 T.b3)) (And.intro (And.intro T.z3 @Tryd.underlying4) (And.intro T.c4 T.g4))) (And.intro (And.intro (And.intro T.b4 T.z4) (And.intro @Tryd.underlying5 T.c5)) (And.intro (And.intro T.g5 T.b5) (And.intro T.z5 (And.intro @Tryd.underlying22 T.c22))))) (And.intro (And.intro (And.intro (And.intro T.g22 T.b22) (And.intro T.z22 T.s22)) (And.intro (And.intro @Tryd.underlying41 T.c41) (And.intro T.g41 T.b41))) (And.intro (And.intro (And.intro T.z41 @Tryd.underlying105) (And.intro T.c105 T.g105)) (And.intro (And.intro T.b105 T.z105) (And.intro T.h105 (And.intro T.f105_0 T.f105_1)))))) Tryd.ntmps90)

variable {Γ : Nat → List AV}

set_option maxHeartbeats 400000 in
theorem clone_calls (l : List UInt8) (sp : Sp) (ha : sp.isAny = false) (s : AS) (hl : l.length ≤ 2 ^ 45) : ACalls Tryd.prog Γ 70 [bytesV l sp] s (fun r s' => r = bytesV l .any ∧ s' = s) := by
  refine acalls_body Tryd.func70 rfl Tryd.ntmps70 Tryd.results70 (by simp) ?_
  unfold bytesV
  refine awp_reg_seq ?_
  intro K hK
  simp only [↓DN, UP, DF, qSh, qCv, qIA, qIx, qSl, qBu, qCe, qOn, reduceCtorEq, ↓reduceIte, nLT, nLE, nEQ, nAdd, nMul, nPow, nSub, zLT, zLE, zNat, RPen70]
  refine hK _ _ ?_
  clear hK K
  refine awp_seq_k ?_
  intro K hK
  refine awp_reg_seq ?_
  intro K hK
  simp only [↓DN, UP, DF, qSh, qCv, qIA, qIx, qSl, qBu, qCe, qOn, reduceCtorEq, ↓reduceIte, nLT, nLE, nEQ, nAdd, nMul, nPow, nSub, zLT, zLE, zNat, RPen70, ha, Bool.false_eq_true, and_false]
  refine hK _ _ ?_
  clear hK K
  refine awp_cond_k ?_
  intro X Y hX hY
  simp only [↓DN, UP, DF, qSh, qCv, qIA, qIx, qSl, qBu, qCe, qOn, reduceCtorEq, ↓reduceIte, nLT, nLE, nEQ, nAdd, nMul, nPow, nSub, zLT, zLE, zNat, RPen70, DB]
  refine hY ?_
  clear hX hY X Y
  refine awp_skip ?_
  refine hK _ _ ?_
  clear hK K
  by_cases h0 : l.length = 0
  · have hl0 : l = [] := List.eq_nil_of_length_eq_zero h0
    subst hl0
    refine awp_reg_seq ?_
    intro K hK
    simp only [↓DN, UP, DF, qSh, qCv, qIA, qIx, qSl, qBu, qCe, qOn, reduceCtorEq, ↓reduceIte, nLT, nLE, nEQ, nAdd, nMul, nPow, nSub, zLT, zLE, zNat, RPen70]
    refine hK _ _ ?_
    clear hK K
    refine awp_ret ?_
    simp only [↓DN, UP, DF, qSh, qCv, qIA, qIx, qSl, qBu, qCe, qOn, reduceCtorEq, ↓reduceIte, nLT, nLE, nEQ, nAdd, nMul, nPow, nSub, zLT, zLE, zNat, RPen70, retQ, AEnds, aresL, ares, atuple]
    exact ⟨_, s, AV.weak_any, AS.le.refl s, rfl, rfl⟩
  · refine awp_reg_seq ?_
    intro K hK
    simp only [↓DN, UP, DF, qSh, qCv, qIA, qIx, qSl, qBu, qCe, qOn, reduceCtorEq, ↓reduceIte, nLT, nLE, nEQ, nAdd, nMul, nPow, nSub, zLT, zLE, zNat, RPen70, h0]
    refine ⟨by omega, by omega, fun t ht => hK _ _ ?_⟩
    clear hK K
    refine awp_ret ?_
    simp only [↓DN, UP, DF, qSh, qCv, qIA, qIx, qSl, qBu, qCe, qOn, reduceCtorEq, ↓reduceIte, nLT, nLE, nEQ, nAdd, nMul, nPow, nSub, zLT, zLE, zNat, RPen70, retQ, AEnds, aresL, ares, atuple]
    exact ⟨_, s, AV.weak_any, AS.le_gain (AS.le.refl s) ht 0, rfl, rfl⟩

set_option maxHeartbeats 400000 in
theorem number_calls (s0 s : AS) (p : Nat) (l : List UInt8) (n size : Nat) (hn : n < 2 ^ 64) (hs : size ≤ 8) (hl : l.length + 8 ≤ 2 ^ 45) (h : Pen s0 s p l false) :
    ACalls Tryd.prog Γ 90 [.ptr p 0, .v (.int .u64 n), .v (.int .i64 size)] s (fun r s' => r = .tup [] ∧ Pen s0 s' p (l ++ be size n) false) := by
  refine acalls_body Tryd.func90 rfl Tryd.ntmps90 Tryd.results90 (by simp) ?_
  refine awp_reg_seq ?_
  intro K hK
  simp only [↓DN, UP, DF, qSh, qCv, qIA, qIx, qSl, qBu, qCe, qOn, reduceCtorEq, ↓reduceIte, nLT, nLE, nEQ, nAdd, nMul, nPow, nSub, zLT, zLE, zNat, RPen90]
  refine hK _ _ ?_
  clear hK K
  refine awp_block ?_
  refine awp_loop (fun E s1 => ∃ (i : Int) (l' : List UInt8), E 6 = .v (.int .i64 i) ∧ -1 ≤ i ∧ i < size ∧ E 0 = .ptr p 0 ∧ E 1 = .v (.int .u64 n) ∧ Pen s0 s1 p l' false ∧ l' ++ be (i + 1).toNat n = l ++ be size n)
    (fun E _ => match E 6 with | .v (.int _ i) => (i + 1).toNat | _ => 0) ?_ ?_
  · refine ⟨size - 1, l, ?_, by omega, by omega, by simp [upd, initE], by simp [upd, initE], h, by congr 2; omega⟩
    simp [upd, isub_i64 (show -9223372036854775808 ≤ (size : Int) - 1 ∧ (size : Int) - 1 ≤ 9223372036854775807 by omega)]
  · rintro E1 s1 ⟨i, l', h6, hi1, hi2, h0, h1, hp, hl'⟩ -
    obtain ⟨x, hx, hb⟩ := hp.obj
    refine awp_seq_k ?_
    intro K hK
    by_cases hi : 0 ≤ i
    · refine awp_reg_seq ?_
      intro K hK
      simp only [↓DN, UP, DF, qSh, qCv, qIA, qIx, qSl, qBu, qCe, qOn, reduceCtorEq, ↓reduceIte, nLT, nLE, nEQ, nAdd, nMul, nPow, nSub, zLT, zLE, zNat, RPen90, h6, h0, h1, hx, decide_eq_true hi, ge_iff_le, Bool.not_false]
      refine hK _ _ ?_
      clear hK K
      refine awp_cond_k ?_
      intro X Y hX hY
      simp only [↓DN, UP, DF, qSh, qCv, qIA, qIx, qSl, qBu, qCe, qOn, reduceCtorEq, ↓reduceIte, nLT, nLE, nEQ, nAdd, nMul, nPow, nSub, zLT, zLE, zNat, RPen90, DB]
      refine hX ?_
      clear hX hY X Y
      refine awp_skip ?_
      refine hK _ _ ?_
      clear hK K
      refine awp_seq_k ?_
      intro K hK
      refine awp_block ?_
      have hmul : imul .i64 8 i = 8 * i := imul_i64 (by omega)
      have hnn : ¬ (8 * i < 0) := by omega
      obtain ⟨j, rfl⟩ := Int.eq_ofNat_of_zero_le hi
      have hj : j < 8 := by omega
      have hstep := be_step n j hj
      have hbe : be ((j : Int) + 1).toNat n = UInt8.ofNat (n / 2 ^ (8 * j)) :: be j n := by
        rw [show ((j : Int) + 1).toNat = j + 1 from by omega]; rfl
      have hlen : l'.length ≤ l.length + size := by
        have := congrArg List.length hl'
        simp at this
        omega
      have hsub : isub .i64 (j : Int) 1 = (j : Int) - 1 := isub_i64 (by omega)
      have hend : ∀ (E2 : Env) (s2 : AS), E2 6 = .v (.int .i64 j) → E2 0 = .ptr p 0 → E2 1 = .v (.int .u64 n) → Pen s0 s2 p (l' ++ [UInt8.ofNat (n / 2 ^ (8 * j))]) false → K E2 s2 := by
        intro E2 s2 e6 e0 e1 hp2
        refine hK _ _ ?_
        clear hK K
        refine awp_reg_end ?_
        intro K hK
        simp only [↓DN, UP, DF, qSh, qCv, qIA, qIx, qSl, qBu, qCe, qOn, reduceCtorEq, ↓reduceIte, nLT, nLE, nEQ, nAdd, nMul, nPow, nSub, zLT, zLE, zNat, RPen90, e6, hsub]
        refine hK _ _ ?_
        clear hK K
        refine ⟨⟨(j : Int) - 1, _, by simp only [upd, ↓reduceIte], by omega, by omega, by simp only [upd, e0, nEQ, ↓reduceIte], by simp only [upd, e1, nEQ, ↓reduceIte], hp2, ?_⟩, ?_⟩
        · rw [← hl', hbe]
          simp
        · simp only [h6, upd, ↓reduceIte]
          omega
      clear hK
      rcases hb with ⟨rfl, hl0⟩ | ⟨t, e, rfl, ht, ht0⟩
      · subst hl0
        refine awp_drw_end T.mixed [4,11,14] (by kernel_rfl) ?_
        intro K hK
        simp only [↓AXq_nil, ↓AXq_cons, pval, DX, Nat.reduceBEq, ↓DN, UP, DF, qSh, qCv, qIA, qIx, qSl, qBu, qCe, qOn, reduceCtorEq, ↓reduceIte, nLT, nLE, nEQ, nAdd, nMul, nPow, nSub, zLT, zLE, zNat, RPen90, h6, h0, h1, hx, nilS, hmul, hnn, List.replicate_succ]
        intro t ht
        refine hK _ _ (hend _ _ (by simp only [upd, h6, nEQ, ↓reduceIte]) (by simp only [upd, h0, nEQ, ↓reduceIte]) (by simp only [upd, h1, nEQ, ↓reduceIte]) ?_)
        rw [hstep]
        exact hp.one ht _
      · refine awp_drw_end T.mixed [4,11,14] (by kernel_rfl) ?_
        intro K hK
        simp only [↓AXq_nil, ↓AXq_cons, pval, DX, Nat.reduceBEq, ↓DN, UP, DF, qSh, qCv, qIA, qIx, qSl, qBu, qCe, qOn, reduceCtorEq, ↓reduceIte, nLT, nLE, nEQ, nAdd, nMul, nPow, nSub, zLT, zLE, zNat, RPen90, h6, h0, h1, hx, bytesV, hmul, hnn, ht, List.replicate_succ]
        refine ⟨by omega, by omega, hK _ _ (hend _ _ (by simp only [upd, h6, nEQ, ↓reduceIte]) (by simp only [upd, h0, nEQ, ↓reduceIte]) (by simp only [upd, h1, nEQ, ↓reduceIte]) ?_)⟩
        rw [hstep]
        exact hp.more ht0 [_] rfl rfl
    · have hi0 : i = -1 := by omega
      subst hi0
      refine awp_reg_seq ?_
      intro K hK
      simp only [↓DN, UP, DF, qSh, qCv, qIA, qIx, qSl, qBu, qCe, qOn, reduceCtorEq, ↓reduceIte, nLT, nLE, nEQ, nAdd, nMul, nPow, nSub, zLT, zLE, zNat, RPen90, h6, h0, h1, hx]
      refine hK _ _ ?_
      clear hK K
      refine awp_cond_k ?_
      intro X Y hX hY
      simp only [↓DN, UP, DF, qSh, qCv, qIA, qIx, qSl, qBu, qCe, qOn, reduceCtorEq, ↓reduceIte, nLT, nLE, nEQ, nAdd, nMul, nPow, nSub, zLT, zLE, zNat, RPen90, DB]
      refine hY ?_
      clear hX hY X Y
      refine awp_exit ?_
      simp only [thenQ, blockQ, if_true, retQ, AEnds, aresL, atuple, List.toList_toArray]
      refine ⟨_, s1, AV.weak.refl _, AS.le.refl _, rfl, ?_⟩
      have : l' = l ++ be size n := by simpa [be] using hl'
      rw [← this]
      exact hp
end Go.Proofs.YtooeklnbdgoneaaDoor


set_option autoImplicit false
namespace Go.Proofs.YtooeklnbdgoneaaDoor
open Go Go.AM Go.Proofs

theorem RPen290 : type_of% (And.intro (And.intro (And.intro (And.intro (And.intro (And.intro @Tryd.underlying3 T.c3) (And.intro T.g3 T.b3)) (And.intro (And.intro T.z3 @Tryd.underlying4) (And.intro T.c4 T.g4))) (And.intro (And.intro (And.intro T.b4 T.z4) (And.intro @Tryd.underlying5 T.c5)) (And.intro (And.intro T.g5 T.b5) (And.intro T.z5 (And.intro @Tryd.underlying22 T.c22))))) (And.intro (And.intro (And.intro (And.intro T.g22 T.b22) (And.intro T.z22 T.s22)) (And.intro (And.intro @Tryd.underlying41 T.c41) (And.intro T.g41 T.b41))) (And.intro (And.intro (And.intro T.z41 @Tryd.underlying105) (And.intro T.c105 T.g105)) (And.intro (And.intro T.b105 T.z105) (And.intro T.h105 (And.intro T.f105_0 T.f105_1)))))) Tryd.ntmps90) :=
  (And.intro (And.intro (And.intro (And.intro (And.intro (And.intro @Tryd.underlying3 T.c3) (And.intro T.g3 T.b3)) (And.intro (And.intro T.z3 @Tryd.underlying4) (And.intro T.c4 T.g4))) (And.intro (And.intro (And.intro T.b4 T.z4) (And.intro @Tryd.underlying5 T.c5)) (And.intro (And.intro T.g5 T.b5) (And.intro T.z5 (And.intro @Tryd.underlying22 T.c22))))) (And.intro (And.intro (And.intro (And.intro T.g22 T.b22) (And.intro T.z22 T.s22)) (And.intro (And.intro @Tryd.underlying41 T.c41) (And.intro T.g41 T.b41))) (And.intro (And.intro (And.intro T.z41 @Tryd.underlying105) (And.intro T.c105 T.g105)) (And.intro (And.intro T.b105 T.z105) (And.intro T.h105 (And.intro T.f105_0 T.f105_1)))))) Tryd.ntmps90)
theorem RPen234 : type_of% (And.intro (And.intro (And.intro (And.intro (And.intro @Tryd.underlying4 (And.intro T.c4 T.g4)) (And.intro T.b4 (And.intro T.z4 @Tryd.underlying5))) (And.intro (And.intro T.c5 (And.intro T.g5 T.b5)) (And.intro T.z5 (And.intro @Tryd.underlying22 T.c22)))) (And.intro (And.intro (And.intro T.g22 (And.intro T.b22 T.z22)) (And.intro T.s22 (And.intro @Tryd.underlying105 T.c105))) (And.intro (And.intro T.g105 (And.intro T.b105 T.z105)) (And.intro T.h105 (And.intro T.f105_0 T.f105_1))))) Tryd.ntmps34) :=
  (And.intro (And.intro (And.intro (And.intro (And.intro @Tryd.underlying4 (And.intro T.c4 T.g4)) (And.intro T.b4 (And.intro T.z4 @Tryd.underlying5))) (And.intro (And.intro T.c5 (And.intro T.g5 T.b5)) (And.intro T.z5 (And.intro @Tryd.underlying22 T.c22)))) (And.intro (And.intro (And.intro T.g22 (And.intro T.b22 T.z22)) (And.intro T.s22 (And.intro @Tryd.underlying105 T.c105))) (And.intro (And.intro T.g105 (And.intro T.b105 T.z105)) (And.intro T.h105 (And.intro T.f105_0 T.f105_1))))) Tryd.ntmps34)
theorem RPen2111 : type_of% (And.intro (And.intro (And.intro (And.intro (And.intro (And.intro @Tryd.underlying3 T.c3) (And.intro T.g3 (And.intro T.b3 T.z3))) (And.intro (And.intro @Tryd.underlying4 T.c4) (And.intro T.g4 (And.intro T.b4 T.z4)))) (And.intro (And.intro (And.intro @Tryd.underlying5 T.c5) (And.intro T.g5 (And.intro T.b5 T.z5))) (And.intro (And.intro @Tryd.underlying22 T.c22) (And.intro T.g22 (And.intro T.b22 T.z22))))) (And.intro (And.intro (And.intro (And.intro T.s22 @Tryd.underlying41) (And.intro T.c41 (And.intro T.g41 T.b41))) (And.intro (And.intro T.z41 @Tryd.underlying61) (And.intro T.c61 (And.intro T.g61 T.b61)))) (And.intro (And.intro (And.intro T.z61 T.p61) (And.intro @Tryd.underlying105 (And.intro T.c105 T.g105))) (And.intro (And.intro T.b105 T.z105) (And.intro T.h105 (And.intro T.f105_1 T.k90)))))) Tryd.ntmps111) :=
  (And.intro (And.intro (And.intro (And.intro (And.intro (And.intro @Tryd.underlying3 T.c3) (And.intro T.g3 (And.intro T.b3 T.z3))) (And.intro (And.intro @Tryd.underlying4 T.c4) (And.intro T.g4 (And.intro T.b4 T.z4)))) (And.intro (And.intro (And.intro @Tryd.underlying5 T.c5) (And.intro T.g5 (And.intro T.b5 T.z5))) (And.intro (And.intro @Tryd.underlying22 T.c22) (And.intro T.g22 (And.intro T.b22 T.z22))))) (And.intro (And.intro (And.intro (And.intro T.s22 @Tryd.underlying41) (And.intro T.c41 (And.intro T.g41 T.b41))) (And.intro (And.intro T.z41 @Tryd.underlying61) (And.intro T.c61 (And.intro T.g61 T.b61)))) (And.intro (And.intro (And.intro T.z61 T.p61) (And.intro @Tryd.underlying105 (And.intro T.c105 T.g105))) (And.intro (And.intro T.b105 T.z105) (And.intro T.h105 (And.intro T.f105_1 T.k90)))))) Tryd.ntmps111)

variable {Γ : Nat → List AV}

set_option maxHeartbeats 400000 in
theorem number_bad (s0 s : AS) (p : Nat) (l : List UInt8) (n size : Int) (hs : 0 ≤ size ∧ size ≤ 8) (h : Pen s0 s p l true) :
    ACalls Tryd.prog Γ 90 [.ptr p 0, .v (.int .u64 n), .v (.int .i64 size)] s (fun r s' => r = .tup [] ∧ Pen s0 s' p l true) := by
  refine acalls_body Tryd.func90 rfl Tryd.ntmps90 Tryd.results90 (by simp) ?_
  obtain ⟨x, hx, hb⟩ := h.obj
  have hsub : isub .i64 size 1 = size - 1 := isub_i64 (by omega)
  refine awp_reg_seq ?_
  intro K hK
  simp only [↓DN, UP, DF, qSh, qCv, qIA, qIx, qSl, qBu, qCe, qOn, reduceCtorEq, ↓reduceIte, nLT, nLE, nEQ, nAdd, nMul, nPow, nSub, zLT, zLE, zNat, RPen290, hsub]
  refine hK _ _ ?_
  clear hK K
  refine awp_block ?_
  refine awp_loop (fun E s1 => E 6 = .v (.int .i64 (size - 1)) ∧ E 0 = .ptr p 0 ∧ s1 = s) (fun _ _ => 0) ?_ ?_
  · exact ⟨by simp [upd], by simp [upd, initE], rfl⟩
  · rintro E1 s1 ⟨h6, h0, rfl⟩ -
    refine awp_seq_k ?_
    intro K hK
    by_cases hi : 0 ≤ size - 1
    · refine awp_reg_seq ?_
      intro K hK
      simp only [↓DN, UP, DF, qSh, qCv, qIA, qIx, qSl, qBu, qCe, qOn, reduceCtorEq, ↓reduceIte, nLT, nLE, nEQ, nAdd, nMul, nPow, nSub, zLT, zLE, zNat, RPen290, h6, h0, hx, decide_eq_true hi, Bool.not_true]
      refine hK _ _ ?_
      clear hK K
      refine awp_cond_k ?_
      intro X Y hX hY
      simp only [↓DN, UP, DF, qSh, qCv, qIA, qIx, qSl, qBu, qCe, qOn, reduceCtorEq, ↓reduceIte, nLT, nLE, nEQ, nAdd, nMul, nPow, nSub, zLT, zLE, zNat, RPen290, DB]
      refine hY ?_
      clear hX hY X Y
      refine awp_exit ?_
      simp only [thenQ, blockQ, if_true, retQ, AEnds, aresL, atuple, List.toList_toArray]
      exact ⟨_, s1, AV.weak.refl _, AS.le.refl _, rfl, h⟩
    · refine awp_reg_seq ?_
      intro K hK
      simp only [↓DN, UP, DF, qSh, qCv, qIA, qIx, qSl, qBu, qCe, qOn, reduceCtorEq, ↓reduceIte, nLT, nLE, nEQ, nAdd, nMul, nPow, nSub, zLT, zLE, zNat, RPen290, h6, h0, hx, decide_eq_false hi, Bool.not_true, Bool.true_eq_false, Bool.false_eq_true]
      refine hK _ _ ?_
      clear hK K
      refine awp_cond_k ?_
      intro X Y hX hY
      simp only [↓DN, UP, DF, qSh, qCv, qIA, qIx, qSl, qBu, qCe, qOn, reduceCtorEq, ↓reduceIte, nLT, nLE, nEQ, nAdd, nMul, nPow, nSub, zLT, zLE, zNat, RPen290, DB]
      refine hY ?_
      clear hX hY X Y
      refine awp_exit ?_
      simp only [thenQ, blockQ, if_true, retQ, AEnds, aresL, atuple, List.toList_toArray]
      exact ⟨_, s1, AV.weak.refl _, AS.le.refl _, rfl, h⟩

theorem number_any (s0 s : AS) (p : Nat) (st : List UInt8 × Bool) (n size : Nat) (hn : n < 2 ^ 64) (hs : size ≤ 8) (hl : st.1.length + 8 ≤ 2 ^ 45) (h : PenS s0 s p st) :
    ACalls Tryd.prog Γ 90 [.ptr p 0, .v (.int .u64 n), .v (.int .i64 size)] s (fun r s' => r = .tup [] ∧ PenS s0 s' p (penNum size n st)) := by
  obtain ⟨l, b⟩ := st
  cases b
  · exact number_calls s0 s p l n size hn hs hl h
  · exact number_bad s0 s p l n size (by omega) h

set_option maxHeartbeats 400000 in
theorem new_calls (s : AS) : ACalls Tryd.prog Γ 34 [] s (fun r s' => ∃ p, r = .ptr p 0 ∧ PenS s s' p ([], false)) := by
  refine acalls_body Tryd.func34 rfl Tryd.ntmps34 Tryd.results34 (by simp) ?_
  refine awp_reg_seq ?_
  intro K hK
  simp only [↓DN, UP, DF, qSh, qCv, qIA, qIx, qSl, qBu, qCe, qOn, reduceCtorEq, ↓reduceIte, nLT, nLE, nEQ, nAdd, nMul, nPow, nSub, zLT, zLE, zNat, RPen234]
  refine hK _ _ ?_
  clear hK K
  refine awp_reg_seq ?_
  intro K hK
  simp only [↓DN, UP, DF, qSh, qCv, qIA, qIx, qSl, qBu, qCe, qOn, reduceCtorEq, ↓reduceIte, nLT, nLE, nEQ, nAdd, nMul, nPow, nSub, zLT, zLE, zNat, RPen234, Array.toList_empty]
  intro p hp
  refine hK _ _ ?_
  refine awp_ret ?_
  simp only [↓DN, UP, DF, qSh, qCv, qIA, qIx, qSl, qBu, qCe, qOn, reduceCtorEq, ↓reduceIte, nLT, nLE, nEQ, nAdd, nMul, nPow, nSub, zLT, zLE, zNat, RPen234, retQ, AEnds, aresL, ares, atuple]
  exact ⟨_, _, AV.weak.refl _, AS.le.refl _, p, rfl, AS.le_set (AS.le.refl s) hp _, hp, _, AS.set_objs_same _ _ _, .inl ⟨rfl, rfl⟩⟩

set_option maxHeartbeats 400000 in
theorem small_calls (s0 s : AS) (p : Nat) (st : List UInt8 × Bool) (n : Int) (size : Nat) (hn : -9223372036854775808 ≤ n ∧ n ≤ 9223372036854775807) (hs : size ≤ 8) (hl : st.1.length + 8 ≤ 2 ^ 45) (h : PenS s0 s p st) :
    ACalls Tryd.prog Γ 111 [.ptr p 0, .v (.int .i64 n), .v (.int .i64 size)] s (fun r s' => r = .tup [] ∧ PenS s0 s' p (penSmall size n st)) := by
  refine acalls_body Tryd.func111 rfl Tryd.ntmps111 Tryd.results111 (by simp) ?_
  obtain ⟨x, hx, hb⟩ := h.obj
  refine awp_seq_k ?_
  intro K hK
  have hmul : imul .i64 8 (size : Int) = 8 * size := imul_i64 (by omega)
  have hnn : ¬ (8 * (size : Int) < 0) := by omega
  by_cases h0 : n < 0
  · refine awp_reg_seq ?_
    intro K hK
    simp only [↓DN, UP, DF, qSh, qCv, qIA, qIx, qSl, qBu, qCe, qOn, reduceCtorEq, ↓reduceIte, nLT, nLE, nEQ, nAdd, nMul, nPow, nSub, zLT, zLE, zNat, RPen2111, decide_eq_true h0, Bool.true_eq_false]
    refine hK _ _ ?_
    clear hK K
    refine awp_cond_k ?_
    intro X Y hX hY
    simp only [↓DN, UP, DF, qSh, qCv, qIA, qIx, qSl, qBu, qCe, qOn, reduceCtorEq, ↓reduceIte, nLT, nLE, nEQ, nAdd, nMul, nPow, nSub, zLT, zLE, zNat, RPen2111, DB]
    refine hX ?_
    clear hX hY X Y
    refine awp_reg_seq ?_
    intro K hK
    simp only [↓DN, UP, DF, qSh, qCv, qIA, qIx, qSl, qBu, qCe, qOn, reduceCtorEq, ↓reduceIte, nLT, nLE, nEQ, nAdd, nMul, nPow, nSub, zLT, zLE, zNat, RPen2111, hx]
    refine hK _ _ ?_
    clear hK K
    refine awp_ret ?_
    simp only [thenQ, retQ, AEnds, aresL, atuple, List.toList_toArray]
    refine ⟨_, _, AV.weak.refl _, AS.le.refl _, rfl, ?_⟩
    have : penSmall size n st = (st.1, true) := by unfold penSmall; rw [if_neg (by omega)]
    rw [this]
    exact h.bad hx hb true
  · by_cases h1 : 2 ^ (8 * size) ≤ n
    · refine awp_reg_seq ?_
      intro K hK
      simp only [↓DN, UP, DF, qSh, qCv, qIA, qIx, qSl, qBu, qCe, qOn, reduceCtorEq, ↓reduceIte, nLT, nLE, nEQ, nAdd, nMul, nPow, nSub, zLT, zLE, zNat, RPen2111, decide_eq_false h0, Bool.false_eq_true, hmul, hnn, shr_small n size (by omega) (by omega), decide_eq_true h1]
      refine hK _ _ ?_
      clear hK K
      refine awp_cond_k ?_
      intro X Y hX hY
      simp only [↓DN, UP, DF, qSh, qCv, qIA, qIx, qSl, qBu, qCe, qOn, reduceCtorEq, ↓reduceIte, nLT, nLE, nEQ, nAdd, nMul, nPow, nSub, zLT, zLE, zNat, RPen2111, DB]
      refine hX ?_
      clear hX hY X Y
      refine awp_reg_seq ?_
      intro K hK
      simp only [↓DN, UP, DF, qSh, qCv, qIA, qIx, qSl, qBu, qCe, qOn, reduceCtorEq, ↓reduceIte, nLT, nLE, nEQ, nAdd, nMul, nPow, nSub, zLT, zLE, zNat, RPen2111, hx]
      refine hK _ _ ?_
      clear hK K
      refine awp_ret ?_
      simp only [thenQ, retQ, AEnds, aresL, atuple, List.toList_toArray]
      refine ⟨_, _, AV.weak.refl _, AS.le.refl _, rfl, ?_⟩
      have : penSmall size n st = (st.1, true) := by unfold penSmall; rw [if_neg (by omega)]
      rw [this]
      exact h.bad hx hb true
    · refine awp_reg_seq ?_
      intro K hK
      simp only [↓DN, UP, DF, qSh, qCv, qIA, qIx, qSl, qBu, qCe, qOn, reduceCtorEq, ↓reduceIte, nLT, nLE, nEQ, nAdd, nMul, nPow, nSub, zLT, zLE, zNat, RPen2111, decide_eq_false h0, Bool.false_eq_true, hmul, hnn, shr_small n size (by omega) (by omega), decide_eq_false h1]
      refine hK _ _ ?_
      clear hK K
      refine awp_cond_k ?_
      intro X Y hX hY
      simp only [↓DN, UP, DF, qSh, qCv, qIA, qIx, qSl, qBu, qCe, qOn, reduceCtorEq, ↓reduceIte, nLT, nLE, nEQ, nAdd, nMul, nPow, nSub, zLT, zLE, zNat, RPen2111, DB]
      refine hY ?_
      clear hX hY X Y
      refine awp_skip ?_
      refine hK _ _ ?_
      clear hK K
      obtain ⟨m, rfl⟩ := Int.eq_ofNat_of_zero_le (Int.not_lt.1 h0)
      have hconv : iconv .u64 (m : Int) = m := iconv_u64_nat m (by omega)
      refine awp_reg_end ?_
      intro K hK
      simp only [↓DN, UP, DF, qSh, qCv, qIA, qIx, qSl, qBu, qCe, qOn, reduceCtorEq, ↓reduceIte, nLT, nLE, nEQ, nAdd, nMul, nPow, nSub, zLT, zLE, zNat, RPen2111, hconv]
      refine acallk (number_any s0 s p st m size (by omega) hs hl h) ?_
      rintro r s' ⟨rfl, hp⟩
      simp only [↓AXq_nil, ↓AXq_cons, pval, DX, Nat.reduceBEq, ↓DN, UP, DF, qSh, qCv, qIA, qIx, qSl, qBu, qCe, qOn, reduceCtorEq, ↓reduceIte, nLT, nLE, nEQ, nAdd, nMul, nPow, nSub, zLT, zLE, zNat, RPen2111]
      refine hK _ _ ?_
      clear hK K
      simp only [retQ, AEnds, aresL, atuple, List.toList_toArray]
      refine ⟨_, _, AV.weak.refl _, AS.le.refl _, rfl, ?_⟩
      have : penSmall size m st = penNum size m st := by unfold penSmall; rw [if_pos (by omega)]; rfl
      rw [this]
      exact hp

end Go.Proofs.YtooeklnbdgoneaaDoor


