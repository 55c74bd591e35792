/- Contracts of the program's functions, each walked once; the conditions stand in each theorem. -/
import Derived.Test.YtcnilmidfhpckaaGreatDoorAMp6
import Derived.Test.YtcnilmidfhpckaaGreatDoorW1
set_option linter.unusedSimpArgs false
set_option linter.unusedVariables false
open Nat renaming reduceLT → Na, reduceLeDiff → Nb, reduceEqDiff → Nc, reduceAdd → Nk, reduceMul → Nf, reducePow → Ng, reduceSub → Nh
open Int renaming reduceLT → Za, reduceLE → Zb, reduceToNat → Zc
open Go.AM renaming ashift → Qa, aconv → Qb, aindexAddr → Qc, aindex → Qd, aslice → Qe, abuiltin → Qf, awp_reg_seq → wS, awp_reg_end → wE, awp_seq_k → wK, awp_cond_k → wC
open Go.AM.AV renaming cells → Qg, one → Qh
set_option autoImplicit false
namespace Go.Proofs.YtcnilmidfhpckaaGreatDoor
open Go Go.AM Go.Proofs

variable {Γ : Nat → List AV}

theorem fitI_iff (x : Int) : fitI x ↔ x = 1 ∨ x = 2 ∨ x = 4 ∨ x = 8 ∨ x = 16 ∨ x = 32 := by unfold fitI Fit; omega

theorem refFits18_calls (x : Int) (s : AS) : ACalls Tryz.prog Γ 53 [.v (.int .i64 x)] s (fun r s' => r = .v (.bool (decide (fitI x))) ∧ s' = s) := by
  refine acalls_body Tryz.func53 rfl Tryz.ntmps53 Tryz.results53 (by simp) ?_
  refine wS fun K hK => ?_
  simp only [↓DN,UP,DF,Qa,Qb,Qc,Qd,Qe,Qf,Qg,Qh,reduceCtorEq,↓reduceIte,Na,Nb,Nc,Nk,Nf,Ng,Nh,Za,Zb,Zc,TT]
  refine hK _ _ ?_;clear hK K
  rcases tt6 (x == 1) (x == 2) (x == 4) (x == 8) (x == 16) (x == 32) with hd | hd | hd | hd | hd | hd | hd
  all_goals
    refine wS fun K hK => ?_
    simp only [↓DN,UP,DF,Qa,Qb,Qc,Qd,Qe,Qf,Qg,Qh,reduceCtorEq,↓reduceIte,Na,Nb,Nc,Nk,Nf,Ng,Nh,Za,Zb,Zc,TT, hd]
    refine hK _ _ ?_;clear hK K
    refine awp_ret ?_
    try simp only [thenQ, blockQ]
    simp only [retQ, AEnds, aresL, ares, List.toList_toArray, ↓upd_same]; try simp only [UP,DF,Nc,↓reduceIte,DT]
    simp only [beq_iff_eq, beq_eq_false_iff_ne, ne_eq] at hd
    have hf := fitI_iff x
  case inr.inr.inr.inr.inr.inr =>
    rw [decide_eq_false (by rw [hf]; omega)]
    exact ⟨_, _, AV.weak.refl _, AS.le.refl _, rfl, rfl⟩
  all_goals
    rw [decide_eq_true (by rw [hf]; omega)]
    exact ⟨_, _, AV.weak.refl _, AS.le.refl _, rfl, rfl⟩

theorem refLevel18_calls (x : Int) (s : AS) : ACalls Tryz.prog Γ 87 [.v (.int .i64 x)] s (fun r s' => r = .v (.int .i64 (lvI x)) ∧ s' = s) := by
  refine acalls_body Tryz.func87 rfl Tryz.ntmps87 Tryz.results87 (by simp) ?_
  refine wS fun K hK => ?_
  simp only [↓DN,UP,DF,Qa,Qb,Qc,Qd,Qe,Qf,Qg,Qh,reduceCtorEq,↓reduceIte,Na,Nb,Nc,Nk,Nf,Ng,Nh,Za,Zb,Zc,TT]
  refine hK _ _ ?_;clear hK K
  refine wK fun K hK => ?_
  by_cases h : 0 ≤ x ∧ x < 63
  · obtain ⟨n, rfl⟩ := Int.eq_ofNat_of_zero_le h.1
    have hn : n < 63 := by omega
    have h0 : decide ((n : Int) < 0) = false := decide_eq_false (by omega)
    have h1 : decide ((62 : Int) < (n : Int)) = false := decide_eq_false (by omega)
    refine wS fun K hK => ?_
    simp only [↓DN,UP,DF,Qa,Qb,Qc,Qd,Qe,Qf,Qg,Qh,reduceCtorEq,↓reduceIte,Na,Nb,Nc,Nk,Nf,Ng,Nh,Za,Zb,Zc,TT, h0, h1]
    refine hK _ _ ?_;clear hK K
    refine wC fun X Y hX hY => ?_
    simp only [↓DN,UP,DF,Qa,Qb,Qc,Qd,Qe,Qf,Qg,Qh,reduceCtorEq,↓reduceIte,Na,Nb,Nc,Nk,Nf,Ng,Nh,Za,Zb,Zc,TT, DB]
    refine hY ?_;clear hX hY X Y
    refine awp_skip ?_
    refine hK _ _ ?_;clear hK K
    refine wS fun K hK => ?_
    simp only [↓DN,UP,DF,Qa,Qb,Qc,Qd,Qe,Qf,Qg,Qh,reduceCtorEq,↓reduceIte,Na,Nb,Nc,Nk,Nf,Ng,Nh,Za,Zb,Zc,TT]
    refine hK _ _ ?_;clear hK K
    refine wK fun K hK => ?_
    refine wS fun K hK => ?_
    simp only [↓DN,UP,DF,Qa,Qb,Qc,Qd,Qe,Qf,Qg,Qh,reduceCtorEq,↓reduceIte,Na,Nb,Nc,Nk,Nf,Ng,Nh,Za,Zb,Zc,TT]
    refine hK _ _ ?_;clear hK K
    refine awp_block ?_
    refine awp_loop (fun E s2 => ∃ (k m : Nat), m < 63 ∧ k + lv m = lv n ∧ E 3 = .v (.int .i64 k) ∧ E 4 = .v (.int .i64 m) ∧ s2 = s)
      (fun E _ => match E 4 with | .v (.int _ i) => i.toNat | _ => 0) ?_ ?_
    · exact ⟨0, n, hn, by omega, by simp only [upd, Nc, ↓reduceIte]; rfl, by simp only [upd, initE, List.getD_cons_zero, List.getD_cons_succ, Nc, ↓reduceIte], rfl⟩
    · rintro E1 s2 ⟨k, m, hm, hk, g3, g4, rfl⟩ -
      refine wK fun K2 hK2 => ?_
      have hlv := lv_half m hm
      have hr : irem (m : Int) 2 = ((m % 2 : Nat) : Int) := irem_u m 2
      have hq : iquo .i64 (m : Int) 2 = ((m / 2 : Nat) : Int) := iquo_nat m (by omega)
      by_cases hodd : m % 2 = 1
      · have hl2 := hlv.1 hodd
        have hle := lv_le n
        have hy : ((irem (m : Int) 2) == 1) = true := by rw [hr]; exact yesI (by omega)
        refine wS fun K hK => ?_
        simp only [↓DN,UP,DF,Qa,Qb,Qc,Qd,Qe,Qf,Qg,Qh,reduceCtorEq,↓reduceIte,Na,Nb,Nc,Nk,Nf,Ng,Nh,Za,Zb,Zc,TT, g4, hy]
        refine hK _ _ ?_;clear hK K
        refine wC fun X Y hX hY => ?_
        simp only [↓DN,UP,DF,Qa,Qb,Qc,Qd,Qe,Qf,Qg,Qh,reduceCtorEq,↓reduceIte,Na,Nb,Nc,Nk,Nf,Ng,Nh,Za,Zb,Zc,TT, DB, hy]
        refine hX ?_;clear hX hY X Y
        refine awp_skip ?_
        refine hK2 _ _ ?_;clear hK2 K2
        refine wK fun K3 hK3 => ?_
        refine awp_block ?_
        refine wE fun K hK => ?_
        simp only [↓DN,UP,DF,Qa,Qb,Qc,Qd,Qe,Qf,Qg,Qh,reduceCtorEq,↓reduceIte,Na,Nb,Nc,Nk,Nf,Ng,Nh,Za,Zb,Zc,TT, g3]
        refine hK _ _ ?_;clear hK K
        simp only [blockQ, thenQ, if_true, if_false]
        refine hK3 _ _ ?_;clear hK3 K3
        refine wE fun K hK => ?_
        simp only [↓DN,UP,DF,Qa,Qb,Qc,Qd,Qe,Qf,Qg,Qh,reduceCtorEq,↓reduceIte,Na,Nb,Nc,Nk,Nf,Ng,Nh,Za,Zb,Zc,TT, g4, hq, eye_succ k (by omega)]
        refine hK _ _ ?_;clear hK K
        refine ⟨⟨k + 1, m / 2, by omega, by omega, by simp only [upd, Nc, ↓reduceIte], by simp only [upd, Nc, ↓reduceIte], rfl⟩, ?_⟩
        simp only [g4, upd, ↓reduceIte]
        omega
      · have hl2 := hlv.2 (by omega)
        have hy : ((irem (m : Int) 2) == 1) = false := by rw [hr]; exact notI (by omega)
        refine wS fun K hK => ?_
        simp only [↓DN,UP,DF,Qa,Qb,Qc,Qd,Qe,Qf,Qg,Qh,reduceCtorEq,↓reduceIte,Na,Nb,Nc,Nk,Nf,Ng,Nh,Za,Zb,Zc,TT, g4, hy]
        refine hK _ _ ?_;clear hK K
        refine wC fun X Y hX hY => ?_
        simp only [↓DN,UP,DF,Qa,Qb,Qc,Qd,Qe,Qf,Qg,Qh,reduceCtorEq,↓reduceIte,Na,Nb,Nc,Nk,Nf,Ng,Nh,Za,Zb,Zc,TT, DB, hy]
        refine hY ?_;clear hX hY X Y
        refine awp_exit ?_
        simp only [thenQ, blockQ, if_true]
        refine hK _ _ ?_;clear hK hK2 K2 K
        refine wS fun K hK => ?_
        simp only [↓DN,UP,DF,Qa,Qb,Qc,Qd,Qe,Qf,Qg,Qh,reduceCtorEq,↓reduceIte,Na,Nb,Nc,Nk,Nf,Ng,Nh,Za,Zb,Zc,TT, g3]
        refine hK _ _ ?_;clear hK K
        refine awp_ret ?_
        try simp only [thenQ, blockQ]
        simp only [retQ, AEnds, aresL, ares, List.toList_toArray, ↓upd_same]; try simp only [UP,DF,Nc,↓reduceIte,DT]
        exact ⟨_, _, AV.weak.refl _, AS.le.refl _, by rw [lvI_nat hn, show k = lv n by omega], rfl⟩
  · rw [show lvI x = 0 from if_neg h]
    by_cases h0 : x < 0
    · refine wS fun K hK => ?_
      simp only [↓DN,UP,DF,Qa,Qb,Qc,Qd,Qe,Qf,Qg,Qh,reduceCtorEq,↓reduceIte,Na,Nb,Nc,Nk,Nf,Ng,Nh,Za,Zb,Zc,TT, decide_eq_true h0]
      refine hK _ _ ?_;clear hK K
      refine wC fun X Y hX hY => ?_
      simp only [↓DN,UP,DF,Qa,Qb,Qc,Qd,Qe,Qf,Qg,Qh,reduceCtorEq,↓reduceIte,Na,Nb,Nc,Nk,Nf,Ng,Nh,Za,Zb,Zc,TT, DB]
      refine hX ?_;clear hX hY X Y
      refine wS fun K hK => ?_
      simp only [↓DN,UP,DF,Qa,Qb,Qc,Qd,Qe,Qf,Qg,Qh,reduceCtorEq,↓reduceIte,Na,Nb,Nc,Nk,Nf,Ng,Nh,Za,Zb,Zc,TT]
      refine hK _ _ ?_;clear hK K
      refine awp_ret ?_
      try simp only [thenQ, blockQ]
      simp only [retQ, AEnds, aresL, ares, List.toList_toArray, ↓upd_same]; try simp only [UP,DF,Nc,↓reduceIte,DT]
      exact ⟨_, _, AV.weak.refl _, AS.le.refl _, rfl, rfl⟩
    · have h1 : (62 : Int) < x := by omega
      refine wS fun K hK => ?_
      simp only [↓DN,UP,DF,Qa,Qb,Qc,Qd,Qe,Qf,Qg,Qh,reduceCtorEq,↓reduceIte,Na,Nb,Nc,Nk,Nf,Ng,Nh,Za,Zb,Zc,TT, decide_eq_false h0, decide_eq_true h1]
      refine hK _ _ ?_;clear hK K
      refine wC fun X Y hX hY => ?_
      simp only [↓DN,UP,DF,Qa,Qb,Qc,Qd,Qe,Qf,Qg,Qh,reduceCtorEq,↓reduceIte,Na,Nb,Nc,Nk,Nf,Ng,Nh,Za,Zb,Zc,TT, DB]
      refine hX ?_;clear hX hY X Y
      refine wS fun K hK => ?_
      simp only [↓DN,UP,DF,Qa,Qb,Qc,Qd,Qe,Qf,Qg,Qh,reduceCtorEq,↓reduceIte,Na,Nb,Nc,Nk,Nf,Ng,Nh,Za,Zb,Zc,TT]
      refine hK _ _ ?_;clear hK K
      refine awp_ret ?_
      try simp only [thenQ, blockQ]
      simp only [retQ, AEnds, aresL, ares, List.toList_toArray, ↓upd_same]; try simp only [UP,DF,Nc,↓reduceIte,DT]
      exact ⟨_, _, AV.weak.refl _, AS.le.refl _, rfl, rfl⟩

theorem refKids18_calls (x : Int) (hx : -9000000000000000000 ≤ x ∧ x ≤ 9000000000000000000) (s : AS) : ACalls Tryz.prog Γ 70 [.v (.int .i64 x)] s
    (fun r s' => r = (match kidsI x with | some k => .tup [.v (.int .i64 k.1), .v (.int .i64 k.2), .v (.bool true)] | none => .tup [.v (.int .i64 0), .v (.int .i64 0), .v (.bool false)]) ∧ s' = s) := by
  refine acalls_body Tryz.func70 rfl Tryz.ntmps70 Tryz.results70 (by simp) ?_
  have hl := lvI_le x
  have hp := pow_le5 hl
  refine wS fun K hK => ?_
  simp only [↓DN,UP,DF,Qa,Qb,Qc,Qd,Qe,Qf,Qg,Qh,reduceCtorEq,↓reduceIte,Na,Nb,Nc,Nk,Nf,Ng,Nh,Za,Zb,Zc,TT]
  refine hK _ _ ?_;clear hK K
  refine wK fun K hK => ?_
  refine wS fun K hK => ?_
  simp only [↓DN,UP,DF,Qa,Qb,Qc,Qd,Qe,Qf,Qg,Qh,reduceCtorEq,↓reduceIte,Na,Nb,Nc,Nk,Nf,Ng,Nh,Za,Zb,Zc,TT]
  refine acallk (refLevel18_calls x _) ?_
  rintro r s1 ⟨rfl, rfl⟩
  by_cases h : lvI x = 0
  · simp only [↓AXq_nil,↓AXq_cons,pval,DX,Nat.reduceBEq,↓DN,UP,DF,Qa,Qb,Qc,Qd,Qe,Qf,Qg,Qh,reduceCtorEq,↓reduceIte,Na,Nb,Nc,Nk,Nf,Ng,Nh,Za,Zb,Zc,TT, nat0 h]
    refine hK _ _ ?_;clear hK K
    refine wC fun X Y hX hY => ?_
    simp only [↓DN,UP,DF,Qa,Qb,Qc,Qd,Qe,Qf,Qg,Qh,reduceCtorEq,↓reduceIte,Na,Nb,Nc,Nk,Nf,Ng,Nh,Za,Zb,Zc,TT, DB]
    refine hX ?_;clear hX hY X Y
    refine wS fun K hK => ?_
    simp only [↓DN,UP,DF,Qa,Qb,Qc,Qd,Qe,Qf,Qg,Qh,reduceCtorEq,↓reduceIte,Na,Nb,Nc,Nk,Nf,Ng,Nh,Za,Zb,Zc,TT]
    refine hK _ _ ?_;clear hK K
    refine awp_ret ?_
    try simp only [thenQ, blockQ]
    simp only [retQ, AEnds, aresL, ares, List.toList_toArray, ↓upd_same]; try simp only [UP,DF,Nc,↓reduceIte,DT]
    rw [show kidsI x = none from if_pos h]
    exact ⟨_, _, AV.weak.refl _, AS.le.refl _, rfl, rfl⟩
  · simp only [↓AXq_nil,↓AXq_cons,pval,DX,Nat.reduceBEq,↓DN,UP,DF,Qa,Qb,Qc,Qd,Qe,Qf,Qg,Qh,reduceCtorEq,↓reduceIte,Na,Nb,Nc,Nk,Nf,Ng,Nh,Za,Zb,Zc,TT, nat0F h]
    refine hK _ _ ?_;clear hK K
    refine wC fun X Y hX hY => ?_
    simp only [↓DN,UP,DF,Qa,Qb,Qc,Qd,Qe,Qf,Qg,Qh,reduceCtorEq,↓reduceIte,Na,Nb,Nc,Nk,Nf,Ng,Nh,Za,Zb,Zc,TT, DB]
    refine hY ?_;clear hX hY X Y
    refine awp_skip ?_
    refine hK _ _ ?_;clear hK K
    refine wS fun K hK => ?_
    simp only [↓DN,UP,DF,Qa,Qb,Qc,Qd,Qe,Qf,Qg,Qh,reduceCtorEq,↓reduceIte,Na,Nb,Nc,Nk,Nf,Ng,Nh,Za,Zb,Zc,TT]
    refine hK _ _ ?_;clear hK K
    refine wK fun K hK => ?_
    refine wS fun K hK => ?_
    simp only [↓DN,UP,DF,Qa,Qb,Qc,Qd,Qe,Qf,Qg,Qh,reduceCtorEq,↓reduceIte,Na,Nb,Nc,Nk,Nf,Ng,Nh,Za,Zb,Zc,TT]
    refine hK _ _ ?_;clear hK K
    refine awp_block ?_
    refine awp_loop (fun E s2 => ∃ (i : Nat), i < lvI x ∧ E 6 = .v (.int .i64 ((i + 1 : Nat) : Int)) ∧ E 5 = .v (.int .i64 ((2 ^ i : Nat) : Int)) ∧ E 0 = .v (.int .i64 x) ∧ s2 = s1)
      (fun E _ => match E 6 with | .v (.int _ i) => 7 - i.toNat | _ => 0) ?_ ?_
    · exact ⟨0, by omega, by simp only [upd, Nc, ↓reduceIte]; rfl, by simp only [upd, Nc, ↓reduceIte]; rfl, by simp only [upd, initE, List.getD_cons_zero, List.getD_cons_succ, Nc, ↓reduceIte], rfl⟩
    · rintro E1 s2 ⟨i, hi, g6, g5, g0, rfl⟩ -
      refine wK fun K2 hK2 => ?_
      refine wS fun K hK => ?_
      simp only [↓DN,UP,DF,Qa,Qb,Qc,Qd,Qe,Qf,Qg,Qh,reduceCtorEq,↓reduceIte,Na,Nb,Nc,Nk,Nf,Ng,Nh,Za,Zb,Zc,TT, g6, g0]
      refine acallk (refLevel18_calls x _) ?_
      rintro r s3 ⟨rfl, rfl⟩
      by_cases hi' : i + 1 < lvI x
      · simp only [↓AXq_nil,↓AXq_cons,pval,DX,Nat.reduceBEq,↓DN,UP,DF,Qa,Qb,Qc,Qd,Qe,Qf,Qg,Qh,reduceCtorEq,↓reduceIte,Na,Nb,Nc,Nk,Nf,Ng,Nh,Za,Zb,Zc,TT, eye_lt_nat, decide_eq_true hi']
        refine hK _ _ ?_;clear hK K
        refine wC fun X Y hX hY => ?_
        simp only [↓DN,UP,DF,Qa,Qb,Qc,Qd,Qe,Qf,Qg,Qh,reduceCtorEq,↓reduceIte,Na,Nb,Nc,Nk,Nf,Ng,Nh,Za,Zb,Zc,TT, DB]
        refine hX ?_;clear hX hY X Y
        refine awp_skip ?_
        refine hK2 _ _ ?_;clear hK2 K2
        refine wK fun K3 hK3 => ?_
        refine awp_block ?_
        have hp2 := pow_le5 (show i ≤ 5 by omega)
        have hm : imul .i64 ((2 ^ i : Nat) : Int) 2 = ((2 ^ (i + 1) : Nat) : Int) := by rw [imul_i64 (by omega), Nat.pow_succ]; omega
        refine wE fun K hK => ?_
        simp only [↓DN,UP,DF,Qa,Qb,Qc,Qd,Qe,Qf,Qg,Qh,reduceCtorEq,↓reduceIte,Na,Nb,Nc,Nk,Nf,Ng,Nh,Za,Zb,Zc,TT, g5, hm]
        refine hK _ _ ?_;clear hK K
        simp only [blockQ, thenQ, if_true, if_false]
        refine hK3 _ _ ?_;clear hK3 K3
        refine wE fun K hK => ?_
        simp only [↓DN,UP,DF,Qa,Qb,Qc,Qd,Qe,Qf,Qg,Qh,reduceCtorEq,↓reduceIte,Na,Nb,Nc,Nk,Nf,Ng,Nh,Za,Zb,Zc,TT, g6, eye_succ (i + 1) (by omega)]
        refine hK _ _ ?_;clear hK K
        refine ⟨⟨i + 1, hi', by simp only [upd, Nc, ↓reduceIte], by simp only [upd, Nc, ↓reduceIte], by simp only [upd, g0, Nc, ↓reduceIte], rfl⟩, ?_⟩
        simp only [g6, upd, ↓reduceIte]
        omega
      · simp only [↓AXq_nil,↓AXq_cons,pval,DX,Nat.reduceBEq,↓DN,UP,DF,Qa,Qb,Qc,Qd,Qe,Qf,Qg,Qh,reduceCtorEq,↓reduceIte,Na,Nb,Nc,Nk,Nf,Ng,Nh,Za,Zb,Zc,TT, eye_lt_nat, decide_eq_false hi']
        refine hK _ _ ?_;clear hK K
        refine wC fun X Y hX hY => ?_
        simp only [↓DN,UP,DF,Qa,Qb,Qc,Qd,Qe,Qf,Qg,Qh,reduceCtorEq,↓reduceIte,Na,Nb,Nc,Nk,Nf,Ng,Nh,Za,Zb,Zc,TT, DB]
        refine hY ?_;clear hX hY X Y
        refine awp_exit ?_
        simp only [thenQ, blockQ, if_true]
        refine hK _ _ ?_;clear hK hK2 K2 K
        have he : 2 ^ i = 2 ^ lvI x / 2 := by
          rw [show lvI x = i + 1 by omega, Nat.pow_succ]; omega
        rw [he] at g5
        refine wS fun K hK => ?_
        simp only [↓DN,UP,DF,Qa,Qb,Qc,Qd,Qe,Qf,Qg,Qh,reduceCtorEq,↓reduceIte,Na,Nb,Nc,Nk,Nf,Ng,Nh,Za,Zb,Zc,TT, g5, g0, isub_i64 (a := x) (b := ((2 ^ lvI x / 2 : Nat) : Int)) (by omega), iadd_i64 (a := x) (b := ((2 ^ lvI x / 2 : Nat) : Int)) (by omega)]
        refine hK _ _ ?_;clear hK K
        refine awp_ret ?_
        try simp only [thenQ, blockQ]
        simp only [retQ, AEnds, aresL, ares, List.toList_toArray, ↓upd_same]; try simp only [UP,DF,Nc,↓reduceIte,DT]
        rw [show kidsI x = some (_, _) from if_neg h]
        exact ⟨_, _, AV.weak.refl _, AS.le.refl _, rfl, rfl⟩

end Go.Proofs.YtcnilmidfhpckaaGreatDoor


set_option autoImplicit false
namespace Go.Proofs.YtcnilmidfhpckaaGreatDoor
open Go Go.AM Go.Proofs


variable {Γ : Nat → List AV}

set_option maxHeartbeats 4000000 in
theorem refUnder18_calls (x : Int) (s : AS) : ACalls Tryz.prog Γ 41 [.v (.int .i64 x)] s (fun r s' => r = .tup [.v (.int .i64 (undI x).1), .v (.int .i64 (undI x).2)] ∧ s' = s) := by
  refine acalls_body Tryz.func41 rfl Tryz.ntmps41 Tryz.results41 (by simp) ?_
  refine wS fun K hK => ?_
  simp only [↓DN,UP,DF,Qa,Qb,Qc,Qd,Qe,Qf,Qg,Qh,reduceCtorEq,↓reduceIte,Na,Nb,Nc,Nk,Nf,Ng,Nh,Za,Zb,Zc,TT]
  refine hK _ _ ?_;clear hK K
  refine wK fun K hK => ?_
  by_cases h : 0 ≤ x ∧ x < 63
  · obtain ⟨n, rfl⟩ := Int.eq_ofNat_of_zero_le h.1
    have hn : n < 63 := by omega
    have h1 : decide ((62 : Int) < (n : Int)) = false := decide_eq_false (by omega)
    have hund : undI (n : Int) = ((lo n : Int), (hi n : Int)) := if_pos h
    refine wS fun K hK => ?_
    simp only [↓DN,UP,DF,Qa,Qb,Qc,Qd,Qe,Qf,Qg,Qh,reduceCtorEq,↓reduceIte,Na,Nb,Nc,Nk,Nf,Ng,Nh,Za,Zb,Zc,TT, negF, h1]
    refine hK _ _ ?_;clear hK K
    refine wC fun X Y hX hY => ?_
    simp only [↓DN,UP,DF,Qa,Qb,Qc,Qd,Qe,Qf,Qg,Qh,reduceCtorEq,↓reduceIte,Na,Nb,Nc,Nk,Nf,Ng,Nh,Za,Zb,Zc,TT, DB]
    refine hY ?_;clear hX hY X Y
    refine awp_skip ?_
    refine hK _ _ ?_;clear hK K
    refine wS fun K hK => ?_
    simp only [↓DN,UP,DF,Qa,Qb,Qc,Qd,Qe,Qf,Qg,Qh,reduceCtorEq,↓reduceIte,Na,Nb,Nc,Nk,Nf,Ng,Nh,Za,Zb,Zc,TT]
    refine hK _ _ ?_;clear hK K
    refine wK fun K hK => ?_
    refine awp_block ?_
    refine awp_loop (fun E s2 => ∃ (m : Nat), m < 63 ∧ lo m = lo n ∧ E 4 = .v (.int .i64 m) ∧ E 5 = .v (.int .i64 n) ∧ s2 = s)
      (fun E _ => match E 4 with | .v (.int _ i) => lvI i | _ => 0) ?_ ?_
    · exact ⟨n, hn, rfl, by simp only [upd, initE, List.getD_cons_zero, List.getD_cons_succ, Nc, ↓reduceIte], by simp only [upd, initE, List.getD_cons_zero, List.getD_cons_succ, Nc, ↓reduceIte], rfl⟩
    · rintro E1 s2 ⟨m, hm, hlo, g4, g5, rfl⟩ -
      refine wK fun K2 hK2 => ?_
      refine wS fun K hK => ?_
      simp only [↓DN,UP,DF,Qa,Qb,Qc,Qd,Qe,Qf,Qg,Qh,reduceCtorEq,↓reduceIte,Na,Nb,Nc,Nk,Nf,Ng,Nh,Za,Zb,Zc,TT, g4]
      refine acallk (refLevel18_calls m _) ?_
      rintro r s3 ⟨rfl, rfl⟩
      rw [lvI_nat hm]
      by_cases hz : lv m = 0
      · simp only [↓AXq_nil,↓AXq_cons,pval,DX,Nat.reduceBEq,↓DN,UP,DF,Qa,Qb,Qc,Qd,Qe,Qf,Qg,Qh,reduceCtorEq,↓reduceIte,Na,Nb,Nc,Nk,Nf,Ng,Nh,Za,Zb,Zc,TT]
        refine hK _ _ ?_;clear hK K
        refine wC fun X Y hX hY => ?_
        simp only [↓DN,UP,DF,Qa,Qb,Qc,Qd,Qe,Qf,Qg,Qh,reduceCtorEq,↓reduceIte,Na,Nb,Nc,Nk,Nf,Ng,Nh,Za,Zb,Zc,TT, DB, eq_false (show ¬ (0 : Int) < ((lv m : Nat) : Int) by omega), not_false_eq_true]
        refine hY ?_;clear hX hY X Y
        refine awp_exit ?_
        simp only [thenQ, blockQ, if_true]
        refine hK _ _ ?_;clear hK hK2 K2 K
        have hL := (lo_leaf m hm hz).1
        refine wK fun K hK => ?_
        refine awp_block ?_
        refine awp_loop (fun E s4 => ∃ (m' : Nat), m' < 63 ∧ hi m' = hi n ∧ E 5 = .v (.int .i64 m') ∧ E 4 = .v (.int .i64 m) ∧ s4 = s3)
          (fun E _ => match E 5 with | .v (.int _ i) => lvI i | _ => 0) ?_ ?_
        · exact ⟨n, hn, rfl, by simp only [upd, g5, Nc, ↓reduceIte], by simp only [upd, g4, Nc, ↓reduceIte], rfl⟩
        · clear g4 g5
          rintro E2 s4 ⟨m', hm', hhi, g5, g4, rfl⟩ -
          refine wK fun K2 hK2 => ?_
          refine wS fun K hK => ?_
          simp only [↓DN,UP,DF,Qa,Qb,Qc,Qd,Qe,Qf,Qg,Qh,reduceCtorEq,↓reduceIte,Na,Nb,Nc,Nk,Nf,Ng,Nh,Za,Zb,Zc,TT, g5]
          refine acallk (refLevel18_calls m' _) ?_
          rintro r s5 ⟨rfl, rfl⟩
          rw [lvI_nat hm']
          by_cases hz' : lv m' = 0
          · simp only [↓AXq_nil,↓AXq_cons,pval,DX,Nat.reduceBEq,↓DN,UP,DF,Qa,Qb,Qc,Qd,Qe,Qf,Qg,Qh,reduceCtorEq,↓reduceIte,Na,Nb,Nc,Nk,Nf,Ng,Nh,Za,Zb,Zc,TT]
            refine hK _ _ ?_;clear hK K
            refine wC fun X Y hX hY => ?_
            simp only [↓DN,UP,DF,Qa,Qb,Qc,Qd,Qe,Qf,Qg,Qh,reduceCtorEq,↓reduceIte,Na,Nb,Nc,Nk,Nf,Ng,Nh,Za,Zb,Zc,TT, DB, eq_false (show ¬ (0 : Int) < ((lv m' : Nat) : Int) by omega), not_false_eq_true]
            refine hY ?_;clear hX hY X Y
            refine awp_exit ?_
            simp only [thenQ, blockQ, if_true]
            refine hK _ _ ?_;clear hK hK2 K2 K
            have hH := (lo_leaf m' hm' hz').2
            refine wS fun K hK => ?_
            simp only [↓DN,UP,DF,Qa,Qb,Qc,Qd,Qe,Qf,Qg,Qh,reduceCtorEq,↓reduceIte,Na,Nb,Nc,Nk,Nf,Ng,Nh,Za,Zb,Zc,TT, g4, g5, iquo_nat m (by omega), iquo_nat m' (by omega)]
            refine hK _ _ ?_;clear hK K
            refine awp_ret ?_
            try simp only [thenQ, blockQ]
            simp only [retQ, AEnds, aresL, ares, List.toList_toArray, ↓upd_same]; try simp only [UP,DF,Nc,↓reduceIte,DT]
            rw [← hL, ← hH, hlo, hhi, hund]
            exact ⟨_, _, AV.weak.refl _, AS.le.refl _, rfl, rfl⟩
          · obtain ⟨w1, w2, w3⟩ := hi_step m' hm' hz'
            simp only [↓AXq_nil,↓AXq_cons,pval,DX,Nat.reduceBEq,↓DN,UP,DF,Qa,Qb,Qc,Qd,Qe,Qf,Qg,Qh,reduceCtorEq,↓reduceIte,Na,Nb,Nc,Nk,Nf,Ng,Nh,Za,Zb,Zc,TT]
            refine hK _ _ ?_;clear hK K
            refine wC fun X Y hX hY => ?_
            simp only [↓DN,UP,DF,Qa,Qb,Qc,Qd,Qe,Qf,Qg,Qh,reduceCtorEq,↓reduceIte,Na,Nb,Nc,Nk,Nf,Ng,Nh,Za,Zb,Zc,TT, DB, eq_true (show (0 : Int) < ((lv m' : Nat) : Int) by omega), not_true_eq_false]
            refine hX ?_;clear hX hY X Y
            refine awp_skip ?_
            refine hK2 _ _ ?_;clear hK2 K2
            refine awp_block ?_
            have hkid : kidsI (m' : Int) = some (((m' : Int) - (hf m' : Int)), ((m' + hf m' : Nat) : Int)) := by
              unfold kidsI
              rw [lvI_nat hm', if_neg hz']
              unfold hf
              congr 2
            refine wE fun K hK => ?_
            simp only [↓DN,UP,DF,Qa,Qb,Qc,Qd,Qe,Qf,Qg,Qh,reduceCtorEq,↓reduceIte,Na,Nb,Nc,Nk,Nf,Ng,Nh,Za,Zb,Zc,TT, g5]
            refine acallk (refKids18_calls m' (by omega) _) ?_
            rintro r s6 ⟨rfl, rfl⟩
            rw [hkid]
            simp only [↓AXq_nil,↓AXq_cons,pval,DX,Nat.reduceBEq,↓DN,UP,DF,Qa,Qb,Qc,Qd,Qe,Qf,Qg,Qh,reduceCtorEq,↓reduceIte,Na,Nb,Nc,Nk,Nf,Ng,Nh,Za,Zb,Zc,TT]
            refine hK _ _ ⟨⟨m' + hf m', w3, by rw [w1, hhi], by simp only [upd, Nc, ↓reduceIte], by simp only [upd, g4, Nc, ↓reduceIte], rfl⟩, ?_⟩
            simp only [g5, upd, ↓reduceIte]
            rw [lvI_nat hm', lvI_nat w3]
            omega
      · obtain ⟨w1, w2, w3, w4⟩ := lo_step m hm hz
        simp only [↓AXq_nil,↓AXq_cons,pval,DX,Nat.reduceBEq,↓DN,UP,DF,Qa,Qb,Qc,Qd,Qe,Qf,Qg,Qh,reduceCtorEq,↓reduceIte,Na,Nb,Nc,Nk,Nf,Ng,Nh,Za,Zb,Zc,TT]
        refine hK _ _ ?_;clear hK K
        refine wC fun X Y hX hY => ?_
        simp only [↓DN,UP,DF,Qa,Qb,Qc,Qd,Qe,Qf,Qg,Qh,reduceCtorEq,↓reduceIte,Na,Nb,Nc,Nk,Nf,Ng,Nh,Za,Zb,Zc,TT, DB, eq_true (show (0 : Int) < ((lv m : Nat) : Int) by omega), not_true_eq_false]
        refine hX ?_;clear hX hY X Y
        refine awp_skip ?_
        refine hK2 _ _ ?_;clear hK2 K2
        refine awp_block ?_
        have hkid : kidsI (m : Int) = some (((m - hf m : Nat) : Int), ((m : Int) + (hf m : Int))) := by
          unfold kidsI
          rw [lvI_nat hm, if_neg hz]
          unfold hf at w4 ⊢
          congr 2
          omega
        refine wE fun K hK => ?_
        simp only [↓DN,UP,DF,Qa,Qb,Qc,Qd,Qe,Qf,Qg,Qh,reduceCtorEq,↓reduceIte,Na,Nb,Nc,Nk,Nf,Ng,Nh,Za,Zb,Zc,TT, g4]
        refine acallk (refKids18_calls m (by omega) _) ?_
        rintro r s6 ⟨rfl, rfl⟩
        rw [hkid]
        simp only [↓AXq_nil,↓AXq_cons,pval,DX,Nat.reduceBEq,↓DN,UP,DF,Qa,Qb,Qc,Qd,Qe,Qf,Qg,Qh,reduceCtorEq,↓reduceIte,Na,Nb,Nc,Nk,Nf,Ng,Nh,Za,Zb,Zc,TT]
        refine hK _ _ ⟨⟨m - hf m, w3, by rw [w1, hlo], by simp only [upd, Nc, ↓reduceIte], by simp only [upd, g5, Nc, ↓reduceIte], rfl⟩, ?_⟩
        simp only [g4, upd, ↓reduceIte]
        rw [lvI_nat hm, lvI_nat w3]
        omega
  · have hund : undI x = (0, -1) := if_neg h
    by_cases h0 : x < 0
    · refine wS fun K hK => ?_
      simp only [↓DN,UP,DF,Qa,Qb,Qc,Qd,Qe,Qf,Qg,Qh,reduceCtorEq,↓reduceIte,Na,Nb,Nc,Nk,Nf,Ng,Nh,Za,Zb,Zc,TT, decide_eq_true h0]
      refine hK _ _ ?_;clear hK K
      refine wC fun X Y hX hY => ?_
      simp only [↓DN,UP,DF,Qa,Qb,Qc,Qd,Qe,Qf,Qg,Qh,reduceCtorEq,↓reduceIte,Na,Nb,Nc,Nk,Nf,Ng,Nh,Za,Zb,Zc,TT, DB]
      refine hX ?_;clear hX hY X Y
      refine wS fun K hK => ?_
      simp only [↓DN,UP,DF,Qa,Qb,Qc,Qd,Qe,Qf,Qg,Qh,reduceCtorEq,↓reduceIte,Na,Nb,Nc,Nk,Nf,Ng,Nh,Za,Zb,Zc,TT]
      refine hK _ _ ?_;clear hK K
      refine awp_ret ?_
      try simp only [thenQ, blockQ]
      simp only [retQ, AEnds, aresL, ares, List.toList_toArray, ↓upd_same]; try simp only [UP,DF,Nc,↓reduceIte,DT]
      rw [hund]
      exact ⟨_, _, AV.weak.refl _, AS.le.refl _, rfl, rfl⟩
    · have h1 : (62 : Int) < x := by omega
      refine wS fun K hK => ?_
      simp only [↓DN,UP,DF,Qa,Qb,Qc,Qd,Qe,Qf,Qg,Qh,reduceCtorEq,↓reduceIte,Na,Nb,Nc,Nk,Nf,Ng,Nh,Za,Zb,Zc,TT, decide_eq_false h0, decide_eq_true h1]
      refine hK _ _ ?_;clear hK K
      refine wC fun X Y hX hY => ?_
      simp only [↓DN,UP,DF,Qa,Qb,Qc,Qd,Qe,Qf,Qg,Qh,reduceCtorEq,↓reduceIte,Na,Nb,Nc,Nk,Nf,Ng,Nh,Za,Zb,Zc,TT, DB]
      refine hX ?_;clear hX hY X Y
      refine wS fun K hK => ?_
      simp only [↓DN,UP,DF,Qa,Qb,Qc,Qd,Qe,Qf,Qg,Qh,reduceCtorEq,↓reduceIte,Na,Nb,Nc,Nk,Nf,Ng,Nh,Za,Zb,Zc,TT]
      refine hK _ _ ?_;clear hK K
      refine awp_ret ?_
      try simp only [thenQ, blockQ]
      simp only [retQ, AEnds, aresL, ares, List.toList_toArray, ↓upd_same]; try simp only [UP,DF,Nc,↓reduceIte,DT]
      rw [hund]
      exact ⟨_, _, AV.weak.refl _, AS.le.refl _, rfl, rfl⟩

end Go.Proofs.YtcnilmidfhpckaaGreatDoor


set_option autoImplicit false
namespace Go.Proofs.YtcnilmidfhpckaaGreatDoor
open Go Go.AM Go.Proofs


variable {Γ : Nat → List AV}

set_option maxHeartbeats 400000 in
theorem clone_calls (l : List UInt8) (sp : Sp) (ha : sp.isAny = false) (s : AS) (hl : l.length ≤ 2 ^ 45) : ACalls Tryz.prog Γ 37 [bytesV l sp] s (fun r s' => r = bytesV l .any ∧ s' = s) := by
  refine acalls_body Tryz.func37 rfl Tryz.ntmps37 Tryz.results37 (by simp) ?_
  unfold bytesV
  refine wS fun K hK => ?_
  simp only [↓DN,UP,DF,Qa,Qb,Qc,Qd,Qe,Qf,Qg,Qh,reduceCtorEq,↓reduceIte,Na,Nb,Nc,Nk,Nf,Ng,Nh,Za,Zb,Zc,TT]
  refine hK _ _ ?_;clear hK K
  refine wK fun K hK => ?_
  refine wS fun K hK => ?_
  simp only [↓DN,UP,DF,Qa,Qb,Qc,Qd,Qe,Qf,Qg,Qh,reduceCtorEq,↓reduceIte,Na,Nb,Nc,Nk,Nf,Ng,Nh,Za,Zb,Zc,TT, ha, Bool.false_eq_true, and_false]
  refine hK _ _ ?_;clear hK K
  refine wC fun X Y hX hY => ?_
  simp only [↓DN,UP,DF,Qa,Qb,Qc,Qd,Qe,Qf,Qg,Qh,reduceCtorEq,↓reduceIte,Na,Nb,Nc,Nk,Nf,Ng,Nh,Za,Zb,Zc,TT, DB]
  refine hY ?_;clear hX hY X Y
  refine awp_skip ?_
  refine hK _ _ ?_;clear hK K
  by_cases h0 : l.length = 0
  · have hl0 : l = [] := List.eq_nil_of_length_eq_zero h0
    subst hl0
    refine wS fun K hK => ?_
    simp only [↓DN,UP,DF,Qa,Qb,Qc,Qd,Qe,Qf,Qg,Qh,reduceCtorEq,↓reduceIte,Na,Nb,Nc,Nk,Nf,Ng,Nh,Za,Zb,Zc,TT]
    refine hK _ _ ?_;clear hK K
    refine awp_ret ?_
    simp only [↓DN,UP,DF,Qa,Qb,Qc,Qd,Qe,Qf,Qg,Qh,reduceCtorEq,↓reduceIte,Na,Nb,Nc,Nk,Nf,Ng,Nh,Za,Zb,Zc,TT, retQ, AEnds, aresL, ares, atuple]
    exact ⟨_, s, AV.weak_any, AS.le.refl s, rfl, rfl⟩
  · refine wS fun K hK => ?_
    simp only [↓DN,UP,DF,Qa,Qb,Qc,Qd,Qe,Qf,Qg,Qh,reduceCtorEq,↓reduceIte,Na,Nb,Nc,Nk,Nf,Ng,Nh,Za,Zb,Zc,TT, h0]
    refine ⟨by omega, by omega, fun t ht => hK _ _ ?_⟩
    clear hK K
    refine awp_ret ?_
    simp only [↓DN,UP,DF,Qa,Qb,Qc,Qd,Qe,Qf,Qg,Qh,reduceCtorEq,↓reduceIte,Na,Nb,Nc,Nk,Nf,Ng,Nh,Za,Zb,Zc,TT, retQ, AEnds, aresL, ares, atuple]
    exact ⟨_, s, AV.weak_any, AS.le_gain (AS.le.refl s) ht 0, rfl, rfl⟩

set_option maxHeartbeats 400000 in
theorem number_calls (s0 s : AS) (p : Nat) (l : List UInt8) (n size : Nat) (hn : n < 2 ^ 64) (hs : size ≤ 8) (hl : l.length + 8 ≤ 2 ^ 45) (h : Pen s0 s p l false) :
    ACalls Tryz.prog Γ 118 [.ptr p 0, .v (.int .u64 n), .v (.int .i64 size)] s (fun r s' => r = .tup [] ∧ Pen s0 s' p (l ++ be size n) false) := by
  refine acalls_body Tryz.func118 rfl Tryz.ntmps118 Tryz.results118 (by simp) ?_
  refine wS fun K hK => ?_
  simp only [↓DN,UP,DF,Qa,Qb,Qc,Qd,Qe,Qf,Qg,Qh,reduceCtorEq,↓reduceIte,Na,Nb,Nc,Nk,Nf,Ng,Nh,Za,Zb,Zc,TT]
  refine hK _ _ ?_;clear hK K
  refine awp_block ?_
  refine awp_loop (fun E s1 => ∃ (i : Int) (l' : List UInt8), E 6 = .v (.int .i64 i) ∧ -1 ≤ i ∧ i < size ∧ E 0 = .ptr p 0 ∧ E 1 = .v (.int .u64 n) ∧ Pen s0 s1 p l' false ∧ l' ++ be (i + 1).toNat n = l ++ be size n)
    (fun E _ => match E 6 with | .v (.int _ i) => (i + 1).toNat | _ => 0) ?_ ?_
  · refine ⟨size - 1, l, ?_, by omega, by omega, by simp [upd, initE], by simp [upd, initE], h, by congr 2; omega⟩
    simp [upd, isub_i64 (show -9223372036854775808 ≤ (size : Int) - 1 ∧ (size : Int) - 1 ≤ 9223372036854775807 by omega)]
  · rintro E1 s1 ⟨i, l', h6, hi1, hi2, h0, h1, hp, hl'⟩ -
    obtain ⟨x, hx, hb⟩ := hp.obj
    refine wK fun K hK => ?_
    by_cases hi : 0 ≤ i
    · refine wS fun K hK => ?_
      simp only [↓DN,UP,DF,Qa,Qb,Qc,Qd,Qe,Qf,Qg,Qh,reduceCtorEq,↓reduceIte,Na,Nb,Nc,Nk,Nf,Ng,Nh,Za,Zb,Zc,TT, h6, h0, h1, hx, decide_eq_true hi, ge_iff_le, Bool.not_false]
      refine hK _ _ ?_;clear hK K
      refine wC fun X Y hX hY => ?_
      simp only [↓DN,UP,DF,Qa,Qb,Qc,Qd,Qe,Qf,Qg,Qh,reduceCtorEq,↓reduceIte,Na,Nb,Nc,Nk,Nf,Ng,Nh,Za,Zb,Zc,TT, DB]
      refine hX ?_;clear hX hY X Y
      refine awp_skip ?_
      refine hK _ _ ?_;clear hK K
      refine wK fun K hK => ?_
      refine awp_block ?_
      have hmul : imul .i64 8 i = 8 * i := imul_i64 (by omega)
      have hnn : ¬ (8 * i < 0) := by omega
      obtain ⟨j, rfl⟩ := Int.eq_ofNat_of_zero_le hi
      have hj : j < 8 := by omega
      have hstep := be_step n j hj
      have hbe : be ((j : Int) + 1).toNat n = UInt8.ofNat (n / 2 ^ (8 * j)) :: be j n := by
        rw [show ((j : Int) + 1).toNat = j + 1 from by omega]; rfl
      have hlen : l'.length ≤ l.length + size := by
        have := congrArg List.length hl'
        simp at this
        omega
      have hsub : isub .i64 (j : Int) 1 = (j : Int) - 1 := isub_i64 (by omega)
      have hend : ∀ (E2 : Env) (s2 : AS), E2 6 = .v (.int .i64 j) → E2 0 = .ptr p 0 → E2 1 = .v (.int .u64 n) → Pen s0 s2 p (l' ++ [UInt8.ofNat (n / 2 ^ (8 * j))]) false → K E2 s2 := by
        intro E2 s2 e6 e0 e1 hp2
        refine hK _ _ ?_;clear hK K
        refine wE fun K hK => ?_
        simp only [↓DN,UP,DF,Qa,Qb,Qc,Qd,Qe,Qf,Qg,Qh,reduceCtorEq,↓reduceIte,Na,Nb,Nc,Nk,Nf,Ng,Nh,Za,Zb,Zc,TT, e6, hsub]
        refine hK _ _ ?_;clear hK K
        refine ⟨⟨(j : Int) - 1, _, by simp only [upd, ↓reduceIte], by omega, by omega, by simp only [upd, e0, Nc, ↓reduceIte], by simp only [upd, e1, Nc, ↓reduceIte], hp2, ?_⟩, ?_⟩
        · rw [← hl', hbe]
          simp
        · simp only [h6, upd, ↓reduceIte]
          omega
      clear hK
      rcases hb with ⟨rfl, hl0⟩ | ⟨t, e, rfl, ht, ht0⟩
      · subst hl0
        refine awp_drw_end T.mixed [4,11,14] (by kernel_rfl) ?_
        intro K hK
        simp only [↓AXq_nil,↓AXq_cons,pval,DX,Nat.reduceBEq,↓DN,UP,DF,Qa,Qb,Qc,Qd,Qe,Qf,Qg,Qh,reduceCtorEq,↓reduceIte,Na,Nb,Nc,Nk,Nf,Ng,Nh,Za,Zb,Zc,TT, h6, h0, h1, hx, nilS, hmul, hnn, List.replicate_succ]
        intro t ht
        refine hK _ _ (hend _ _ (by simp only [upd, h6, Nc, ↓reduceIte]) (by simp only [upd, h0, Nc, ↓reduceIte]) (by simp only [upd, h1, Nc, ↓reduceIte]) ?_)
        rw [hstep]
        exact hp.one ht _
      · refine awp_drw_end T.mixed [4,11,14] (by kernel_rfl) ?_
        intro K hK
        simp only [↓AXq_nil,↓AXq_cons,pval,DX,Nat.reduceBEq,↓DN,UP,DF,Qa,Qb,Qc,Qd,Qe,Qf,Qg,Qh,reduceCtorEq,↓reduceIte,Na,Nb,Nc,Nk,Nf,Ng,Nh,Za,Zb,Zc,TT, h6, h0, h1, hx, bytesV, hmul, hnn, ht, List.replicate_succ]
        refine ⟨by omega, by omega, hK _ _ (hend _ _ (by simp only [upd, h6, Nc, ↓reduceIte]) (by simp only [upd, h0, Nc, ↓reduceIte]) (by simp only [upd, h1, Nc, ↓reduceIte]) ?_)⟩
        rw [hstep]
        exact hp.more ht0 [_] rfl rfl
    · have hi0 : i = -1 := by omega
      subst hi0
      refine wS fun K hK => ?_
      simp only [↓DN,UP,DF,Qa,Qb,Qc,Qd,Qe,Qf,Qg,Qh,reduceCtorEq,↓reduceIte,Na,Nb,Nc,Nk,Nf,Ng,Nh,Za,Zb,Zc,TT, h6, h0, h1, hx]
      refine hK _ _ ?_;clear hK K
      refine wC fun X Y hX hY => ?_
      simp only [↓DN,UP,DF,Qa,Qb,Qc,Qd,Qe,Qf,Qg,Qh,reduceCtorEq,↓reduceIte,Na,Nb,Nc,Nk,Nf,Ng,Nh,Za,Zb,Zc,TT, DB]
      refine hY ?_;clear hX hY X Y
      refine awp_exit ?_
      simp only [thenQ, blockQ, if_true, retQ, AEnds, aresL, atuple, List.toList_toArray]
      refine ⟨_, s1, AV.weak.refl _, AS.le.refl _, rfl, ?_⟩
      have : l' = l ++ be size n := by simpa [be] using hl'
      rw [← this]
      exact hp
end Go.Proofs.YtcnilmidfhpckaaGreatDoor


set_option autoImplicit false
namespace Go.Proofs.YtcnilmidfhpckaaGreatDoor
open Go Go.AM Go.Proofs


variable {Γ : Nat → List AV}

set_option maxHeartbeats 400000 in
theorem number_bad (s0 s : AS) (p : Nat) (l : List UInt8) (n size : Int) (hs : 0 ≤ size ∧ size ≤ 8) (h : Pen s0 s p l true) :
    ACalls Tryz.prog Γ 118 [.ptr p 0, .v (.int .u64 n), .v (.int .i64 size)] s (fun r s' => r = .tup [] ∧ Pen s0 s' p l true) := by
  refine acalls_body Tryz.func118 rfl Tryz.ntmps118 Tryz.results118 (by simp) ?_
  obtain ⟨x, hx, hb⟩ := h.obj
  have hsub : isub .i64 size 1 = size - 1 := isub_i64 (by omega)
  refine wS fun K hK => ?_
  simp only [↓DN,UP,DF,Qa,Qb,Qc,Qd,Qe,Qf,Qg,Qh,reduceCtorEq,↓reduceIte,Na,Nb,Nc,Nk,Nf,Ng,Nh,Za,Zb,Zc,TT, hsub]
  refine hK _ _ ?_;clear hK K
  refine awp_block ?_
  refine awp_loop (fun E s1 => E 6 = .v (.int .i64 (size - 1)) ∧ E 0 = .ptr p 0 ∧ s1 = s) (fun _ _ => 0) ?_ ?_
  · exact ⟨by simp [upd], by simp [upd, initE], rfl⟩
  · rintro E1 s1 ⟨h6, h0, rfl⟩ -
    refine wK fun K hK => ?_
    by_cases hi : 0 ≤ size - 1
    · refine wS fun K hK => ?_
      simp only [↓DN,UP,DF,Qa,Qb,Qc,Qd,Qe,Qf,Qg,Qh,reduceCtorEq,↓reduceIte,Na,Nb,Nc,Nk,Nf,Ng,Nh,Za,Zb,Zc,TT, h6, h0, hx, decide_eq_true hi, Bool.not_true]
      refine hK _ _ ?_;clear hK K
      refine wC fun X Y hX hY => ?_
      simp only [↓DN,UP,DF,Qa,Qb,Qc,Qd,Qe,Qf,Qg,Qh,reduceCtorEq,↓reduceIte,Na,Nb,Nc,Nk,Nf,Ng,Nh,Za,Zb,Zc,TT, DB]
      refine hY ?_;clear hX hY X Y
      refine awp_exit ?_
      simp only [thenQ, blockQ, if_true, retQ, AEnds, aresL, atuple, List.toList_toArray]
      exact ⟨_, s1, AV.weak.refl _, AS.le.refl _, rfl, h⟩
    · refine wS fun K hK => ?_
      simp only [↓DN,UP,DF,Qa,Qb,Qc,Qd,Qe,Qf,Qg,Qh,reduceCtorEq,↓reduceIte,Na,Nb,Nc,Nk,Nf,Ng,Nh,Za,Zb,Zc,TT, h6, h0, hx, decide_eq_false hi, Bool.not_true, Bool.true_eq_false, Bool.false_eq_true]
      refine hK _ _ ?_;clear hK K
      refine wC fun X Y hX hY => ?_
      simp only [↓DN,UP,DF,Qa,Qb,Qc,Qd,Qe,Qf,Qg,Qh,reduceCtorEq,↓reduceIte,Na,Nb,Nc,Nk,Nf,Ng,Nh,Za,Zb,Zc,TT, DB]
      refine hY ?_;clear hX hY X Y
      refine awp_exit ?_
      simp only [thenQ, blockQ, if_true, retQ, AEnds, aresL, atuple, List.toList_toArray]
      exact ⟨_, s1, AV.weak.refl _, AS.le.refl _, rfl, h⟩

theorem number_any (s0 s : AS) (p : Nat) (st : List UInt8 × Bool) (n size : Nat) (hn : n < 2 ^ 64) (hs : size ≤ 8) (hl : st.1.length + 8 ≤ 2 ^ 45) (h : PenS s0 s p st) :
    ACalls Tryz.prog Γ 118 [.ptr p 0, .v (.int .u64 n), .v (.int .i64 size)] s (fun r s' => r = .tup [] ∧ PenS s0 s' p (penNum size n st)) := by
  obtain ⟨l, b⟩ := st
  cases b
  · exact number_calls s0 s p l n size hn hs hl h
  · exact number_bad s0 s p l n size (by omega) h

set_option maxHeartbeats 400000 in
theorem new_calls (s : AS) : ACalls Tryz.prog Γ 8 [] s (fun r s' => ∃ p, r = .ptr p 0 ∧ PenS s s' p ([], false)) := by
  refine acalls_body Tryz.func8 rfl Tryz.ntmps8 Tryz.results8 (by simp) ?_
  refine wS fun K hK => ?_
  simp only [↓DN,UP,DF,Qa,Qb,Qc,Qd,Qe,Qf,Qg,Qh,reduceCtorEq,↓reduceIte,Na,Nb,Nc,Nk,Nf,Ng,Nh,Za,Zb,Zc,TT]
  refine hK _ _ ?_;clear hK K
  refine wS fun K hK => ?_
  simp only [↓DN,UP,DF,Qa,Qb,Qc,Qd,Qe,Qf,Qg,Qh,reduceCtorEq,↓reduceIte,Na,Nb,Nc,Nk,Nf,Ng,Nh,Za,Zb,Zc,TT, Array.toList_empty]
  intro p hp
  refine hK _ _ ?_
  refine awp_ret ?_
  simp only [↓DN,UP,DF,Qa,Qb,Qc,Qd,Qe,Qf,Qg,Qh,reduceCtorEq,↓reduceIte,Na,Nb,Nc,Nk,Nf,Ng,Nh,Za,Zb,Zc,TT, retQ, AEnds, aresL, ares, atuple]
  exact ⟨_, _, AV.weak.refl _, AS.le.refl _, p, rfl, AS.le_set (AS.le.refl s) hp _, hp, _, AS.set_objs_same _ _ _, .inl ⟨rfl, rfl⟩⟩

set_option maxHeartbeats 400000 in
theorem small_calls (s0 s : AS) (p : Nat) (st : List UInt8 × Bool) (n : Int) (size : Nat) (hn : -9223372036854775808 ≤ n ∧ n ≤ 9223372036854775807) (hs : size ≤ 8) (hl : st.1.length + 8 ≤ 2 ^ 45) (h : PenS s0 s p st) :
    ACalls Tryz.prog Γ 83 [.ptr p 0, .v (.int .i64 n), .v (.int .i64 size)] s (fun r s' => r = .tup [] ∧ PenS s0 s' p (penSmall size n st)) := by
  refine acalls_body Tryz.func83 rfl Tryz.ntmps83 Tryz.results83 (by simp) ?_
  obtain ⟨x, hx, hb⟩ := h.obj
  refine wK fun K hK => ?_
  have hmul : imul .i64 8 (size : Int) = 8 * size := imul_i64 (by omega)
  have hnn : ¬ (8 * (size : Int) < 0) := by omega
  by_cases h0 : n < 0
  · refine wS fun K hK => ?_
    simp only [↓DN,UP,DF,Qa,Qb,Qc,Qd,Qe,Qf,Qg,Qh,reduceCtorEq,↓reduceIte,Na,Nb,Nc,Nk,Nf,Ng,Nh,Za,Zb,Zc,TT, decide_eq_true h0, Bool.true_eq_false]
    refine hK _ _ ?_;clear hK K
    refine wC fun X Y hX hY => ?_
    simp only [↓DN,UP,DF,Qa,Qb,Qc,Qd,Qe,Qf,Qg,Qh,reduceCtorEq,↓reduceIte,Na,Nb,Nc,Nk,Nf,Ng,Nh,Za,Zb,Zc,TT, DB]
    refine hX ?_;clear hX hY X Y
    refine wS fun K hK => ?_
    simp only [↓DN,UP,DF,Qa,Qb,Qc,Qd,Qe,Qf,Qg,Qh,reduceCtorEq,↓reduceIte,Na,Nb,Nc,Nk,Nf,Ng,Nh,Za,Zb,Zc,TT, hx]
    refine hK _ _ ?_;clear hK K
    refine awp_ret ?_
    simp only [thenQ, retQ, AEnds, aresL, atuple, List.toList_toArray]
    refine ⟨_, _, AV.weak.refl _, AS.le.refl _, rfl, ?_⟩
    have : penSmall size n st = (st.1, true) := by unfold penSmall; rw [if_neg (by omega)]
    rw [this]
    exact h.bad hx hb true
  · by_cases h1 : 2 ^ (8 * size) ≤ n
    · refine wS fun K hK => ?_
      simp only [↓DN,UP,DF,Qa,Qb,Qc,Qd,Qe,Qf,Qg,Qh,reduceCtorEq,↓reduceIte,Na,Nb,Nc,Nk,Nf,Ng,Nh,Za,Zb,Zc,TT, decide_eq_false h0, Bool.false_eq_true, hmul, hnn, shr_small n size (by omega) (by omega), decide_eq_true h1]
      refine hK _ _ ?_;clear hK K
      refine wC fun X Y hX hY => ?_
      simp only [↓DN,UP,DF,Qa,Qb,Qc,Qd,Qe,Qf,Qg,Qh,reduceCtorEq,↓reduceIte,Na,Nb,Nc,Nk,Nf,Ng,Nh,Za,Zb,Zc,TT, DB]
      refine hX ?_;clear hX hY X Y
      refine wS fun K hK => ?_
      simp only [↓DN,UP,DF,Qa,Qb,Qc,Qd,Qe,Qf,Qg,Qh,reduceCtorEq,↓reduceIte,Na,Nb,Nc,Nk,Nf,Ng,Nh,Za,Zb,Zc,TT, hx]
      refine hK _ _ ?_;clear hK K
      refine awp_ret ?_
      simp only [thenQ, retQ, AEnds, aresL, atuple, List.toList_toArray]
      refine ⟨_, _, AV.weak.refl _, AS.le.refl _, rfl, ?_⟩
      have : penSmall size n st = (st.1, true) := by unfold penSmall; rw [if_neg (by omega)]
      rw [this]
      exact h.bad hx hb true
    · refine wS fun K hK => ?_
      simp only [↓DN,UP,DF,Qa,Qb,Qc,Qd,Qe,Qf,Qg,Qh,reduceCtorEq,↓reduceIte,Na,Nb,Nc,Nk,Nf,Ng,Nh,Za,Zb,Zc,TT, decide_eq_false h0, Bool.false_eq_true, hmul, hnn, shr_small n size (by omega) (by omega), decide_eq_false h1]
      refine hK _ _ ?_;clear hK K
      refine wC fun X Y hX hY => ?_
      simp only [↓DN,UP,DF,Qa,Qb,Qc,Qd,Qe,Qf,Qg,Qh,reduceCtorEq,↓reduceIte,Na,Nb,Nc,Nk,Nf,Ng,Nh,Za,Zb,Zc,TT, DB]
      refine hY ?_;clear hX hY X Y
      refine awp_skip ?_
      refine hK _ _ ?_;clear hK K
      obtain ⟨m, rfl⟩ := Int.eq_ofNat_of_zero_le (Int.not_lt.1 h0)
      have hconv : iconv .u64 (m : Int) = m := iconv_u64_nat m (by omega)
      refine wE fun K hK => ?_
      simp only [↓DN,UP,DF,Qa,Qb,Qc,Qd,Qe,Qf,Qg,Qh,reduceCtorEq,↓reduceIte,Na,Nb,Nc,Nk,Nf,Ng,Nh,Za,Zb,Zc,TT, hconv]
      refine acallk (number_any s0 s p st m size (by omega) hs hl h) ?_
      rintro r s' ⟨rfl, hp⟩
      simp only [↓AXq_nil,↓AXq_cons,pval,DX,Nat.reduceBEq,↓DN,UP,DF,Qa,Qb,Qc,Qd,Qe,Qf,Qg,Qh,reduceCtorEq,↓reduceIte,Na,Nb,Nc,Nk,Nf,Ng,Nh,Za,Zb,Zc,TT]
      refine hK _ _ ?_;clear hK K
      simp only [retQ, AEnds, aresL, atuple, List.toList_toArray]
      refine ⟨_, _, AV.weak.refl _, AS.le.refl _, rfl, ?_⟩
      have : penSmall size m st = penNum size m st := by unfold penSmall; rw [if_pos (by omega)]; rfl
      rw [this]
      exact hp

end Go.Proofs.YtcnilmidfhpckaaGreatDoor


set_option autoImplicit false
namespace Go.Proofs.YtcnilmidfhpckaaGreatDoor
open Go Go.AM Go.Proofs


variable {Γ : Nat → List AV}



set_option maxHeartbeats 400000 in
theorem penU8_calls (s0 s : AS) (p : Nat) (st : List UInt8 × Bool) (n : Int) (hn : -9223372036854775808 ≤ n ∧ n ≤ 9223372036854775807) (hl : st.1.length + 8 ≤ 2 ^ 45) (h : PenS s0 s p st) :
    ACalls Tryz.prog Γ 34 [.ptr p 0, .v (.int .i64 n)] s (fun r s' => r = .tup [] ∧ PenS s0 s' p (penSmall 1 n st)) := by
  refine acalls_body Tryz.func34 rfl Tryz.ntmps34 Tryz.results34 (by simp) ?_
  refine wE fun K hK => ?_
  simp only [↓DN,UP,DF,Qa,Qb,Qc,Qd,Qe,Qf,Qg,Qh,reduceCtorEq,↓reduceIte,Na,Nb,Nc,Nk,Nf,Ng,Nh,Za,Zb,Zc,TT]
  refine acallk (small_calls s0 s p st n 1 hn (by omega) hl h) ?_
  rintro r s' ⟨rfl, hp⟩
  simp only [↓AXq_nil,↓AXq_cons,pval,DX,Nat.reduceBEq,↓DN,UP,DF,Qa,Qb,Qc,Qd,Qe,Qf,Qg,Qh,reduceCtorEq,↓reduceIte,Na,Nb,Nc,Nk,Nf,Ng,Nh,Za,Zb,Zc,TT]
  refine hK _ _ ?_;clear hK K
  simp only [retQ, AEnds, aresL, ares, List.toList_toArray, ↓upd_same]; try simp only [UP,DF,Nc,↓reduceIte,DT]
  exact ⟨_, _, AV.weak.refl _, AS.le.refl _, rfl, hp⟩

set_option maxHeartbeats 400000 in
theorem penU64_calls (s0 s : AS) (p : Nat) (st : List UInt8 × Bool) (n : Nat) (hn : n < 2 ^ 64) (hl : st.1.length + 8 ≤ 2 ^ 45) (h : PenS s0 s p st) :
    ACalls Tryz.prog Γ 85 [.ptr p 0, .v (.int .u64 n)] s (fun r s' => r = .tup [] ∧ PenS s0 s' p (penNum 8 n st)) := by
  refine acalls_body Tryz.func85 rfl Tryz.ntmps85 Tryz.results85 (by simp) ?_
  refine wE fun K hK => ?_
  simp only [↓DN,UP,DF,Qa,Qb,Qc,Qd,Qe,Qf,Qg,Qh,reduceCtorEq,↓reduceIte,Na,Nb,Nc,Nk,Nf,Ng,Nh,Za,Zb,Zc,TT]
  refine acallk (number_any s0 s p st n 8 hn (by omega) hl h) ?_
  rintro r s' ⟨rfl, hp⟩
  simp only [↓AXq_nil,↓AXq_cons,pval,DX,Nat.reduceBEq,↓DN,UP,DF,Qa,Qb,Qc,Qd,Qe,Qf,Qg,Qh,reduceCtorEq,↓reduceIte,Na,Nb,Nc,Nk,Nf,Ng,Nh,Za,Zb,Zc,TT]
  refine hK _ _ ?_;clear hK K
  simp only [retQ, AEnds, aresL, ares, List.toList_toArray, ↓upd_same]; try simp only [UP,DF,Nc,↓reduceIte,DT]
  exact ⟨_, _, AV.weak.refl _, AS.le.refl _, rfl, hp⟩

set_option maxHeartbeats 800000 in
theorem penRaw_calls (s0 s : AS) (p : Nat) (st : List UInt8 × Bool) (b : AV) (m : List UInt8) (hb : IsB b m) (hl : st.1.length + m.length ≤ 2 ^ 45) (h : PenS s0 s p st) :
    ACalls Tryz.prog Γ 140 [.ptr p 0, b] s (fun r s' => r = .tup [] ∧ PenS s0 s' p (penRaw m st)) := by
  obtain ⟨l, bad⟩ := st
  obtain ⟨x, hx, hbuf⟩ := h.obj
  refine acalls_body Tryz.func140 rfl Tryz.ntmps140 Tryz.results140 (by simp) ?_
  cases bad
  · refine wS fun K hK => ?_
    simp only [↓DN,UP,DF,Qa,Qb,Qc,Qd,Qe,Qf,Qg,Qh,reduceCtorEq,↓reduceIte,Na,Nb,Nc,Nk,Nf,Ng,Nh,Za,Zb,Zc,TT, hx, Bool.not_false]
    refine hK _ _ ?_;clear hK K
    refine wC fun X Y hX hY => ?_
    simp only [↓DN,UP,DF,Qa,Qb,Qc,Qd,Qe,Qf,Qg,Qh,reduceCtorEq,↓reduceIte,Na,Nb,Nc,Nk,Nf,Ng,Nh,Za,Zb,Zc,TT, DB]
    refine hX ?_;clear hX hY X Y
    have hraw : penRaw m (l, false) = (l ++ m, false) := rfl
    by_cases hm : m.length = 0
    · have hm0 : m = [] := List.eq_nil_of_length_eq_zero hm
      subst hm0
      have e : (l ++ [], false) = (l, false) := by simp
      rw [hraw, e]
      rcases hbuf with ⟨rfl, hl0⟩ | ⟨t, e, rfl, ht, ht0⟩
      · simp only at hl0
        subst hl0
        rcases hb with ⟨rfl, _⟩ | ⟨sp, rfl⟩
        · refine wE fun K hK => ?_
          simp only [↓DN,UP,DF,Qa,Qb,Qc,Qd,Qe,Qf,Qg,Qh,reduceCtorEq,↓reduceIte,Na,Nb,Nc,Nk,Nf,Ng,Nh,Za,Zb,Zc,TT, hx, nilS, bytesV, hm]
          refine hK _ _ ?_;clear hK K
          simp only [retQ, AEnds, aresL, ares, List.toList_toArray, ↓upd_same]; try simp only [UP,DF,Nc,↓reduceIte,DT]
          exact ⟨_, _, AV.weak.refl _, AS.le.refl _, rfl, h.bad hx (.inl ⟨rfl, rfl⟩) false⟩
        · refine wE fun K hK => ?_
          simp only [↓DN,UP,DF,Qa,Qb,Qc,Qd,Qe,Qf,Qg,Qh,reduceCtorEq,↓reduceIte,Na,Nb,Nc,Nk,Nf,Ng,Nh,Za,Zb,Zc,TT, hx, nilS, bytesV, hm]
          refine hK _ _ ?_;clear hK K
          simp only [retQ, AEnds, aresL, ares, List.toList_toArray, ↓upd_same]; try simp only [UP,DF,Nc,↓reduceIte,DT]
          exact ⟨_, _, AV.weak.refl _, AS.le.refl _, rfl, h.bad hx (.inl ⟨rfl, rfl⟩) false⟩
      · rcases hb with ⟨rfl, _⟩ | ⟨sp, rfl⟩
        · refine wE fun K hK => ?_
          simp only [↓DN,UP,DF,Qa,Qb,Qc,Qd,Qe,Qf,Qg,Qh,reduceCtorEq,↓reduceIte,Na,Nb,Nc,Nk,Nf,Ng,Nh,Za,Zb,Zc,TT, hx, nilS, bytesV, hm]
          refine hK _ _ ?_;clear hK K
          simp only [retQ, AEnds, aresL, ares, List.toList_toArray, ↓upd_same]; try simp only [UP,DF,Nc,↓reduceIte,DT]
          exact ⟨_, _, AV.weak.refl _, AS.le.refl _, rfl, h.bad hx (.inr ⟨t, e, rfl, ht, ht0⟩) false⟩
        · refine wE fun K hK => ?_
          simp only [↓DN,UP,DF,Qa,Qb,Qc,Qd,Qe,Qf,Qg,Qh,reduceCtorEq,↓reduceIte,Na,Nb,Nc,Nk,Nf,Ng,Nh,Za,Zb,Zc,TT, hx, nilS, bytesV, hm]
          refine hK _ _ ?_;clear hK K
          simp only [retQ, AEnds, aresL, ares, List.toList_toArray, ↓upd_same]; try simp only [UP,DF,Nc,↓reduceIte,DT]
          exact ⟨_, _, AV.weak.refl _, AS.le.refl _, rfl, h.bad hx (.inr ⟨t, e, rfl, ht, ht0⟩) false⟩
    · have hb' : ∃ sp, b = bytesV m sp := by
        rcases hb with ⟨_, rfl⟩ | hb
        · exact absurd rfl hm
        · exact hb
      obtain ⟨sp, rfl⟩ := hb'
      rw [hraw]
      simp only at hl
      rcases hbuf with ⟨rfl, hl0⟩ | ⟨t, e, rfl, ht, ht0⟩
      · simp only at hl0
        subst hl0
        refine wE fun K hK => ?_
        simp only [↓DN,UP,DF,Qa,Qb,Qc,Qd,Qe,Qf,Qg,Qh,reduceCtorEq,↓reduceIte,Na,Nb,Nc,Nk,Nf,Ng,Nh,Za,Zb,Zc,TT, hx, nilS, bytesV, hm]
        refine ⟨by omega, by omega, fun t ht => hK _ _ ?_⟩
        clear hK K
        simp only [retQ, AEnds, aresL, ares, List.toList_toArray, ↓upd_same]; try simp only [UP,DF,Nc,↓reduceIte,DT]
        exact ⟨_, _, AV.weak.refl _, AS.le.refl _, rfl, h.put_one ht m⟩
      · refine wE fun K hK => ?_
        simp only [↓DN,UP,DF,Qa,Qb,Qc,Qd,Qe,Qf,Qg,Qh,reduceCtorEq,↓reduceIte,Na,Nb,Nc,Nk,Nf,Ng,Nh,Za,Zb,Zc,TT, hx, bytesV, hm, ht]
        refine ⟨by omega, by omega, hK _ _ ?_⟩
        clear hK K
        simp only [retQ, AEnds, aresL, ares, List.toList_toArray, ↓upd_same]; try simp only [UP,DF,Nc,↓reduceIte,DT]
        exact ⟨_, _, AV.weak.refl _, AS.le.refl _, rfl, h.more ht0 m rfl rfl⟩
  · refine wS fun K hK => ?_
    simp only [↓DN,UP,DF,Qa,Qb,Qc,Qd,Qe,Qf,Qg,Qh,reduceCtorEq,↓reduceIte,Na,Nb,Nc,Nk,Nf,Ng,Nh,Za,Zb,Zc,TT, hx, Bool.not_true]
    refine hK _ _ ?_;clear hK K
    refine wC fun X Y hX hY => ?_
    simp only [↓DN,UP,DF,Qa,Qb,Qc,Qd,Qe,Qf,Qg,Qh,reduceCtorEq,↓reduceIte,Na,Nb,Nc,Nk,Nf,Ng,Nh,Za,Zb,Zc,TT, DB]
    refine hY ?_;clear hX hY X Y
    refine awp_skip ?_
    simp only [retQ, AEnds, aresL, ares, List.toList_toArray, ↓upd_same]; try simp only [UP,DF,Nc,↓reduceIte,DT]
    exact ⟨_, _, AV.weak.refl _, AS.le.refl _, rfl, h⟩

set_option maxHeartbeats 400000 in
theorem penText_calls (s0 s : AS) (p : Nat) (st : List UInt8 × Bool) (b : AV) (m : List UInt8) (k : Nat) (hk : k ≤ 8) (hb : IsB b m) (hl : st.1.length + m.length + 8 ≤ 2 ^ 45) (h : PenS s0 s p st) :
    ACalls Tryz.prog Γ 119 [.ptr p 0, b, .v (.int .i64 k)] s (fun r s' => r = .tup [] ∧ PenS s0 s' p (penText k m st)) := by
  refine acalls_body Tryz.func119 rfl Tryz.ntmps119 Tryz.results119 (by simp) ?_
  have hlen : (penSmall k m.length st).1.length ≤ st.1.length + k := penSmall_len ..
  rcases hb with ⟨rfl, rfl⟩ | ⟨sp, rfl⟩
  · refine wS fun K hK => ?_
    simp only [↓DN,UP,DF,Qa,Qb,Qc,Qd,Qe,Qf,Qg,Qh,reduceCtorEq,↓reduceIte,Na,Nb,Nc,Nk,Nf,Ng,Nh,Za,Zb,Zc,TT, nilS, List.length_nil]
    refine acallk (small_calls s0 s p st 0 k (by omega) hk (by omega) h) ?_
    rintro r s' ⟨rfl, hp⟩
    simp only [↓AXq_nil,↓AXq_cons,pval,DX,Nat.reduceBEq,↓DN,UP,DF,Qa,Qb,Qc,Qd,Qe,Qf,Qg,Qh,reduceCtorEq,↓reduceIte,Na,Nb,Nc,Nk,Nf,Ng,Nh,Za,Zb,Zc,TT]
    refine hK _ _ ?_;clear hK K
    refine wE fun K hK => ?_
    simp only [↓DN,UP,DF,Qa,Qb,Qc,Qd,Qe,Qf,Qg,Qh,reduceCtorEq,↓reduceIte,Na,Nb,Nc,Nk,Nf,Ng,Nh,Za,Zb,Zc,TT]
    refine acallk (penRaw_calls s0 s' p _ nilS [] IsB.nil (by have := penSmall_len k 0 st; simp at this hl ⊢; omega) hp) ?_
    rintro r s'' ⟨rfl, hp'⟩
    simp only [↓AXq_nil,↓AXq_cons,pval,DX,Nat.reduceBEq,↓DN,UP,DF,Qa,Qb,Qc,Qd,Qe,Qf,Qg,Qh,reduceCtorEq,↓reduceIte,Na,Nb,Nc,Nk,Nf,Ng,Nh,Za,Zb,Zc,TT]
    refine hK _ _ ?_;clear hK K
    simp only [retQ, AEnds, aresL, ares, List.toList_toArray, ↓upd_same]; try simp only [UP,DF,Nc,↓reduceIte,DT]
    exact ⟨_, _, AV.weak.refl _, AS.le.refl _, rfl, hp'⟩
  · refine wS fun K hK => ?_
    simp only [↓DN,UP,DF,Qa,Qb,Qc,Qd,Qe,Qf,Qg,Qh,reduceCtorEq,↓reduceIte,Na,Nb,Nc,Nk,Nf,Ng,Nh,Za,Zb,Zc,TT, bytesV]
    refine acallk (small_calls s0 s p st m.length k (by omega) hk (by omega) h) ?_
    rintro r s' ⟨rfl, hp⟩
    simp only [↓AXq_nil,↓AXq_cons,pval,DX,Nat.reduceBEq,↓DN,UP,DF,Qa,Qb,Qc,Qd,Qe,Qf,Qg,Qh,reduceCtorEq,↓reduceIte,Na,Nb,Nc,Nk,Nf,Ng,Nh,Za,Zb,Zc,TT]
    refine hK _ _ ?_;clear hK K
    refine wE fun K hK => ?_
    simp only [↓DN,UP,DF,Qa,Qb,Qc,Qd,Qe,Qf,Qg,Qh,reduceCtorEq,↓reduceIte,Na,Nb,Nc,Nk,Nf,Ng,Nh,Za,Zb,Zc,TT]
    refine acallk (penRaw_calls s0 s' p _ (bytesV m sp) m (IsB.mk m sp) (by simp only [List.length_nil] at *; omega) hp) ?_
    rintro r s'' ⟨rfl, hp'⟩
    simp only [↓AXq_nil,↓AXq_cons,pval,DX,Nat.reduceBEq,↓DN,UP,DF,Qa,Qb,Qc,Qd,Qe,Qf,Qg,Qh,reduceCtorEq,↓reduceIte,Na,Nb,Nc,Nk,Nf,Ng,Nh,Za,Zb,Zc,TT]
    refine hK _ _ ?_;clear hK K
    simp only [retQ, AEnds, aresL, ares, List.toList_toArray, ↓upd_same]; try simp only [UP,DF,Nc,↓reduceIte,DT]
    exact ⟨_, _, AV.weak.refl _, AS.le.refl _, rfl, hp'⟩

set_option maxHeartbeats 400000 in
theorem penShort_calls (s0 s : AS) (p : Nat) (st : List UInt8 × Bool) (b : AV) (m : List UInt8) (hb : IsB b m) (hl : st.1.length + m.length + 8 ≤ 2 ^ 45) (h : PenS s0 s p st) :
    ACalls Tryz.prog Γ 84 [.ptr p 0, b] s (fun r s' => r = .tup [] ∧ PenS s0 s' p (penText 1 m st)) := by
  refine acalls_body Tryz.func84 rfl Tryz.ntmps84 Tryz.results84 (by simp) ?_
  refine wE fun K hK => ?_
  simp only [↓DN,UP,DF,Qa,Qb,Qc,Qd,Qe,Qf,Qg,Qh,reduceCtorEq,↓reduceIte,Na,Nb,Nc,Nk,Nf,Ng,Nh,Za,Zb,Zc,TT]
  refine acallk (penText_calls s0 s p st b m 1 (by omega) hb hl h) ?_
  rintro r s' ⟨rfl, hp⟩
  simp only [↓AXq_nil,↓AXq_cons,pval,DX,Nat.reduceBEq,↓DN,UP,DF,Qa,Qb,Qc,Qd,Qe,Qf,Qg,Qh,reduceCtorEq,↓reduceIte,Na,Nb,Nc,Nk,Nf,Ng,Nh,Za,Zb,Zc,TT]
  refine hK _ _ ?_;clear hK K
  simp only [retQ, AEnds, aresL, ares, List.toList_toArray, ↓upd_same]; try simp only [UP,DF,Nc,↓reduceIte,DT]
  exact ⟨_, _, AV.weak.refl _, AS.le.refl _, rfl, hp⟩

theorem clone_nil (s : AS) : ACalls Tryz.prog Γ 37 [nilS] s (fun r s' => r = bytesV [] .any ∧ s' = s) := by
  refine acalls_body Tryz.func37 rfl Tryz.ntmps37 Tryz.results37 (by simp) ?_
  unfold nilS
  refine wS fun K hK => ?_
  simp only [↓DN,UP,DF,Qa,Qb,Qc,Qd,Qe,Qf,Qg,Qh,reduceCtorEq,↓reduceIte,Na,Nb,Nc,Nk,Nf,Ng,Nh,Za,Zb,Zc,TT]
  refine hK _ _ ?_;clear hK K
  refine wK fun K hK => ?_
  refine wS fun K hK => ?_
  simp only [↓DN,UP,DF,Qa,Qb,Qc,Qd,Qe,Qf,Qg,Qh,reduceCtorEq,↓reduceIte,Na,Nb,Nc,Nk,Nf,Ng,Nh,Za,Zb,Zc,TT]
  refine hK _ _ ?_;clear hK K
  refine wC fun X Y hX hY => ?_
  simp only [↓DN,UP,DF,Qa,Qb,Qc,Qd,Qe,Qf,Qg,Qh,reduceCtorEq,↓reduceIte,Na,Nb,Nc,Nk,Nf,Ng,Nh,Za,Zb,Zc,TT, DB]
  refine hX ?_;clear hX hY X Y
  refine wS fun K hK => ?_
  simp only [↓DN,UP,DF,Qa,Qb,Qc,Qd,Qe,Qf,Qg,Qh,reduceCtorEq,↓reduceIte,Na,Nb,Nc,Nk,Nf,Ng,Nh,Za,Zb,Zc,TT]
  refine hK _ _ ?_;clear hK K
  refine awp_ret ?_
  simp only [retQ, AEnds, aresL, ares, List.toList_toArray, ↓upd_same]; try simp only [UP,DF,Nc,↓reduceIte,DT]
  exact ⟨_, _, AV.weak_nil, AS.le.refl _, rfl, rfl⟩

theorem cloneB_calls (l : List UInt8) (s : AS) (hl : l.length ≤ 2 ^ 45) : ACalls Tryz.prog Γ 37 [bytesV l .any] s (fun r s' => r = bytesV l .any ∧ s' = s) :=
  ACalls.any (pre := []) (post := []) (fun e => by subst e; exact clone_nil s) (clone_calls l .no rfl s hl)

set_option maxHeartbeats 400000 in
theorem penBytes_calls (s0 s : AS) (p : Nat) (st : List UInt8 × Bool) (hl : st.1.length ≤ 2 ^ 45) (h : PenS s0 s p st) :
    ACalls Tryz.prog Γ 10 [.ptr p 0] s (fun r s' => r = .tup [bytesV (if st.2 = true then [] else st.1) .any, .v (.bool !st.2)] ∧ s' = s) := by
  obtain ⟨l, bad⟩ := st
  obtain ⟨x, hx, hbuf⟩ := h.obj
  refine acalls_body Tryz.func10 rfl Tryz.ntmps10 Tryz.results10 (by simp) ?_
  simp only at hx hl hbuf
  refine wS fun K hK => ?_
  simp only [↓DN,UP,DF,Qa,Qb,Qc,Qd,Qe,Qf,Qg,Qh,reduceCtorEq,↓reduceIte,Na,Nb,Nc,Nk,Nf,Ng,Nh,Za,Zb,Zc,TT]
  refine hK _ _ ?_;clear hK K
  refine wK fun K hK => ?_
  cases bad
  · refine wS fun K hK => ?_
    simp only [↓DN,UP,DF,Qa,Qb,Qc,Qd,Qe,Qf,Qg,Qh,reduceCtorEq,↓reduceIte,Na,Nb,Nc,Nk,Nf,Ng,Nh,Za,Zb,Zc,TT, hx]
    refine hK _ _ ?_;clear hK K
    refine wC fun X Y hX hY => ?_
    simp only [↓DN,UP,DF,Qa,Qb,Qc,Qd,Qe,Qf,Qg,Qh,reduceCtorEq,↓reduceIte,Na,Nb,Nc,Nk,Nf,Ng,Nh,Za,Zb,Zc,TT, DB]
    refine hY ?_;clear hX hY X Y
    refine awp_skip ?_
    refine hK _ _ ?_;clear hK K
    rcases hbuf with ⟨rfl, hl0⟩ | ⟨t, e, rfl, ht, ht0⟩
    · subst hl0
      refine wS fun K hK => ?_
      simp only [↓DN,UP,DF,Qa,Qb,Qc,Qd,Qe,Qf,Qg,Qh,reduceCtorEq,↓reduceIte,Na,Nb,Nc,Nk,Nf,Ng,Nh,Za,Zb,Zc,TT, hx]
      refine acallk (clone_nil s) ?_
      rintro r s' ⟨rfl, rfl⟩
      simp only [↓AXq_nil,↓AXq_cons,pval,DX,Nat.reduceBEq,↓DN,UP,DF,Qa,Qb,Qc,Qd,Qe,Qf,Qg,Qh,reduceCtorEq,↓reduceIte,Na,Nb,Nc,Nk,Nf,Ng,Nh,Za,Zb,Zc,TT]
      refine hK _ _ ?_;clear hK K
      refine awp_ret ?_
      simp only [retQ, AEnds, aresL, ares, List.toList_toArray, ↓upd_same]; try simp only [UP,DF,Nc,↓reduceIte,DT]
      exact ⟨_, _, AV.weak.refl _, AS.le.refl _, rfl, rfl⟩
    · refine wS fun K hK => ?_
      simp only [↓DN,UP,DF,Qa,Qb,Qc,Qd,Qe,Qf,Qg,Qh,reduceCtorEq,↓reduceIte,Na,Nb,Nc,Nk,Nf,Ng,Nh,Za,Zb,Zc,TT, hx]
      refine acallk (clone_calls l _ rfl s hl) ?_
      rintro r s' ⟨rfl, rfl⟩
      simp only [↓AXq_nil,↓AXq_cons,pval,DX,Nat.reduceBEq,↓DN,UP,DF,Qa,Qb,Qc,Qd,Qe,Qf,Qg,Qh,reduceCtorEq,↓reduceIte,Na,Nb,Nc,Nk,Nf,Ng,Nh,Za,Zb,Zc,TT]
      refine hK _ _ ?_;clear hK K
      refine awp_ret ?_
      simp only [retQ, AEnds, aresL, ares, List.toList_toArray, ↓upd_same]; try simp only [UP,DF,Nc,↓reduceIte,DT]
      exact ⟨_, _, AV.weak.refl _, AS.le.refl _, rfl, rfl⟩
  · refine wS fun K hK => ?_
    simp only [↓DN,UP,DF,Qa,Qb,Qc,Qd,Qe,Qf,Qg,Qh,reduceCtorEq,↓reduceIte,Na,Nb,Nc,Nk,Nf,Ng,Nh,Za,Zb,Zc,TT, hx]
    refine hK _ _ ?_;clear hK K
    refine wC fun X Y hX hY => ?_
    simp only [↓DN,UP,DF,Qa,Qb,Qc,Qd,Qe,Qf,Qg,Qh,reduceCtorEq,↓reduceIte,Na,Nb,Nc,Nk,Nf,Ng,Nh,Za,Zb,Zc,TT, DB]
    refine hX ?_;clear hX hY X Y
    refine wS fun K hK => ?_
    simp only [↓DN,UP,DF,Qa,Qb,Qc,Qd,Qe,Qf,Qg,Qh,reduceCtorEq,↓reduceIte,Na,Nb,Nc,Nk,Nf,Ng,Nh,Za,Zb,Zc,TT]
    refine hK _ _ ?_;clear hK K
    refine awp_ret ?_
    simp only [retQ, AEnds, aresL, ares, List.toList_toArray, ↓upd_same]; try simp only [UP,DF,Nc,↓reduceIte,DT]
    exact ⟨_, _, AV.weak_tup2 AV.weak_nil (AV.weak.refl _), AS.le.refl _, rfl, rfl⟩

end Go.Proofs.YtcnilmidfhpckaaGreatDoor


set_option autoImplicit false
namespace Go.Proofs.YtcnilmidfhpckaaGreatDoor
open Go Go.AM Go.Proofs


variable {Γ : Nat → List AV}

set_option maxHeartbeats 400000 in
theorem open_calls (l : List UInt8) (s : AS) (hl : l.length ≤ 2 ^ 45) : ACalls Tryz.prog Γ 13 [bytesV l .any] s (fun r s' => ∃ p, r = .ptr p 0 ∧ EyeS s s' p (l, 0)) := by
  refine acalls_body Tryz.func13 rfl Tryz.ntmps13 Tryz.results13 (by simp) ?_
  refine wS fun K hK => ?_
  simp only [↓DN,UP,DF,Qa,Qb,Qc,Qd,Qe,Qf,Qg,Qh,reduceCtorEq,↓reduceIte,Na,Nb,Nc,Nk,Nf,Ng,Nh,Za,Zb,Zc,TT]
  refine hK _ _ ?_;clear hK K
  refine wS fun K hK => ?_
  simp only [↓DN,UP,DF,Qa,Qb,Qc,Qd,Qe,Qf,Qg,Qh,reduceCtorEq,↓reduceIte,Na,Nb,Nc,Nk,Nf,Ng,Nh,Za,Zb,Zc,TT]
  refine acallk (cloneB_calls l s hl) ?_
  rintro r s' ⟨rfl, rfl⟩
  unfold bytesV
  simp only [↓AXq_nil,↓AXq_cons,pval,DX,Nat.reduceBEq,↓DN,UP,DF,Qa,Qb,Qc,Qd,Qe,Qf,Qg,Qh,reduceCtorEq,↓reduceIte,Na,Nb,Nc,Nk,Nf,Ng,Nh,Za,Zb,Zc,TT]
  intro p hp
  refine hK _ _ ?_
  refine awp_ret ?_
  simp only [retQ, AEnds, aresL, ares, List.toList_toArray, ↓upd_same]; try simp only [UP,DF,Nc,↓reduceIte,DT]
  exact ⟨_, _, AV.weak.refl _, AS.le.refl _, p, rfl, AS.le_set (AS.le.refl _) hp _, hp, AS.set_objs_same _ _ _⟩

set_option maxHeartbeats 1000000 in
theorem next_calls (s0 s : AS) (p : Nat) (st : EyeSt) (n : Int) (h : EyeS s0 s p st) :
    ACalls Tryz.prog Γ 120 [.ptr p 0, .v (.int .i64 n)] s (fun r s' => r = bytesV (eyeNext n st).1 .any ∧ EyeS s0 s' p (eyeNext n st).2) := by
  refine acalls_body Tryz.func120 rfl Tryz.ntmps120 Tryz.results120 (by simp) ?_
  obtain ⟨l, er⟩ := st
  have hx := h.obj
  simp only [bytesV] at hx
  refine wS fun K hK => ?_
  simp only [↓DN,UP,DF,Qa,Qb,Qc,Qd,Qe,Qf,Qg,Qh,reduceCtorEq,↓reduceIte,Na,Nb,Nc,Nk,Nf,Ng,Nh,Za,Zb,Zc,TT]
  refine hK _ _ ?_;clear hK K
  refine wK fun K hK => ?_
  refine awp_block ?_
  by_cases h0 : er = 0
  · subst h0
    refine wS fun K hK => ?_
    simp only [↓DN,UP,DF,Qa,Qb,Qc,Qd,Qe,Qf,Qg,Qh,reduceCtorEq,↓reduceIte,Na,Nb,Nc,Nk,Nf,Ng,Nh,Za,Zb,Zc,TT, hx, i64_ne_false 0 rfl]
    refine hK _ _ ?_;clear hK K
    refine wC fun X Y hX hY => ?_
    simp only [↓DN,UP,DF,Qa,Qb,Qc,Qd,Qe,Qf,Qg,Qh,reduceCtorEq,↓reduceIte,Na,Nb,Nc,Nk,Nf,Ng,Nh,Za,Zb,Zc,TT, DB]
    refine hY ?_;clear hX hY X Y
    by_cases h1 : n < 0
    · refine wS fun K hK => ?_
      simp only [↓DN,UP,DF,Qa,Qb,Qc,Qd,Qe,Qf,Qg,Qh,reduceCtorEq,↓reduceIte,Na,Nb,Nc,Nk,Nf,Ng,Nh,Za,Zb,Zc,TT, decide_eq_true h1]
      refine hK _ _ ?_;clear hK K
      refine wC fun X Y hX hY => ?_
      simp only [↓DN,UP,DF,Qa,Qb,Qc,Qd,Qe,Qf,Qg,Qh,reduceCtorEq,↓reduceIte,Na,Nb,Nc,Nk,Nf,Ng,Nh,Za,Zb,Zc,TT, DB]
      refine hX ?_;clear hX hY X Y
      refine wS fun K hK => ?_
      simp only [↓DN,UP,DF,Qa,Qb,Qc,Qd,Qe,Qf,Qg,Qh,reduceCtorEq,↓reduceIte,Na,Nb,Nc,Nk,Nf,Ng,Nh,Za,Zb,Zc,TT, hx]
      refine hK _ _ ?_;clear hK K
      refine wS fun K hK => ?_
      simp only [↓DN,UP,DF,Qa,Qb,Qc,Qd,Qe,Qf,Qg,Qh,reduceCtorEq,↓reduceIte,Na,Nb,Nc,Nk,Nf,Ng,Nh,Za,Zb,Zc,TT]
      refine hK _ _ ?_;clear hK K
      refine awp_ret ?_
      simp only [retQ, AEnds, aresL, ares, List.toList_toArray, ↓upd_same]; try simp only [UP,DF,Nc,↓reduceIte,DT]
      rw [eyeNext_neg h1]
      exact ⟨_, _, AV.weak_nil, AS.le.refl _, rfl, h.put⟩
    · refine wS fun K hK => ?_
      simp only [↓DN,UP,DF,Qa,Qb,Qc,Qd,Qe,Qf,Qg,Qh,reduceCtorEq,↓reduceIte,Na,Nb,Nc,Nk,Nf,Ng,Nh,Za,Zb,Zc,TT, decide_eq_false h1]
      refine hK _ _ ?_;clear hK K
      refine wC fun X Y hX hY => ?_
      simp only [↓DN,UP,DF,Qa,Qb,Qc,Qd,Qe,Qf,Qg,Qh,reduceCtorEq,↓reduceIte,Na,Nb,Nc,Nk,Nf,Ng,Nh,Za,Zb,Zc,TT, DB]
      refine hY ?_;clear hX hY X Y
      by_cases h2 : (l.length : Int) < n
      · refine wS fun K hK => ?_
        simp only [↓DN,UP,DF,Qa,Qb,Qc,Qd,Qe,Qf,Qg,Qh,reduceCtorEq,↓reduceIte,Na,Nb,Nc,Nk,Nf,Ng,Nh,Za,Zb,Zc,TT, hx, decide_eq_true h2]
        refine hK _ _ ?_;clear hK K
        refine wC fun X Y hX hY => ?_
        simp only [↓DN,UP,DF,Qa,Qb,Qc,Qd,Qe,Qf,Qg,Qh,reduceCtorEq,↓reduceIte,Na,Nb,Nc,Nk,Nf,Ng,Nh,Za,Zb,Zc,TT, DB]
        refine hX ?_;clear hX hY X Y
        refine wS fun K hK => ?_
        simp only [↓DN,UP,DF,Qa,Qb,Qc,Qd,Qe,Qf,Qg,Qh,reduceCtorEq,↓reduceIte,Na,Nb,Nc,Nk,Nf,Ng,Nh,Za,Zb,Zc,TT, hx]
        refine hK _ _ ?_;clear hK K
        refine wS fun K hK => ?_
        simp only [↓DN,UP,DF,Qa,Qb,Qc,Qd,Qe,Qf,Qg,Qh,reduceCtorEq,↓reduceIte,Na,Nb,Nc,Nk,Nf,Ng,Nh,Za,Zb,Zc,TT]
        refine hK _ _ ?_;clear hK K
        refine awp_ret ?_
        simp only [retQ, AEnds, aresL, ares, List.toList_toArray, ↓upd_same]; try simp only [UP,DF,Nc,↓reduceIte,DT]
        rw [eyeNext_short h1 h2]
        exact ⟨_, _, AV.weak_nil, AS.le.refl _, rfl, h.put⟩
      · obtain ⟨m, rfl⟩ := Int.eq_ofNat_of_zero_le (Int.not_lt.1 h1)
        have hml : m ≤ l.length := by omega
        have hm0 : (0 : Int) ≤ (m : Int) := by omega
        have hml' : (m : Int) ≤ (l.length : Int) := by omega
        refine wS fun K hK => ?_
        simp only [↓DN,UP,DF,Qa,Qb,Qc,Qd,Qe,Qf,Qg,Qh,reduceCtorEq,↓reduceIte,Na,Nb,Nc,Nk,Nf,Ng,Nh,Za,Zb,Zc,TT, hx, decide_eq_false h2]
        refine hK _ _ ?_;clear hK K
        refine wC fun X Y hX hY => ?_
        simp only [↓DN,UP,DF,Qa,Qb,Qc,Qd,Qe,Qf,Qg,Qh,reduceCtorEq,↓reduceIte,Na,Nb,Nc,Nk,Nf,Ng,Nh,Za,Zb,Zc,TT, DB]
        refine hY ?_;clear hX hY X Y
        refine awp_skip ?_
        simp only [thenQ, blockQ, if_true, if_false]
        refine hK _ _ ?_;clear hK K
        refine wS fun K hK => ?_
        simp only [↓DN,UP,DF,Qa,Qb,Qc,Qd,Qe,Qf,Qg,Qh,reduceCtorEq,↓reduceIte,Na,Nb,Nc,Nk,Nf,Ng,Nh,Za,Zb,Zc,TT, hx, hm0, hml', Int.le_refl]
        refine hK _ _ ?_;clear hK K
        refine wS fun K hK => ?_
        simp only [↓DN,UP,DF,Qa,Qb,Qc,Qd,Qe,Qf,Qg,Qh,reduceCtorEq,↓reduceIte,Na,Nb,Nc,Nk,Nf,Ng,Nh,Za,Zb,Zc,TT, hx, hm0, hml', Int.le_refl]
        refine hK _ _ ?_;clear hK K
        refine wS fun K hK => ?_
        simp only [↓DN,UP,DF,Qa,Qb,Qc,Qd,Qe,Qf,Qg,Qh,reduceCtorEq,↓reduceIte,Na,Nb,Nc,Nk,Nf,Ng,Nh,Za,Zb,Zc,TT]
        refine hK _ _ ?_;clear hK K
        refine awp_ret ?_
        simp only [retQ, AEnds, aresL, ares, List.toList_toArray, ↓upd_same]; try simp only [UP,DF,Nc,↓reduceIte,DT]
        rw [eyeNext_ok hml]
        refine ⟨_, _, AV.weak.refl _, AS.le.refl _, bytes_of ?_ rfl, h.put' ?_⟩
        · simp only [List.length_take]; omega
        · rw [bytes_of (m := l.drop m)]
          · simp only [List.length_drop]
          · rw [List.take_length]
  · refine wS fun K hK => ?_
    simp only [↓DN,UP,DF,Qa,Qb,Qc,Qd,Qe,Qf,Qg,Qh,reduceCtorEq,↓reduceIte,Na,Nb,Nc,Nk,Nf,Ng,Nh,Za,Zb,Zc,TT, hx, i64_ne_true er h0]
    refine hK _ _ ?_;clear hK K
    refine wC fun X Y hX hY => ?_
    simp only [↓DN,UP,DF,Qa,Qb,Qc,Qd,Qe,Qf,Qg,Qh,reduceCtorEq,↓reduceIte,Na,Nb,Nc,Nk,Nf,Ng,Nh,Za,Zb,Zc,TT, DB]
    refine hX ?_;clear hX hY X Y
    refine wS fun K hK => ?_
    simp only [↓DN,UP,DF,Qa,Qb,Qc,Qd,Qe,Qf,Qg,Qh,reduceCtorEq,↓reduceIte,Na,Nb,Nc,Nk,Nf,Ng,Nh,Za,Zb,Zc,TT]
    refine hK _ _ ?_;clear hK K
    refine awp_ret ?_
    simp only [retQ, AEnds, aresL, ares, List.toList_toArray, ↓upd_same]; try simp only [UP,DF,Nc,↓reduceIte,DT]
    rw [eyeNext_err h0]
    exact ⟨_, _, AV.weak_nil, AS.le.refl _, rfl, h⟩

end Go.Proofs.YtcnilmidfhpckaaGreatDoor


set_option autoImplicit false
namespace Go.Proofs.YtcnilmidfhpckaaGreatDoor
open Go Go.AM Go.Proofs


variable {Γ : Nat → List AV}

set_option maxHeartbeats 1000000 in
theorem eyeNumber_calls (s0 s : AS) (p : Nat) (st : EyeSt) (size : Nat) (hs : size ≤ 8) (h : EyeS s0 s p st) :
    ACalls Tryz.prog Γ 89 [.ptr p 0, .v (.int .i64 size)] s (fun r s' => r = .v (.int .u64 (eyeNum size st).1) ∧ EyeS s0 s' p (eyeNum size st).2) := by
  refine acalls_body Tryz.func89 rfl Tryz.ntmps89 Tryz.results89 (by simp) ?_
  obtain ⟨out, hout⟩ : ∃ out, out = (eyeNext size st).1 := ⟨_, rfl⟩
  have hlen : out.length ≤ 8 := by rw [hout]; exact Nat.le_trans (eyeNext_le _ _) hs
  refine wS fun K hK => ?_
  simp only [↓DN,UP,DF,Qa,Qb,Qc,Qd,Qe,Qf,Qg,Qh,reduceCtorEq,↓reduceIte,Na,Nb,Nc,Nk,Nf,Ng,Nh,Za,Zb,Zc,TT]
  refine hK _ _ ?_;clear hK K
  refine wS fun K hK => ?_
  simp only [↓DN,UP,DF,Qa,Qb,Qc,Qd,Qe,Qf,Qg,Qh,reduceCtorEq,↓reduceIte,Na,Nb,Nc,Nk,Nf,Ng,Nh,Za,Zb,Zc,TT]
  refine hK _ _ ?_;clear hK K
  refine wK fun K hK => ?_
  refine wS fun K hK => ?_
  simp only [↓DN,UP,DF,Qa,Qb,Qc,Qd,Qe,Qf,Qg,Qh,reduceCtorEq,↓reduceIte,Na,Nb,Nc,Nk,Nf,Ng,Nh,Za,Zb,Zc,TT]
  refine acallk (next_calls s0 s p st size h) ?_
  rintro r s2 ⟨rfl, he⟩
  rw [← hout]
  unfold bytesV
  simp only [↓AXq_nil,↓AXq_cons,pval,DX,Nat.reduceBEq,↓DN,UP,DF,Qa,Qb,Qc,Qd,Qe,Qf,Qg,Qh,reduceCtorEq,↓reduceIte,Na,Nb,Nc,Nk,Nf,Ng,Nh,Za,Zb,Zc,TT]
  refine hK _ _ ?_;clear hK K
  refine awp_block ?_
  refine awp_loop (fun E s3 => ∃ j y : Nat, j ≤ out.length ∧ E 10 = .sl 1 out.length (out.map byteV) .any ∧ E 11 = .v (.int .i64 out.length) ∧ E 12 = .v (.int .i64 j) ∧ E 5 = .v (.int .u64 y) ∧ y = beNat (out.take j) ∧ s3 = s2)
    (fun E _ => match E 12 with | .v (.int _ j) => out.length - j.toNat | _ => 0) ?_ ?_
  · exact ⟨0, 0, Nat.zero_le _, by simp only [upd, Nc, ↓reduceIte], by simp only [upd, Nc, ↓reduceIte], by simp only [upd, ↓reduceIte]; rfl, by simp only [upd, Nc, ↓reduceIte]; rfl, rfl, rfl⟩
  · rintro E3 s3 ⟨j, y, hj, f10, f11, f12, f5, hy, rfl⟩ -
    by_cases hj' : j < out.length
    · have hy7 : y < 2 ^ 56 := by
        rw [hy]
        refine Nat.lt_of_lt_of_le (beNat_take_lt out j) ?_
        rw [show (2 : Nat) ^ 56 = 256 ^ 7 from by decide]
        exact Nat.pow_le_pow_right (by decide) (by omega)
      have hy2 : beNat (out.take (j + 1)) = y * 256 + out[j].toNat := by rw [List.take_succ_eq_append_getElem hj', beNat_snoc, ← hy]
      have hgj : (0 : Int) ≤ (j : Int) := by omega
      have hat := eat_byte hj'
      generalize hcc : out[j] = c at *
      refine wS fun K hK => ?_
      simp only [↓DN,UP,DF,Qa,Qb,Qc,Qd,Qe,Qf,Qg,Qh,reduceCtorEq,↓reduceIte,Na,Nb,Nc,Nk,Nf,Ng,Nh,Za,Zb,Zc,TT, f11, f12, eye_lt_nat, decide_eq_true hj']
      refine hK _ _ ?_;clear hK K
      refine wK fun K5 hK5 => ?_
      refine wC fun X Y hX hY => ?_
      simp only [↓DN,UP,DF,Qa,Qb,Qc,Qd,Qe,Qf,Qg,Qh,reduceCtorEq,↓reduceIte,Na,Nb,Nc,Nk,Nf,Ng,Nh,Za,Zb,Zc,TT, DB]
      refine hX ?_;clear hX hY X Y
      refine awp_skip ?_
      refine hK5 _ _ ?_;clear hK5 K5
      refine wK fun K6 hK6 => ?_
      refine awp_block ?_
      refine wS fun K hK => ?_
      simp only [↓DN,UP,DF,Qa,Qb,Qc,Qd,Qe,Qf,Qg,Qh,reduceCtorEq,↓reduceIte,Na,Nb,Nc,Nk,Nf,Ng,Nh,Za,Zb,Zc,TT, f10, f12, eye_lt_nat, hj', hgj, hat, byteV]
      refine hK _ _ ?_;clear hK K
      refine wE fun K hK => ?_
      simp only [↓DN,UP,DF,Qa,Qb,Qc,Qd,Qe,Qf,Qg,Qh,reduceCtorEq,↓reduceIte,Na,Nb,Nc,Nk,Nf,Ng,Nh,Za,Zb,Zc,TT, f5, beNat_step y c hy7]
      refine hK _ _ ?_;clear hK K
      simp only [blockQ, thenQ, if_true, if_false]
      refine hK6 _ _ ?_;clear hK6 K6
      refine wE fun K hK => ?_
      simp only [↓DN,UP,DF,Qa,Qb,Qc,Qd,Qe,Qf,Qg,Qh,reduceCtorEq,↓reduceIte,Na,Nb,Nc,Nk,Nf,Ng,Nh,Za,Zb,Zc,TT, f12, eye_succ j (by omega)]
      refine hK _ _ ?_;clear hK K
      refine ⟨⟨j + 1, y * 256 + c.toNat, by omega, by simp only [upd, f10, Nc, ↓reduceIte], by simp only [upd, f11, Nc, ↓reduceIte], by simp only [upd, ↓reduceIte], by simp only [upd, Nc, ↓reduceIte], hy2.symm, rfl⟩, ?_⟩
      simp only [f12, upd, ↓reduceIte]
      omega
    · refine wS fun K hK => ?_
      simp only [↓DN,UP,DF,Qa,Qb,Qc,Qd,Qe,Qf,Qg,Qh,reduceCtorEq,↓reduceIte,Na,Nb,Nc,Nk,Nf,Ng,Nh,Za,Zb,Zc,TT, f11, f12, eye_lt_nat, decide_eq_false hj']
      refine hK _ _ ?_;clear hK K
      refine wK fun K5 hK5 => ?_
      refine wC fun X Y hX hY => ?_
      simp only [↓DN,UP,DF,Qa,Qb,Qc,Qd,Qe,Qf,Qg,Qh,reduceCtorEq,↓reduceIte,Na,Nb,Nc,Nk,Nf,Ng,Nh,Za,Zb,Zc,TT, DB]
      refine hY ?_;clear hX hY X Y
      refine awp_exit ?_
      simp only [thenQ, blockQ, if_true]
      refine hK _ _ ?_;clear hK hK5 K K5
      refine wS fun K hK => ?_
      simp only [↓DN,UP,DF,Qa,Qb,Qc,Qd,Qe,Qf,Qg,Qh,reduceCtorEq,↓reduceIte,Na,Nb,Nc,Nk,Nf,Ng,Nh,Za,Zb,Zc,TT, f5]
      refine hK _ _ ?_;clear hK K
      refine awp_ret ?_
      simp only [retQ, AEnds, aresL, ares, List.toList_toArray, ↓upd_same]; try simp only [UP,DF,Nc,↓reduceIte,DT]
      refine ⟨_, _, AV.weak.refl _, AS.le.refl _, ?_, he⟩
      rw [hy, List.take_of_length_le (by omega), hout]
      rfl

end Go.Proofs.YtcnilmidfhpckaaGreatDoor


set_option autoImplicit false
namespace Go.Proofs.YtcnilmidfhpckaaGreatDoor
open Go Go.AM Go.Proofs


variable {Γ : Nat → List AV}



set_option maxHeartbeats 400000 in
theorem eyeRaw_calls (s0 s : AS) (p : Nat) (st : EyeSt) (n : Int) (hl : st.1.length ≤ 2 ^ 45) (h : EyeS s0 s p st) :
    ACalls Tryz.prog Γ 141 [.ptr p 0, .v (.int .i64 n)] s (fun r s' => r = bytesV (eyeNext n st).1 .any ∧ EyeS s0 s' p (eyeNext n st).2) := by
  refine acalls_body Tryz.func141 rfl Tryz.ntmps141 Tryz.results141 (by simp) ?_
  refine wS fun K hK => ?_
  simp only [↓DN,UP,DF,Qa,Qb,Qc,Qd,Qe,Qf,Qg,Qh,reduceCtorEq,↓reduceIte,Na,Nb,Nc,Nk,Nf,Ng,Nh,Za,Zb,Zc,TT]
  refine hK _ _ ?_;clear hK K
  refine wS fun K hK => ?_
  simp only [↓DN,UP,DF,Qa,Qb,Qc,Qd,Qe,Qf,Qg,Qh,reduceCtorEq,↓reduceIte,Na,Nb,Nc,Nk,Nf,Ng,Nh,Za,Zb,Zc,TT]
  refine acallk (next_calls s0 s p st n h) ?_
  rintro r s' ⟨rfl, he⟩
  simp only [↓AXq_nil,↓AXq_cons,pval,DX,Nat.reduceBEq,↓DN,UP,DF,Qa,Qb,Qc,Qd,Qe,Qf,Qg,Qh,reduceCtorEq,↓reduceIte,Na,Nb,Nc,Nk,Nf,Ng,Nh,Za,Zb,Zc,TT]
  refine acallk (cloneB_calls _ s' (by have := (eyeNext_len n st).1; omega)) ?_
  rintro r' s'' ⟨rfl, rfl⟩
  simp only [↓AXq_nil,↓AXq_cons,pval,DX,Nat.reduceBEq,↓DN,UP,DF,Qa,Qb,Qc,Qd,Qe,Qf,Qg,Qh,reduceCtorEq,↓reduceIte,Na,Nb,Nc,Nk,Nf,Ng,Nh,Za,Zb,Zc,TT]
  refine hK _ _ ?_;clear hK K
  refine awp_ret ?_
  simp only [retQ, AEnds, aresL, ares, List.toList_toArray, ↓upd_same]; try simp only [UP,DF,Nc,↓reduceIte,DT]
  exact ⟨_, _, AV.weak.refl _, AS.le.refl _, rfl, he⟩

theorem eyeU_conv (k : Nat) (hk : k ≤ 7) (st : EyeSt) : iconv .i64 ((eyeNum k st).1 : Int) = ((eyeNum k st).1 : Int) := by
  have := eyeNum_lt k st
  have h2 : 256 ^ k ≤ 256 ^ 7 := Nat.pow_le_pow_right (by decide) hk
  have h3 : (256 : Nat) ^ 7 = 72057594037927936 := by decide
  exact iconv_i64 (by omega)

set_option maxHeartbeats 400000 in
theorem eyeU8_calls (s0 s : AS) (p : Nat) (st : EyeSt) (h : EyeS s0 s p st) :
    ACalls Tryz.prog Γ 47 [.ptr p 0] s (fun r s' => r = .v (.int .i64 (eyeNum 1 st).1) ∧ EyeS s0 s' p (eyeNum 1 st).2) := by
  refine acalls_body Tryz.func47 rfl Tryz.ntmps47 Tryz.results47 (by simp) ?_
  refine wS fun K hK => ?_
  simp only [↓DN,UP,DF,Qa,Qb,Qc,Qd,Qe,Qf,Qg,Qh,reduceCtorEq,↓reduceIte,Na,Nb,Nc,Nk,Nf,Ng,Nh,Za,Zb,Zc,TT]
  refine hK _ _ ?_;clear hK K
  refine wS fun K hK => ?_
  simp only [↓DN,UP,DF,Qa,Qb,Qc,Qd,Qe,Qf,Qg,Qh,reduceCtorEq,↓reduceIte,Na,Nb,Nc,Nk,Nf,Ng,Nh,Za,Zb,Zc,TT]
  refine acallk (eyeNumber_calls s0 s p st 1 (by omega) h) ?_
  rintro r s' ⟨rfl, he⟩
  simp only [↓AXq_nil,↓AXq_cons,pval,DX,Nat.reduceBEq,↓DN,UP,DF,Qa,Qb,Qc,Qd,Qe,Qf,Qg,Qh,reduceCtorEq,↓reduceIte,Na,Nb,Nc,Nk,Nf,Ng,Nh,Za,Zb,Zc,TT, eyeU_conv 1 (by omega) st]
  refine hK _ _ ?_;clear hK K
  refine awp_ret ?_
  simp only [retQ, AEnds, aresL, ares, List.toList_toArray, ↓upd_same]; try simp only [UP,DF,Nc,↓reduceIte,DT]
  exact ⟨_, _, AV.weak.refl _, AS.le.refl _, rfl, he⟩

set_option maxHeartbeats 400000 in
theorem eyeU64_calls (s0 s : AS) (p : Nat) (st : EyeSt) (h : EyeS s0 s p st) :
    ACalls Tryz.prog Γ 91 [.ptr p 0] s (fun r s' => r = .v (.int .u64 (eyeNum 8 st).1) ∧ EyeS s0 s' p (eyeNum 8 st).2) := by
  refine acalls_body Tryz.func91 rfl Tryz.ntmps91 Tryz.results91 (by simp) ?_
  refine wS fun K hK => ?_
  simp only [↓DN,UP,DF,Qa,Qb,Qc,Qd,Qe,Qf,Qg,Qh,reduceCtorEq,↓reduceIte,Na,Nb,Nc,Nk,Nf,Ng,Nh,Za,Zb,Zc,TT]
  refine hK _ _ ?_;clear hK K
  refine wS fun K hK => ?_
  simp only [↓DN,UP,DF,Qa,Qb,Qc,Qd,Qe,Qf,Qg,Qh,reduceCtorEq,↓reduceIte,Na,Nb,Nc,Nk,Nf,Ng,Nh,Za,Zb,Zc,TT]
  refine acallk (eyeNumber_calls s0 s p st 8 (by omega) h) ?_
  rintro r s' ⟨rfl, he⟩
  simp only [↓AXq_nil,↓AXq_cons,pval,DX,Nat.reduceBEq,↓DN,UP,DF,Qa,Qb,Qc,Qd,Qe,Qf,Qg,Qh,reduceCtorEq,↓reduceIte,Na,Nb,Nc,Nk,Nf,Ng,Nh,Za,Zb,Zc,TT]
  refine hK _ _ ?_;clear hK K
  refine awp_ret ?_
  simp only [retQ, AEnds, aresL, ares, List.toList_toArray, ↓upd_same]; try simp only [UP,DF,Nc,↓reduceIte,DT]
  exact ⟨_, _, AV.weak.refl _, AS.le.refl _, rfl, he⟩

set_option maxHeartbeats 1000000 in
theorem eyeText_calls (s0 s : AS) (p : Nat) (st : EyeSt) (k : Nat) (most : Int) (hk : k ≤ 7) (hl : st.1.length ≤ 2 ^ 45) (h : EyeS s0 s p st) :
    ACalls Tryz.prog Γ 121 [.ptr p 0, .v (.int .i64 k), .v (.int .i64 most)] s (fun r s' => r = bytesV (eyeText k most st).1 .any ∧ EyeS s0 s' p (eyeText k most st).2) := by
  refine acalls_body Tryz.func121 rfl Tryz.ntmps121 Tryz.results121 (by simp) ?_
  have hx := h.obj
  simp only [bytesV] at hx
  refine wS fun K hK => ?_
  simp only [↓DN,UP,DF,Qa,Qb,Qc,Qd,Qe,Qf,Qg,Qh,reduceCtorEq,↓reduceIte,Na,Nb,Nc,Nk,Nf,Ng,Nh,Za,Zb,Zc,TT]
  refine hK _ _ ?_;clear hK K
  refine wS fun K hK => ?_
  simp only [↓DN,UP,DF,Qa,Qb,Qc,Qd,Qe,Qf,Qg,Qh,reduceCtorEq,↓reduceIte,Na,Nb,Nc,Nk,Nf,Ng,Nh,Za,Zb,Zc,TT, hx]
  refine hK _ _ ?_;clear hK K
  refine wS fun K hK => ?_
  simp only [↓DN,UP,DF,Qa,Qb,Qc,Qd,Qe,Qf,Qg,Qh,reduceCtorEq,↓reduceIte,Na,Nb,Nc,Nk,Nf,Ng,Nh,Za,Zb,Zc,TT]
  refine acallk (eyeNumber_calls s0 s p st k (by omega) h) ?_
  rintro r s' ⟨rfl, he⟩
  simp only [↓AXq_nil,↓AXq_cons,pval,DX,Nat.reduceBEq,↓DN,UP,DF,Qa,Qb,Qc,Qd,Qe,Qf,Qg,Qh,reduceCtorEq,↓reduceIte,Na,Nb,Nc,Nk,Nf,Ng,Nh,Za,Zb,Zc,TT, eyeU_conv k hk st]
  refine hK _ _ ?_;clear hK K
  have hlen := eyeNum_len k st
  obtain ⟨q, hq⟩ : ∃ q, eyeNum k st = q := ⟨_, rfl⟩
  rw [hq] at he hlen
  rw [hq]
  obtain ⟨num, l', er⟩ := q
  have hx' := he.obj
  simp only [bytesV] at hx' hlen
  refine wK fun K hK => ?_
  refine awp_block ?_
  by_cases h0 : er = 0
  · subst h0
    refine wS fun K hK => ?_
    simp only [↓DN,UP,DF,Qa,Qb,Qc,Qd,Qe,Qf,Qg,Qh,reduceCtorEq,↓reduceIte,Na,Nb,Nc,Nk,Nf,Ng,Nh,Za,Zb,Zc,TT, hx', i64_ne_false 0 rfl]
    refine hK _ _ ?_;clear hK K
    refine wC fun X Y hX hY => ?_
    simp only [↓DN,UP,DF,Qa,Qb,Qc,Qd,Qe,Qf,Qg,Qh,reduceCtorEq,↓reduceIte,Na,Nb,Nc,Nk,Nf,Ng,Nh,Za,Zb,Zc,TT, DB]
    refine hY ?_;clear hX hY X Y
    by_cases h1 : most < (num : Int)
    · refine wS fun K hK => ?_
      simp only [↓DN,UP,DF,Qa,Qb,Qc,Qd,Qe,Qf,Qg,Qh,reduceCtorEq,↓reduceIte,Na,Nb,Nc,Nk,Nf,Ng,Nh,Za,Zb,Zc,TT, decide_eq_true h1]
      refine hK _ _ ?_;clear hK K
      refine wC fun X Y hX hY => ?_
      simp only [↓DN,UP,DF,Qa,Qb,Qc,Qd,Qe,Qf,Qg,Qh,reduceCtorEq,↓reduceIte,Na,Nb,Nc,Nk,Nf,Ng,Nh,Za,Zb,Zc,TT, DB]
      refine hX ?_;clear hX hY X Y
      refine wS fun K hK => ?_
      simp only [↓DN,UP,DF,Qa,Qb,Qc,Qd,Qe,Qf,Qg,Qh,reduceCtorEq,↓reduceIte,Na,Nb,Nc,Nk,Nf,Ng,Nh,Za,Zb,Zc,TT, hx']
      refine hK _ _ ?_;clear hK K
      refine wS fun K hK => ?_
      simp only [↓DN,UP,DF,Qa,Qb,Qc,Qd,Qe,Qf,Qg,Qh,reduceCtorEq,↓reduceIte,Na,Nb,Nc,Nk,Nf,Ng,Nh,Za,Zb,Zc,TT]
      refine hK _ _ ?_;clear hK K
      refine awp_ret ?_
      simp only [retQ, AEnds, aresL, ares, List.toList_toArray, ↓upd_same]; try simp only [UP,DF,Nc,↓reduceIte,DT]
      have e : eyeText k most st = ([], st.1, 11) := by unfold eyeText; rw [hq]; exact (if_pos rfl).trans (if_pos h1)
      rw [e]
      exact ⟨_, _, AV.weak_nil, AS.le.refl _, rfl, he.put⟩
    · refine wS fun K hK => ?_
      simp only [↓DN,UP,DF,Qa,Qb,Qc,Qd,Qe,Qf,Qg,Qh,reduceCtorEq,↓reduceIte,Na,Nb,Nc,Nk,Nf,Ng,Nh,Za,Zb,Zc,TT, decide_eq_false h1]
      refine hK _ _ ?_;clear hK K
      refine wC fun X Y hX hY => ?_
      simp only [↓DN,UP,DF,Qa,Qb,Qc,Qd,Qe,Qf,Qg,Qh,reduceCtorEq,↓reduceIte,Na,Nb,Nc,Nk,Nf,Ng,Nh,Za,Zb,Zc,TT, DB]
      refine hY ?_;clear hX hY X Y
      by_cases h2 : l'.length < num
      · refine wS fun K hK => ?_
        simp only [↓DN,UP,DF,Qa,Qb,Qc,Qd,Qe,Qf,Qg,Qh,reduceCtorEq,↓reduceIte,Na,Nb,Nc,Nk,Nf,Ng,Nh,Za,Zb,Zc,TT, hx', eye_lt_nat, decide_eq_true h2]
        refine hK _ _ ?_;clear hK K
        refine wC fun X Y hX hY => ?_
        simp only [↓DN,UP,DF,Qa,Qb,Qc,Qd,Qe,Qf,Qg,Qh,reduceCtorEq,↓reduceIte,Na,Nb,Nc,Nk,Nf,Ng,Nh,Za,Zb,Zc,TT, DB]
        refine hX ?_;clear hX hY X Y
        refine wS fun K hK => ?_
        simp only [↓DN,UP,DF,Qa,Qb,Qc,Qd,Qe,Qf,Qg,Qh,reduceCtorEq,↓reduceIte,Na,Nb,Nc,Nk,Nf,Ng,Nh,Za,Zb,Zc,TT, hx']
        refine hK _ _ ?_;clear hK K
        refine wS fun K hK => ?_
        simp only [↓DN,UP,DF,Qa,Qb,Qc,Qd,Qe,Qf,Qg,Qh,reduceCtorEq,↓reduceIte,Na,Nb,Nc,Nk,Nf,Ng,Nh,Za,Zb,Zc,TT]
        refine hK _ _ ?_;clear hK K
        refine awp_ret ?_
        simp only [retQ, AEnds, aresL, ares, List.toList_toArray, ↓upd_same]; try simp only [UP,DF,Nc,↓reduceIte,DT]
        have e : eyeText k most st = ([], st.1, 10) := by unfold eyeText; rw [hq]; exact (if_pos rfl).trans ((if_neg h1).trans (if_pos h2))
        rw [e]
        exact ⟨_, _, AV.weak_nil, AS.le.refl _, rfl, he.put⟩
      · have e : eyeText k most st = eyeNext num (l', 0) := by unfold eyeText; rw [hq]; exact (if_pos rfl).trans ((if_neg h1).trans (if_neg h2))
        refine wS fun K hK => ?_
        simp only [↓DN,UP,DF,Qa,Qb,Qc,Qd,Qe,Qf,Qg,Qh,reduceCtorEq,↓reduceIte,Na,Nb,Nc,Nk,Nf,Ng,Nh,Za,Zb,Zc,TT, hx', eye_lt_nat, decide_eq_false h2]
        refine hK _ _ ?_;clear hK K
        refine wC fun X Y hX hY => ?_
        simp only [↓DN,UP,DF,Qa,Qb,Qc,Qd,Qe,Qf,Qg,Qh,reduceCtorEq,↓reduceIte,Na,Nb,Nc,Nk,Nf,Ng,Nh,Za,Zb,Zc,TT, DB]
        refine hY ?_;clear hX hY X Y
        refine awp_skip ?_
        simp only [thenQ, blockQ, if_true, if_false]
        refine hK _ _ ?_;clear hK K
        refine wS fun K hK => ?_
        simp only [↓DN,UP,DF,Qa,Qb,Qc,Qd,Qe,Qf,Qg,Qh,reduceCtorEq,↓reduceIte,Na,Nb,Nc,Nk,Nf,Ng,Nh,Za,Zb,Zc,TT]
        refine acallk (eyeRaw_calls s0 s' p (l', 0) num (by simp only; omega) he) ?_
        rintro r s'' ⟨rfl, he'⟩
        simp only [↓AXq_nil,↓AXq_cons,pval,DX,Nat.reduceBEq,↓DN,UP,DF,Qa,Qb,Qc,Qd,Qe,Qf,Qg,Qh,reduceCtorEq,↓reduceIte,Na,Nb,Nc,Nk,Nf,Ng,Nh,Za,Zb,Zc,TT]
        refine hK _ _ ?_;clear hK K
        refine awp_ret ?_
        simp only [retQ, AEnds, aresL, ares, List.toList_toArray, ↓upd_same]; try simp only [UP,DF,Nc,↓reduceIte,DT]
        rw [e]
        exact ⟨_, _, AV.weak.refl _, AS.le.refl _, rfl, he'⟩
  · refine wS fun K hK => ?_
    simp only [↓DN,UP,DF,Qa,Qb,Qc,Qd,Qe,Qf,Qg,Qh,reduceCtorEq,↓reduceIte,Na,Nb,Nc,Nk,Nf,Ng,Nh,Za,Zb,Zc,TT, hx', i64_ne_true er h0]
    refine hK _ _ ?_;clear hK K
    refine wC fun X Y hX hY => ?_
    simp only [↓DN,UP,DF,Qa,Qb,Qc,Qd,Qe,Qf,Qg,Qh,reduceCtorEq,↓reduceIte,Na,Nb,Nc,Nk,Nf,Ng,Nh,Za,Zb,Zc,TT, DB]
    refine hX ?_;clear hX hY X Y
    refine wS fun K hK => ?_
    simp only [↓DN,UP,DF,Qa,Qb,Qc,Qd,Qe,Qf,Qg,Qh,reduceCtorEq,↓reduceIte,Na,Nb,Nc,Nk,Nf,Ng,Nh,Za,Zb,Zc,TT]
    refine hK _ _ ?_;clear hK K
    refine awp_ret ?_
    simp only [retQ, AEnds, aresL, ares, List.toList_toArray, ↓upd_same]; try simp only [UP,DF,Nc,↓reduceIte,DT]
    have e : eyeText k most st = ([], l', er) := by unfold eyeText; rw [hq]; exact if_neg h0
    rw [e]
    exact ⟨_, _, AV.weak_nil, AS.le.refl _, rfl, he⟩

set_option maxHeartbeats 400000 in
theorem eyeShort_calls (s0 s : AS) (p : Nat) (st : EyeSt) (most : Int) (hl : st.1.length ≤ 2 ^ 45) (h : EyeS s0 s p st) :
    ACalls Tryz.prog Γ 90 [.ptr p 0, .v (.int .i64 most)] s (fun r s' => r = bytesV (eyeText 1 most st).1 .any ∧ EyeS s0 s' p (eyeText 1 most st).2) := by
  refine acalls_body Tryz.func90 rfl Tryz.ntmps90 Tryz.results90 (by simp) ?_
  refine wS fun K hK => ?_
  simp only [↓DN,UP,DF,Qa,Qb,Qc,Qd,Qe,Qf,Qg,Qh,reduceCtorEq,↓reduceIte,Na,Nb,Nc,Nk,Nf,Ng,Nh,Za,Zb,Zc,TT]
  refine hK _ _ ?_;clear hK K
  refine wS fun K hK => ?_
  simp only [↓DN,UP,DF,Qa,Qb,Qc,Qd,Qe,Qf,Qg,Qh,reduceCtorEq,↓reduceIte,Na,Nb,Nc,Nk,Nf,Ng,Nh,Za,Zb,Zc,TT]
  refine acallk (eyeText_calls s0 s p st 1 most (by omega) hl h) ?_
  rintro r s' ⟨rfl, he⟩
  simp only [↓AXq_nil,↓AXq_cons,pval,DX,Nat.reduceBEq,↓DN,UP,DF,Qa,Qb,Qc,Qd,Qe,Qf,Qg,Qh,reduceCtorEq,↓reduceIte,Na,Nb,Nc,Nk,Nf,Ng,Nh,Za,Zb,Zc,TT]
  refine hK _ _ ?_;clear hK K
  refine awp_ret ?_
  simp only [retQ, AEnds, aresL, ares, List.toList_toArray, ↓upd_same]; try simp only [UP,DF,Nc,↓reduceIte,DT]
  exact ⟨_, _, AV.weak.refl _, AS.le.refl _, rfl, he⟩

set_option maxHeartbeats 400000 in
theorem eyeLeft_calls (s0 s : AS) (p : Nat) (st : EyeSt) (h : EyeS s0 s p st) :
    ACalls Tryz.prog Γ 19 [.ptr p 0] s (fun r s' => r = .v (.int .i64 st.1.length) ∧ s' = s) := by
  refine acalls_body Tryz.func19 rfl Tryz.ntmps19 Tryz.results19 (by simp) ?_
  have hx := h.obj
  simp only [bytesV] at hx
  refine wS fun K hK => ?_
  simp only [↓DN,UP,DF,Qa,Qb,Qc,Qd,Qe,Qf,Qg,Qh,reduceCtorEq,↓reduceIte,Na,Nb,Nc,Nk,Nf,Ng,Nh,Za,Zb,Zc,TT]
  refine hK _ _ ?_;clear hK K
  refine wS fun K hK => ?_
  simp only [↓DN,UP,DF,Qa,Qb,Qc,Qd,Qe,Qf,Qg,Qh,reduceCtorEq,↓reduceIte,Na,Nb,Nc,Nk,Nf,Ng,Nh,Za,Zb,Zc,TT, hx]
  refine hK _ _ ?_;clear hK K
  refine awp_ret ?_
  simp only [retQ, AEnds, aresL, ares, List.toList_toArray, ↓upd_same]; try simp only [UP,DF,Nc,↓reduceIte,DT]
  exact ⟨_, _, AV.weak.refl _, AS.le.refl _, rfl, rfl⟩

set_option maxHeartbeats 400000 in
theorem eyeErr_calls (s0 s : AS) (p : Nat) (st : EyeSt) (h : EyeS s0 s p st) :
    ACalls Tryz.prog Γ 18 [.ptr p 0] s (fun r s' => r = .v (.int .i64 st.2) ∧ s' = s) := by
  refine acalls_body Tryz.func18 rfl Tryz.ntmps18 Tryz.results18 (by simp) ?_
  have hx := h.obj
  refine wS fun K hK => ?_
  simp only [↓DN,UP,DF,Qa,Qb,Qc,Qd,Qe,Qf,Qg,Qh,reduceCtorEq,↓reduceIte,Na,Nb,Nc,Nk,Nf,Ng,Nh,Za,Zb,Zc,TT]
  refine hK _ _ ?_;clear hK K
  refine wS fun K hK => ?_
  simp only [↓DN,UP,DF,Qa,Qb,Qc,Qd,Qe,Qf,Qg,Qh,reduceCtorEq,↓reduceIte,Na,Nb,Nc,Nk,Nf,Ng,Nh,Za,Zb,Zc,TT, hx]
  refine hK _ _ ?_;clear hK K
  refine awp_ret ?_
  simp only [retQ, AEnds, aresL, ares, List.toList_toArray, ↓upd_same]; try simp only [UP,DF,Nc,↓reduceIte,DT]
  exact ⟨_, _, AV.weak.refl _, AS.le.refl _, rfl, rfl⟩

set_option maxHeartbeats 400000 in
theorem eyeFail_calls (s0 s : AS) (p : Nat) (st : EyeSt) (e : Int) (h : EyeS s0 s p st) :
    ACalls Tryz.prog Γ 49 [.ptr p 0, .v (.int .i64 e)] s (fun r s' => r = .tup [] ∧ EyeS s0 s' p (st.1, if st.2 = 0 then e else st.2)) := by
  refine acalls_body Tryz.func49 rfl Tryz.ntmps49 Tryz.results49 (by simp) ?_
  have hx := h.obj
  obtain ⟨l, er⟩ := st
  simp only at hx ⊢
  by_cases h0 : er = 0
  · refine wS fun K hK => ?_
    simp only [↓DN,UP,DF,Qa,Qb,Qc,Qd,Qe,Qf,Qg,Qh,reduceCtorEq,↓reduceIte,Na,Nb,Nc,Nk,Nf,Ng,Nh,Za,Zb,Zc,TT, hx, i64_eq_true er h0]
    refine hK _ _ ?_;clear hK K
    refine wC fun X Y hX hY => ?_
    simp only [↓DN,UP,DF,Qa,Qb,Qc,Qd,Qe,Qf,Qg,Qh,reduceCtorEq,↓reduceIte,Na,Nb,Nc,Nk,Nf,Ng,Nh,Za,Zb,Zc,TT, DB]
    refine hX ?_;clear hX hY X Y
    refine wE fun K hK => ?_
    simp only [↓DN,UP,DF,Qa,Qb,Qc,Qd,Qe,Qf,Qg,Qh,reduceCtorEq,↓reduceIte,Na,Nb,Nc,Nk,Nf,Ng,Nh,Za,Zb,Zc,TT, hx]
    refine hK _ _ ?_;clear hK K
    simp only [retQ, AEnds, aresL, ares, List.toList_toArray, ↓upd_same]; try simp only [UP,DF,Nc,↓reduceIte,DT]
    rw [if_pos h0]
    exact ⟨_, _, AV.weak.refl _, AS.le.refl _, rfl, h.put⟩
  · refine wS fun K hK => ?_
    simp only [↓DN,UP,DF,Qa,Qb,Qc,Qd,Qe,Qf,Qg,Qh,reduceCtorEq,↓reduceIte,Na,Nb,Nc,Nk,Nf,Ng,Nh,Za,Zb,Zc,TT, hx, i64_eq_false er h0]
    refine hK _ _ ?_;clear hK K
    refine wC fun X Y hX hY => ?_
    simp only [↓DN,UP,DF,Qa,Qb,Qc,Qd,Qe,Qf,Qg,Qh,reduceCtorEq,↓reduceIte,Na,Nb,Nc,Nk,Nf,Ng,Nh,Za,Zb,Zc,TT, DB]
    refine hY ?_;clear hX hY X Y
    refine awp_skip ?_
    simp only [retQ, AEnds, aresL, ares, List.toList_toArray, ↓upd_same]; try simp only [UP,DF,Nc,↓reduceIte,DT]
    rw [if_neg h0]
    exact ⟨_, _, AV.weak.refl _, AS.le.refl _, rfl, h⟩

set_option maxHeartbeats 400000 in
theorem eyeEnd_calls (s0 s : AS) (p : Nat) (st : EyeSt) (h : EyeS s0 s p st) :
    ACalls Tryz.prog Γ 16 [.ptr p 0] s (fun r s' => r = .v (.int .i64 (eyeEnd st)) ∧ s' = s) := by
  refine acalls_body Tryz.func16 rfl Tryz.ntmps16 Tryz.results16 (by simp) ?_
  have hx := h.obj
  obtain ⟨l, er⟩ := st
  simp only [bytesV] at hx
  refine wS fun K hK => ?_
  simp only [↓DN,UP,DF,Qa,Qb,Qc,Qd,Qe,Qf,Qg,Qh,reduceCtorEq,↓reduceIte,Na,Nb,Nc,Nk,Nf,Ng,Nh,Za,Zb,Zc,TT]
  refine hK _ _ ?_;clear hK K
  refine wK fun K hK => ?_
  have hgo : ∀ E1 : Env, E1 0 = .ptr p 0 → eyeEnd (l, er) = er → K E1 s := by
    intro E1 e0 e
    refine hK _ _ ?_;clear hK K
    refine wS fun K hK => ?_
    simp only [↓DN,UP,DF,Qa,Qb,Qc,Qd,Qe,Qf,Qg,Qh,reduceCtorEq,↓reduceIte,Na,Nb,Nc,Nk,Nf,Ng,Nh,Za,Zb,Zc,TT, e0, hx]
    refine hK _ _ ?_;clear hK K
    refine awp_ret ?_
    simp only [retQ, AEnds, aresL, ares, List.toList_toArray, ↓upd_same]; try simp only [UP,DF,Nc,↓reduceIte,DT]
    exact ⟨_, _, AV.weak.refl _, AS.le.refl _, by rw [e], rfl⟩
  clear hK
  by_cases h0 : er = 0
  · by_cases h1 : 0 < l.length
    · refine wS fun K hK => ?_
      simp only [↓DN,UP,DF,Qa,Qb,Qc,Qd,Qe,Qf,Qg,Qh,reduceCtorEq,↓reduceIte,Na,Nb,Nc,Nk,Nf,Ng,Nh,Za,Zb,Zc,TT, hx, i64_eq_true er h0, decide_eq_true (show (0 : Int) < (l.length : Int) by omega)]
      refine hK _ _ ?_;clear hK K
      refine wC fun X Y hX hY => ?_
      simp only [↓DN,UP,DF,Qa,Qb,Qc,Qd,Qe,Qf,Qg,Qh,reduceCtorEq,↓reduceIte,Na,Nb,Nc,Nk,Nf,Ng,Nh,Za,Zb,Zc,TT, DB]
      refine hX ?_;clear hX hY X Y
      refine wS fun K hK => ?_
      simp only [↓DN,UP,DF,Qa,Qb,Qc,Qd,Qe,Qf,Qg,Qh,reduceCtorEq,↓reduceIte,Na,Nb,Nc,Nk,Nf,Ng,Nh,Za,Zb,Zc,TT]
      refine hK _ _ ?_;clear hK K
      refine awp_ret ?_
      simp only [retQ, AEnds, aresL, ares, List.toList_toArray, ↓upd_same]; try simp only [UP,DF,Nc,↓reduceIte,DT]
      exact ⟨_, _, AV.weak.refl _, AS.le.refl _, by simp [eyeEnd, h0, h1, atuple], rfl⟩
    · refine wS fun K hK => ?_
      simp only [↓DN,UP,DF,Qa,Qb,Qc,Qd,Qe,Qf,Qg,Qh,reduceCtorEq,↓reduceIte,Na,Nb,Nc,Nk,Nf,Ng,Nh,Za,Zb,Zc,TT, hx, i64_eq_true er h0, decide_eq_false (show ¬ (0 : Int) < (l.length : Int) by omega)]
      refine hK _ _ ?_;clear hK K
      refine wC fun X Y hX hY => ?_
      simp only [↓DN,UP,DF,Qa,Qb,Qc,Qd,Qe,Qf,Qg,Qh,reduceCtorEq,↓reduceIte,Na,Nb,Nc,Nk,Nf,Ng,Nh,Za,Zb,Zc,TT, DB]
      refine hY ?_;clear hX hY X Y
      refine awp_skip ?_
      exact hgo _ (by simp only [upd, initE, List.getD_cons_zero, Nc, ↓reduceIte]) (by simp [eyeEnd, h1])
  · refine wS fun K hK => ?_
    simp only [↓DN,UP,DF,Qa,Qb,Qc,Qd,Qe,Qf,Qg,Qh,reduceCtorEq,↓reduceIte,Na,Nb,Nc,Nk,Nf,Ng,Nh,Za,Zb,Zc,TT, hx, i64_eq_false er h0]
    refine hK _ _ ?_;clear hK K
    refine wC fun X Y hX hY => ?_
    simp only [↓DN,UP,DF,Qa,Qb,Qc,Qd,Qe,Qf,Qg,Qh,reduceCtorEq,↓reduceIte,Na,Nb,Nc,Nk,Nf,Ng,Nh,Za,Zb,Zc,TT, DB]
    refine hY ?_;clear hX hY X Y
    refine awp_skip ?_
    exact hgo _ (by simp only [upd, initE, List.getD_cons_zero, Nc, ↓reduceIte]) (by simp [eyeEnd, h0])

end Go.Proofs.YtcnilmidfhpckaaGreatDoor


