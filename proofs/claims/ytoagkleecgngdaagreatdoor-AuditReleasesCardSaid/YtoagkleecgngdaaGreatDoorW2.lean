/- Contracts of the program's functions, each walked once; the conditions stand in each theorem. -/
import Derived.Test.YtoagkleecgngdaaGreatDoorAMp6
import Derived.Test.YtoagkleecgngdaaGreatDoorW1
import Derived.Test.YtoagkleecgngdaaGreatDoorAMp4
import Derived.Test.YtoagkleecgngdaaGreatDoorAMp3
import Derived.Test.YtoagkleecgngdaaGreatDoorAMp5
set_option linter.unusedSimpArgs false
set_option linter.unusedVariables false
open Nat renaming reduceLT → Na, reduceLeDiff → Nb, reduceEqDiff → Nc, reduceAdd → Nk, reduceMul → Nf, reducePow → Ng, reduceSub → Nh
open Int renaming reduceLT → Za, reduceLE → Zb, reduceToNat → Zc
open Go.AM renaming ashift → Qa, aconv → Qb, aindexAddr → Qc, aindex → Qd, aslice → Qe, abuiltin → Qf, awp_reg_seq → wS, awp_reg_end → wE, awp_seq_k → wK, awp_cond_k → wC
open Go.AM.AV renaming cells → Qg, one → Qh
set_option autoImplicit false
namespace Go.Proofs.YtoagkleecgngdaaGreatDoor
open Go Go.AM Go.Proofs


variable {Γ : Nat → List AV}



set_option maxHeartbeats 400000 in
theorem eyeRaw_calls (s0 s : AS) (p : Nat) (st : EyeSt) (n : Int) (hl : st.1.length ≤ 2 ^ 45) (h : EyeS s0 s p st) :
    ACalls Tryz.prog Γ 217 [.ptr p 0, .v (.int .i64 n)] s (fun r s' => r = bytesV (eyeNext n st).1 .any ∧ EyeS s0 s' p (eyeNext n st).2) := by
  refine acalls_body Tryz.func217 rfl Tryz.ntmps217 Tryz.results217 (by simp) ?_
  refine wS fun K hK => ?_
  simp only [↓DN,UP,DF,Qa,Qb,Qc,Qd,Qe,Qf,Qg,Qh,reduceCtorEq,↓reduceIte,Na,Nb,Nc,Nk,Nf,Ng,Nh,Za,Zb,Zc,TT]
  refine hK _ _ ?_;clear hK K
  refine wS fun K hK => ?_
  simp only [↓DN,UP,DF,Qa,Qb,Qc,Qd,Qe,Qf,Qg,Qh,reduceCtorEq,↓reduceIte,Na,Nb,Nc,Nk,Nf,Ng,Nh,Za,Zb,Zc,TT]
  refine acallk (next_calls s0 s p st n h) ?_
  rintro r s' ⟨rfl, he⟩
  simp only [↓AXq_nil,↓AXq_cons,pval,DX,Nat.reduceBEq,↓DN,UP,DF,Qa,Qb,Qc,Qd,Qe,Qf,Qg,Qh,reduceCtorEq,↓reduceIte,Na,Nb,Nc,Nk,Nf,Ng,Nh,Za,Zb,Zc,TT]
  refine acallk (cloneB_calls _ s' (by have := (eyeNext_len n st).1; omega)) ?_
  rintro r' s'' ⟨rfl, rfl⟩
  simp only [↓AXq_nil,↓AXq_cons,pval,DX,Nat.reduceBEq,↓DN,UP,DF,Qa,Qb,Qc,Qd,Qe,Qf,Qg,Qh,reduceCtorEq,↓reduceIte,Na,Nb,Nc,Nk,Nf,Ng,Nh,Za,Zb,Zc,TT]
  refine hK _ _ ?_;clear hK K
  refine awp_ret ?_
  simp only [retQ, AEnds, aresL, ares, List.toList_toArray, ↓upd_same]; try simp only [UP,DF,Nc,↓reduceIte,DT]
  exact ⟨_, _, AV.weak.refl _, AS.le.refl _, rfl, he⟩

theorem eyeU_conv (k : Nat) (hk : k ≤ 7) (st : EyeSt) : iconv .i64 ((eyeNum k st).1 : Int) = ((eyeNum k st).1 : Int) := by
  have := eyeNum_lt k st
  have h2 : 256 ^ k ≤ 256 ^ 7 := Nat.pow_le_pow_right (by decide) hk
  have h3 : (256 : Nat) ^ 7 = 72057594037927936 := by decide
  exact iconv_i64 (by omega)

set_option maxHeartbeats 400000 in
theorem eyeU8_calls (s0 s : AS) (p : Nat) (st : EyeSt) (h : EyeS s0 s p st) :
    ACalls Tryz.prog Γ 154 [.ptr p 0] s (fun r s' => r = .v (.int .i64 (eyeNum 1 st).1) ∧ EyeS s0 s' p (eyeNum 1 st).2) := by
  refine acalls_body Tryz.func154 rfl Tryz.ntmps154 Tryz.results154 (by simp) ?_
  refine wS fun K hK => ?_
  simp only [↓DN,UP,DF,Qa,Qb,Qc,Qd,Qe,Qf,Qg,Qh,reduceCtorEq,↓reduceIte,Na,Nb,Nc,Nk,Nf,Ng,Nh,Za,Zb,Zc,TT]
  refine hK _ _ ?_;clear hK K
  refine wS fun K hK => ?_
  simp only [↓DN,UP,DF,Qa,Qb,Qc,Qd,Qe,Qf,Qg,Qh,reduceCtorEq,↓reduceIte,Na,Nb,Nc,Nk,Nf,Ng,Nh,Za,Zb,Zc,TT]
  refine acallk (eyeNumber_calls s0 s p st 1 (by omega) h) ?_
  rintro r s' ⟨rfl, he⟩
  simp only [↓AXq_nil,↓AXq_cons,pval,DX,Nat.reduceBEq,↓DN,UP,DF,Qa,Qb,Qc,Qd,Qe,Qf,Qg,Qh,reduceCtorEq,↓reduceIte,Na,Nb,Nc,Nk,Nf,Ng,Nh,Za,Zb,Zc,TT, eyeU_conv 1 (by omega) st]
  refine hK _ _ ?_;clear hK K
  refine awp_ret ?_
  simp only [retQ, AEnds, aresL, ares, List.toList_toArray, ↓upd_same]; try simp only [UP,DF,Nc,↓reduceIte,DT]
  exact ⟨_, _, AV.weak.refl _, AS.le.refl _, rfl, he⟩

set_option maxHeartbeats 400000 in
theorem eyeU32_calls (s0 s : AS) (p : Nat) (st : EyeSt) (h : EyeS s0 s p st) :
    ACalls Tryz.prog Γ 266 [.ptr p 0] s (fun r s' => r = .v (.int .i64 (eyeNum 4 st).1) ∧ EyeS s0 s' p (eyeNum 4 st).2) := by
  refine acalls_body Tryz.func266 rfl Tryz.ntmps266 Tryz.results266 (by simp) ?_
  refine wS fun K hK => ?_
  simp only [↓DN,UP,DF,Qa,Qb,Qc,Qd,Qe,Qf,Qg,Qh,reduceCtorEq,↓reduceIte,Na,Nb,Nc,Nk,Nf,Ng,Nh,Za,Zb,Zc,TT]
  refine hK _ _ ?_;clear hK K
  refine wS fun K hK => ?_
  simp only [↓DN,UP,DF,Qa,Qb,Qc,Qd,Qe,Qf,Qg,Qh,reduceCtorEq,↓reduceIte,Na,Nb,Nc,Nk,Nf,Ng,Nh,Za,Zb,Zc,TT]
  refine acallk (eyeNumber_calls s0 s p st 4 (by omega) h) ?_
  rintro r s' ⟨rfl, he⟩
  simp only [↓AXq_nil,↓AXq_cons,pval,DX,Nat.reduceBEq,↓DN,UP,DF,Qa,Qb,Qc,Qd,Qe,Qf,Qg,Qh,reduceCtorEq,↓reduceIte,Na,Nb,Nc,Nk,Nf,Ng,Nh,Za,Zb,Zc,TT, eyeU_conv 4 (by omega) st]
  refine hK _ _ ?_;clear hK K
  refine awp_ret ?_
  simp only [retQ, AEnds, aresL, ares, List.toList_toArray, ↓upd_same]; try simp only [UP,DF,Nc,↓reduceIte,DT]
  exact ⟨_, _, AV.weak.refl _, AS.le.refl _, rfl, he⟩

set_option maxHeartbeats 400000 in
theorem eyeU64_calls (s0 s : AS) (p : Nat) (st : EyeSt) (h : EyeS s0 s p st) :
    ACalls Tryz.prog Γ 64 [.ptr p 0] s (fun r s' => r = .v (.int .u64 (eyeNum 8 st).1) ∧ EyeS s0 s' p (eyeNum 8 st).2) := by
  refine acalls_body Tryz.func64 rfl Tryz.ntmps64 Tryz.results64 (by simp) ?_
  refine wS fun K hK => ?_
  simp only [↓DN,UP,DF,Qa,Qb,Qc,Qd,Qe,Qf,Qg,Qh,reduceCtorEq,↓reduceIte,Na,Nb,Nc,Nk,Nf,Ng,Nh,Za,Zb,Zc,TT]
  refine hK _ _ ?_;clear hK K
  refine wS fun K hK => ?_
  simp only [↓DN,UP,DF,Qa,Qb,Qc,Qd,Qe,Qf,Qg,Qh,reduceCtorEq,↓reduceIte,Na,Nb,Nc,Nk,Nf,Ng,Nh,Za,Zb,Zc,TT]
  refine acallk (eyeNumber_calls s0 s p st 8 (by omega) h) ?_
  rintro r s' ⟨rfl, he⟩
  simp only [↓AXq_nil,↓AXq_cons,pval,DX,Nat.reduceBEq,↓DN,UP,DF,Qa,Qb,Qc,Qd,Qe,Qf,Qg,Qh,reduceCtorEq,↓reduceIte,Na,Nb,Nc,Nk,Nf,Ng,Nh,Za,Zb,Zc,TT]
  refine hK _ _ ?_;clear hK K
  refine awp_ret ?_
  simp only [retQ, AEnds, aresL, ares, List.toList_toArray, ↓upd_same]; try simp only [UP,DF,Nc,↓reduceIte,DT]
  exact ⟨_, _, AV.weak.refl _, AS.le.refl _, rfl, he⟩

set_option maxHeartbeats 1000000 in
theorem eyeText_calls (s0 s : AS) (p : Nat) (st : EyeSt) (k : Nat) (most : Int) (hk : k ≤ 7) (hl : st.1.length ≤ 2 ^ 45) (h : EyeS s0 s p st) :
    ACalls Tryz.prog Γ 152 [.ptr p 0, .v (.int .i64 k), .v (.int .i64 most)] s (fun r s' => r = bytesV (eyeText k most st).1 .any ∧ EyeS s0 s' p (eyeText k most st).2) := by
  refine acalls_body Tryz.func152 rfl Tryz.ntmps152 Tryz.results152 (by simp) ?_
  have hx := h.obj
  simp only [bytesV] at hx
  refine wS fun K hK => ?_
  simp only [↓DN,UP,DF,Qa,Qb,Qc,Qd,Qe,Qf,Qg,Qh,reduceCtorEq,↓reduceIte,Na,Nb,Nc,Nk,Nf,Ng,Nh,Za,Zb,Zc,TT]
  refine hK _ _ ?_;clear hK K
  refine wS fun K hK => ?_
  simp only [↓DN,UP,DF,Qa,Qb,Qc,Qd,Qe,Qf,Qg,Qh,reduceCtorEq,↓reduceIte,Na,Nb,Nc,Nk,Nf,Ng,Nh,Za,Zb,Zc,TT, hx]
  refine hK _ _ ?_;clear hK K
  refine wS fun K hK => ?_
  simp only [↓DN,UP,DF,Qa,Qb,Qc,Qd,Qe,Qf,Qg,Qh,reduceCtorEq,↓reduceIte,Na,Nb,Nc,Nk,Nf,Ng,Nh,Za,Zb,Zc,TT]
  refine acallk (eyeNumber_calls s0 s p st k (by omega) h) ?_
  rintro r s' ⟨rfl, he⟩
  simp only [↓AXq_nil,↓AXq_cons,pval,DX,Nat.reduceBEq,↓DN,UP,DF,Qa,Qb,Qc,Qd,Qe,Qf,Qg,Qh,reduceCtorEq,↓reduceIte,Na,Nb,Nc,Nk,Nf,Ng,Nh,Za,Zb,Zc,TT, eyeU_conv k hk st]
  refine hK _ _ ?_;clear hK K
  have hlen := eyeNum_len k st
  obtain ⟨q, hq⟩ : ∃ q, eyeNum k st = q := ⟨_, rfl⟩
  rw [hq] at he hlen
  rw [hq]
  obtain ⟨num, l', er⟩ := q
  have hx' := he.obj
  simp only [bytesV] at hx' hlen
  refine wK fun K hK => ?_
  refine awp_block ?_
  by_cases h0 : er = 0
  · subst h0
    refine wS fun K hK => ?_
    simp only [↓DN,UP,DF,Qa,Qb,Qc,Qd,Qe,Qf,Qg,Qh,reduceCtorEq,↓reduceIte,Na,Nb,Nc,Nk,Nf,Ng,Nh,Za,Zb,Zc,TT, hx', i64_ne_false 0 rfl]
    refine hK _ _ ?_;clear hK K
    refine wC fun X Y hX hY => ?_
    simp only [↓DN,UP,DF,Qa,Qb,Qc,Qd,Qe,Qf,Qg,Qh,reduceCtorEq,↓reduceIte,Na,Nb,Nc,Nk,Nf,Ng,Nh,Za,Zb,Zc,TT, DB]
    refine hY ?_;clear hX hY X Y
    by_cases h1 : most < (num : Int)
    · refine wS fun K hK => ?_
      simp only [↓DN,UP,DF,Qa,Qb,Qc,Qd,Qe,Qf,Qg,Qh,reduceCtorEq,↓reduceIte,Na,Nb,Nc,Nk,Nf,Ng,Nh,Za,Zb,Zc,TT, decide_eq_true h1]
      refine hK _ _ ?_;clear hK K
      refine wC fun X Y hX hY => ?_
      simp only [↓DN,UP,DF,Qa,Qb,Qc,Qd,Qe,Qf,Qg,Qh,reduceCtorEq,↓reduceIte,Na,Nb,Nc,Nk,Nf,Ng,Nh,Za,Zb,Zc,TT, DB]
      refine hX ?_;clear hX hY X Y
      refine wS fun K hK => ?_
      simp only [↓DN,UP,DF,Qa,Qb,Qc,Qd,Qe,Qf,Qg,Qh,reduceCtorEq,↓reduceIte,Na,Nb,Nc,Nk,Nf,Ng,Nh,Za,Zb,Zc,TT, hx']
      refine hK _ _ ?_;clear hK K
      refine wS fun K hK => ?_
      simp only [↓DN,UP,DF,Qa,Qb,Qc,Qd,Qe,Qf,Qg,Qh,reduceCtorEq,↓reduceIte,Na,Nb,Nc,Nk,Nf,Ng,Nh,Za,Zb,Zc,TT]
      refine hK _ _ ?_;clear hK K
      refine awp_ret ?_
      simp only [retQ, AEnds, aresL, ares, List.toList_toArray, ↓upd_same]; try simp only [UP,DF,Nc,↓reduceIte,DT]
      have e : eyeText k most st = ([], st.1, 11) := by unfold eyeText; rw [hq]; exact (if_pos rfl).trans (if_pos h1)
      rw [e]
      exact ⟨_, _, AV.weak_nil, AS.le.refl _, rfl, he.put⟩
    · refine wS fun K hK => ?_
      simp only [↓DN,UP,DF,Qa,Qb,Qc,Qd,Qe,Qf,Qg,Qh,reduceCtorEq,↓reduceIte,Na,Nb,Nc,Nk,Nf,Ng,Nh,Za,Zb,Zc,TT, decide_eq_false h1]
      refine hK _ _ ?_;clear hK K
      refine wC fun X Y hX hY => ?_
      simp only [↓DN,UP,DF,Qa,Qb,Qc,Qd,Qe,Qf,Qg,Qh,reduceCtorEq,↓reduceIte,Na,Nb,Nc,Nk,Nf,Ng,Nh,Za,Zb,Zc,TT, DB]
      refine hY ?_;clear hX hY X Y
      by_cases h2 : l'.length < num
      · refine wS fun K hK => ?_
        simp only [↓DN,UP,DF,Qa,Qb,Qc,Qd,Qe,Qf,Qg,Qh,reduceCtorEq,↓reduceIte,Na,Nb,Nc,Nk,Nf,Ng,Nh,Za,Zb,Zc,TT, hx', eye_lt_nat, decide_eq_true h2]
        refine hK _ _ ?_;clear hK K
        refine wC fun X Y hX hY => ?_
        simp only [↓DN,UP,DF,Qa,Qb,Qc,Qd,Qe,Qf,Qg,Qh,reduceCtorEq,↓reduceIte,Na,Nb,Nc,Nk,Nf,Ng,Nh,Za,Zb,Zc,TT, DB]
        refine hX ?_;clear hX hY X Y
        refine wS fun K hK => ?_
        simp only [↓DN,UP,DF,Qa,Qb,Qc,Qd,Qe,Qf,Qg,Qh,reduceCtorEq,↓reduceIte,Na,Nb,Nc,Nk,Nf,Ng,Nh,Za,Zb,Zc,TT, hx']
        refine hK _ _ ?_;clear hK K
        refine wS fun K hK => ?_
        simp only [↓DN,UP,DF,Qa,Qb,Qc,Qd,Qe,Qf,Qg,Qh,reduceCtorEq,↓reduceIte,Na,Nb,Nc,Nk,Nf,Ng,Nh,Za,Zb,Zc,TT]
        refine hK _ _ ?_;clear hK K
        refine awp_ret ?_
        simp only [retQ, AEnds, aresL, ares, List.toList_toArray, ↓upd_same]; try simp only [UP,DF,Nc,↓reduceIte,DT]
        have e : eyeText k most st = ([], st.1, 10) := by unfold eyeText; rw [hq]; exact (if_pos rfl).trans ((if_neg h1).trans (if_pos h2))
        rw [e]
        exact ⟨_, _, AV.weak_nil, AS.le.refl _, rfl, he.put⟩
      · have e : eyeText k most st = eyeNext num (l', 0) := by unfold eyeText; rw [hq]; exact (if_pos rfl).trans ((if_neg h1).trans (if_neg h2))
        refine wS fun K hK => ?_
        simp only [↓DN,UP,DF,Qa,Qb,Qc,Qd,Qe,Qf,Qg,Qh,reduceCtorEq,↓reduceIte,Na,Nb,Nc,Nk,Nf,Ng,Nh,Za,Zb,Zc,TT, hx', eye_lt_nat, decide_eq_false h2]
        refine hK _ _ ?_;clear hK K
        refine wC fun X Y hX hY => ?_
        simp only [↓DN,UP,DF,Qa,Qb,Qc,Qd,Qe,Qf,Qg,Qh,reduceCtorEq,↓reduceIte,Na,Nb,Nc,Nk,Nf,Ng,Nh,Za,Zb,Zc,TT, DB]
        refine hY ?_;clear hX hY X Y
        refine awp_skip ?_
        simp only [thenQ, blockQ, if_true, if_false]
        refine hK _ _ ?_;clear hK K
        refine wS fun K hK => ?_
        simp only [↓DN,UP,DF,Qa,Qb,Qc,Qd,Qe,Qf,Qg,Qh,reduceCtorEq,↓reduceIte,Na,Nb,Nc,Nk,Nf,Ng,Nh,Za,Zb,Zc,TT]
        refine acallk (eyeRaw_calls s0 s' p (l', 0) num (by simp only; omega) he) ?_
        rintro r s'' ⟨rfl, he'⟩
        simp only [↓AXq_nil,↓AXq_cons,pval,DX,Nat.reduceBEq,↓DN,UP,DF,Qa,Qb,Qc,Qd,Qe,Qf,Qg,Qh,reduceCtorEq,↓reduceIte,Na,Nb,Nc,Nk,Nf,Ng,Nh,Za,Zb,Zc,TT]
        refine hK _ _ ?_;clear hK K
        refine awp_ret ?_
        simp only [retQ, AEnds, aresL, ares, List.toList_toArray, ↓upd_same]; try simp only [UP,DF,Nc,↓reduceIte,DT]
        rw [e]
        exact ⟨_, _, AV.weak.refl _, AS.le.refl _, rfl, he'⟩
  · refine wS fun K hK => ?_
    simp only [↓DN,UP,DF,Qa,Qb,Qc,Qd,Qe,Qf,Qg,Qh,reduceCtorEq,↓reduceIte,Na,Nb,Nc,Nk,Nf,Ng,Nh,Za,Zb,Zc,TT, hx', i64_ne_true er h0]
    refine hK _ _ ?_;clear hK K
    refine wC fun X Y hX hY => ?_
    simp only [↓DN,UP,DF,Qa,Qb,Qc,Qd,Qe,Qf,Qg,Qh,reduceCtorEq,↓reduceIte,Na,Nb,Nc,Nk,Nf,Ng,Nh,Za,Zb,Zc,TT, DB]
    refine hX ?_;clear hX hY X Y
    refine wS fun K hK => ?_
    simp only [↓DN,UP,DF,Qa,Qb,Qc,Qd,Qe,Qf,Qg,Qh,reduceCtorEq,↓reduceIte,Na,Nb,Nc,Nk,Nf,Ng,Nh,Za,Zb,Zc,TT]
    refine hK _ _ ?_;clear hK K
    refine awp_ret ?_
    simp only [retQ, AEnds, aresL, ares, List.toList_toArray, ↓upd_same]; try simp only [UP,DF,Nc,↓reduceIte,DT]
    have e : eyeText k most st = ([], l', er) := by unfold eyeText; rw [hq]; exact if_neg h0
    rw [e]
    exact ⟨_, _, AV.weak_nil, AS.le.refl _, rfl, he⟩

set_option maxHeartbeats 400000 in
theorem eyeShort_calls (s0 s : AS) (p : Nat) (st : EyeSt) (most : Int) (hl : st.1.length ≤ 2 ^ 45) (h : EyeS s0 s p st) :
    ACalls Tryz.prog Γ 63 [.ptr p 0, .v (.int .i64 most)] s (fun r s' => r = bytesV (eyeText 1 most st).1 .any ∧ EyeS s0 s' p (eyeText 1 most st).2) := by
  refine acalls_body Tryz.func63 rfl Tryz.ntmps63 Tryz.results63 (by simp) ?_
  refine wS fun K hK => ?_
  simp only [↓DN,UP,DF,Qa,Qb,Qc,Qd,Qe,Qf,Qg,Qh,reduceCtorEq,↓reduceIte,Na,Nb,Nc,Nk,Nf,Ng,Nh,Za,Zb,Zc,TT]
  refine hK _ _ ?_;clear hK K
  refine wS fun K hK => ?_
  simp only [↓DN,UP,DF,Qa,Qb,Qc,Qd,Qe,Qf,Qg,Qh,reduceCtorEq,↓reduceIte,Na,Nb,Nc,Nk,Nf,Ng,Nh,Za,Zb,Zc,TT]
  refine acallk (eyeText_calls s0 s p st 1 most (by omega) hl h) ?_
  rintro r s' ⟨rfl, he⟩
  simp only [↓AXq_nil,↓AXq_cons,pval,DX,Nat.reduceBEq,↓DN,UP,DF,Qa,Qb,Qc,Qd,Qe,Qf,Qg,Qh,reduceCtorEq,↓reduceIte,Na,Nb,Nc,Nk,Nf,Ng,Nh,Za,Zb,Zc,TT]
  refine hK _ _ ?_;clear hK K
  refine awp_ret ?_
  simp only [retQ, AEnds, aresL, ares, List.toList_toArray, ↓upd_same]; try simp only [UP,DF,Nc,↓reduceIte,DT]
  exact ⟨_, _, AV.weak.refl _, AS.le.refl _, rfl, he⟩

set_option maxHeartbeats 400000 in
theorem eyeLong_calls (s0 s : AS) (p : Nat) (st : EyeSt) (most : Int) (hl : st.1.length ≤ 2 ^ 45) (h : EyeS s0 s p st) :
    ACalls Tryz.prog Γ 173 [.ptr p 0, .v (.int .i64 most)] s (fun r s' => r = bytesV (eyeText 2 most st).1 .any ∧ EyeS s0 s' p (eyeText 2 most st).2) := by
  refine acalls_body Tryz.func173 rfl Tryz.ntmps173 Tryz.results173 (by simp) ?_
  refine wS fun K hK => ?_
  simp only [↓DN,UP,DF,Qa,Qb,Qc,Qd,Qe,Qf,Qg,Qh,reduceCtorEq,↓reduceIte,Na,Nb,Nc,Nk,Nf,Ng,Nh,Za,Zb,Zc,TT]
  refine hK _ _ ?_;clear hK K
  refine wS fun K hK => ?_
  simp only [↓DN,UP,DF,Qa,Qb,Qc,Qd,Qe,Qf,Qg,Qh,reduceCtorEq,↓reduceIte,Na,Nb,Nc,Nk,Nf,Ng,Nh,Za,Zb,Zc,TT]
  refine acallk (eyeText_calls s0 s p st 2 most (by omega) hl h) ?_
  rintro r s' ⟨rfl, he⟩
  simp only [↓AXq_nil,↓AXq_cons,pval,DX,Nat.reduceBEq,↓DN,UP,DF,Qa,Qb,Qc,Qd,Qe,Qf,Qg,Qh,reduceCtorEq,↓reduceIte,Na,Nb,Nc,Nk,Nf,Ng,Nh,Za,Zb,Zc,TT]
  refine hK _ _ ?_;clear hK K
  refine awp_ret ?_
  simp only [retQ, AEnds, aresL, ares, List.toList_toArray, ↓upd_same]; try simp only [UP,DF,Nc,↓reduceIte,DT]
  exact ⟨_, _, AV.weak.refl _, AS.le.refl _, rfl, he⟩

set_option maxHeartbeats 400000 in
theorem eyeEnd_calls (s0 s : AS) (p : Nat) (st : EyeSt) (h : EyeS s0 s p st) :
    ACalls Tryz.prog Γ 66 [.ptr p 0] s (fun r s' => r = .v (.int .i64 (eyeEnd st)) ∧ s' = s) := by
  refine acalls_body Tryz.func66 rfl Tryz.ntmps66 Tryz.results66 (by simp) ?_
  have hx := h.obj
  obtain ⟨l, er⟩ := st
  simp only [bytesV] at hx
  refine wS fun K hK => ?_
  simp only [↓DN,UP,DF,Qa,Qb,Qc,Qd,Qe,Qf,Qg,Qh,reduceCtorEq,↓reduceIte,Na,Nb,Nc,Nk,Nf,Ng,Nh,Za,Zb,Zc,TT]
  refine hK _ _ ?_;clear hK K
  refine wK fun K hK => ?_
  have hgo : ∀ E1 : Env, E1 0 = .ptr p 0 → eyeEnd (l, er) = er → K E1 s := by
    intro E1 e0 e
    refine hK _ _ ?_;clear hK K
    refine wS fun K hK => ?_
    simp only [↓DN,UP,DF,Qa,Qb,Qc,Qd,Qe,Qf,Qg,Qh,reduceCtorEq,↓reduceIte,Na,Nb,Nc,Nk,Nf,Ng,Nh,Za,Zb,Zc,TT, e0, hx]
    refine hK _ _ ?_;clear hK K
    refine awp_ret ?_
    simp only [retQ, AEnds, aresL, ares, List.toList_toArray, ↓upd_same]; try simp only [UP,DF,Nc,↓reduceIte,DT]
    exact ⟨_, _, AV.weak.refl _, AS.le.refl _, by rw [e], rfl⟩
  clear hK
  by_cases h0 : er = 0
  · by_cases h1 : 0 < l.length
    · refine wS fun K hK => ?_
      simp only [↓DN,UP,DF,Qa,Qb,Qc,Qd,Qe,Qf,Qg,Qh,reduceCtorEq,↓reduceIte,Na,Nb,Nc,Nk,Nf,Ng,Nh,Za,Zb,Zc,TT, hx, i64_eq_true er h0, decide_eq_true (show (0 : Int) < (l.length : Int) by omega)]
      refine hK _ _ ?_;clear hK K
      refine wC fun X Y hX hY => ?_
      simp only [↓DN,UP,DF,Qa,Qb,Qc,Qd,Qe,Qf,Qg,Qh,reduceCtorEq,↓reduceIte,Na,Nb,Nc,Nk,Nf,Ng,Nh,Za,Zb,Zc,TT, DB]
      refine hX ?_;clear hX hY X Y
      refine wS fun K hK => ?_
      simp only [↓DN,UP,DF,Qa,Qb,Qc,Qd,Qe,Qf,Qg,Qh,reduceCtorEq,↓reduceIte,Na,Nb,Nc,Nk,Nf,Ng,Nh,Za,Zb,Zc,TT]
      refine hK _ _ ?_;clear hK K
      refine awp_ret ?_
      simp only [retQ, AEnds, aresL, ares, List.toList_toArray, ↓upd_same]; try simp only [UP,DF,Nc,↓reduceIte,DT]
      exact ⟨_, _, AV.weak.refl _, AS.le.refl _, by simp [eyeEnd, h0, h1, atuple], rfl⟩
    · refine wS fun K hK => ?_
      simp only [↓DN,UP,DF,Qa,Qb,Qc,Qd,Qe,Qf,Qg,Qh,reduceCtorEq,↓reduceIte,Na,Nb,Nc,Nk,Nf,Ng,Nh,Za,Zb,Zc,TT, hx, i64_eq_true er h0, decide_eq_false (show ¬ (0 : Int) < (l.length : Int) by omega)]
      refine hK _ _ ?_;clear hK K
      refine wC fun X Y hX hY => ?_
      simp only [↓DN,UP,DF,Qa,Qb,Qc,Qd,Qe,Qf,Qg,Qh,reduceCtorEq,↓reduceIte,Na,Nb,Nc,Nk,Nf,Ng,Nh,Za,Zb,Zc,TT, DB]
      refine hY ?_;clear hX hY X Y
      refine awp_skip ?_
      exact hgo _ (by simp only [upd, initE, List.getD_cons_zero, Nc, ↓reduceIte]) (by simp [eyeEnd, h1])
  · refine wS fun K hK => ?_
    simp only [↓DN,UP,DF,Qa,Qb,Qc,Qd,Qe,Qf,Qg,Qh,reduceCtorEq,↓reduceIte,Na,Nb,Nc,Nk,Nf,Ng,Nh,Za,Zb,Zc,TT, hx, i64_eq_false er h0]
    refine hK _ _ ?_;clear hK K
    refine wC fun X Y hX hY => ?_
    simp only [↓DN,UP,DF,Qa,Qb,Qc,Qd,Qe,Qf,Qg,Qh,reduceCtorEq,↓reduceIte,Na,Nb,Nc,Nk,Nf,Ng,Nh,Za,Zb,Zc,TT, DB]
    refine hY ?_;clear hX hY X Y
    refine awp_skip ?_
    exact hgo _ (by simp only [upd, initE, List.getD_cons_zero, Nc, ↓reduceIte]) (by simp [eyeEnd, h0])

end Go.Proofs.YtoagkleecgngdaaGreatDoor


set_option autoImplicit false
namespace Go.Proofs.YtoagkleecgngdaaGreatDoor
open Go Go.AM Go.Proofs


variable {Γ : Nat → List AV}

theorem n256 : ((256 : Int) = 0) = False := by simp
theorem num_byte (q : Nat) : iconv .u8 (irem (q : Int) 256) = ((UInt8.ofNat q).toNat : Int) := by
  rw [show (256 : Int) = ((256 : Nat) : Int) from rfl, irem_u, iconv_u rfl]
  simp [IntKind.bits]
theorem num_quo (n i : Nat) (h : n < 2 ^ 64) : iquo .u64 ((n / 256 ^ i : Nat) : Int) 256 = ((n / 256 ^ (i + 1) : Nat) : Int) := by
  have hq : n / 256 ^ i < 2 ^ IntKind.u64.bits := Nat.lt_of_le_of_lt (Nat.div_le_self _ _) h
  have := iquo_u (k := .u64) rfl (n / 256 ^ i) 256 hq
  rw [show (256 : Int) = ((256 : Nat) : Int) from rfl, this, Nat.div_div_eq_div_mul, Nat.pow_succ]
theorem byte_one (c : UInt8) : toBytes [AV.v (.int .u8 (c.toNat : Int))] = ByteArray.mk [c].toArray := toBytes_map [c]
theorem byte_is (c : UInt8) : isByte (AV.v (.int .u8 (c.toNat : Int))) = true := rfl

set_option maxHeartbeats 1000000 in
theorem refNumber_calls (n size : Nat) (hn : n < 2 ^ 64) (hs : size ≤ 8) (s : AS) :
    ACalls Tryz.prog Γ 144 [.v (.int .u64 n), .v (.int .i64 size)] s (fun r s' => r = .v (.string ⟨(be size n).toArray⟩) ∧ s' = s) := by
  refine acalls_body Tryz.func144 rfl Tryz.ntmps144 Tryz.results144 (by simp) ?_
  refine wS fun K hK => ?_
  simp only [↓DN,UP,DF,Qa,Qb,Qc,Qd,Qe,Qf,Qg,Qh,reduceCtorEq,↓reduceIte,Na,Nb,Nc,Nk,Nf,Ng,Nh,Za,Zb,Zc,TT]
  refine hK _ _ ?_;clear hK K
  refine wS fun K hK => ?_
  simp only [↓DN,UP,DF,Qa,Qb,Qc,Qd,Qe,Qf,Qg,Qh,reduceCtorEq,↓reduceIte,Na,Nb,Nc,Nk,Nf,Ng,Nh,Za,Zb,Zc,TT]
  refine hK _ _ ?_;clear hK K
  refine wK fun K hK => ?_
  refine wS fun K hK => ?_
  simp only [↓DN,UP,DF,Qa,Qb,Qc,Qd,Qe,Qf,Qg,Qh,reduceCtorEq,↓reduceIte,Na,Nb,Nc,Nk,Nf,Ng,Nh,Za,Zb,Zc,TT]
  refine hK _ _ ?_;clear hK K
  refine awp_block ?_
  refine awp_loop (fun E s1 => ∃ i : Nat, i ≤ size ∧ E 6 = .v (.int .i64 i) ∧ E 1 = .v (.int .i64 size) ∧ E 0 = .v (.int .u64 (n / 256 ^ i : Nat)) ∧ E 5 = .v (.string ⟨(be i n).toArray⟩) ∧ s1 = s)
    (fun E _ => match E 6 with | .v (.int _ i) => size - i.toNat | _ => 0) ?_ ?_
  · exact ⟨0, Nat.zero_le _, by simp [upd], by simp [upd, initE], by simp [upd, initE], by simp [upd, be], rfl⟩
  · rintro E1 s1 ⟨i, hi, h6, h1, h0, h5, rfl⟩ -
    refine wK fun K2 hK2 => ?_
    by_cases hi' : i < size
    · refine wS fun K hK => ?_
      simp only [↓DN,UP,DF,Qa,Qb,Qc,Qd,Qe,Qf,Qg,Qh,reduceCtorEq,↓reduceIte,Na,Nb,Nc,Nk,Nf,Ng,Nh,Za,Zb,Zc,TT, h6, h1, eye_lt_nat, decide_eq_true hi']
      refine hK _ _ ?_;clear hK K
      refine wC fun X Y hX hY => ?_
      simp only [↓DN,UP,DF,Qa,Qb,Qc,Qd,Qe,Qf,Qg,Qh,reduceCtorEq,↓reduceIte,Na,Nb,Nc,Nk,Nf,Ng,Nh,Za,Zb,Zc,TT, DB]
      refine hX ?_;clear hX hY X Y
      refine awp_skip ?_
      refine hK2 _ _ ?_;clear hK2 K2
      refine wK fun K3 hK3 => ?_
      refine awp_block ?_
      refine wS fun K hK => ?_
      simp only [↓DN,UP,DF,Qa,Qb,Qc,Qd,Qe,Qf,Qg,Qh,reduceCtorEq,↓reduceIte,Na,Nb,Nc,Nk,Nf,Ng,Nh,Za,Zb,Zc,TT, h0, h5, n256, num_byte, byte_one, byte_is, List.replicate_succ, bs_size, bs_append, length_be, i64_room (show 1 + i < 2 ^ 62 by omega)]
      refine hK _ _ ?_;clear hK K
      refine wE fun K hK => ?_
      simp only [↓DN,UP,DF,Qa,Qb,Qc,Qd,Qe,Qf,Qg,Qh,reduceCtorEq,↓reduceIte,Na,Nb,Nc,Nk,Nf,Ng,Nh,Za,Zb,Zc,TT, h0, n256, num_quo n i hn]
      refine hK _ _ ?_;clear hK K
      simp only [blockQ, thenQ, if_true, if_false]
      refine hK3 _ _ ?_;clear hK3 K3
      refine wE fun K hK => ?_
      simp only [↓DN,UP,DF,Qa,Qb,Qc,Qd,Qe,Qf,Qg,Qh,reduceCtorEq,↓reduceIte,Na,Nb,Nc,Nk,Nf,Ng,Nh,Za,Zb,Zc,TT, h6, eye_succ i (by omega)]
      refine hK _ _ ?_;clear hK K
      refine ⟨⟨i + 1, by omega, by simp only [upd, ↓reduceIte], by simp only [upd, h1, Nc, ↓reduceIte], by simp only [upd, Nc, ↓reduceIte], ?_, rfl⟩, ?_⟩
      · simp only [upd, Nc, ↓reduceIte, be, show 2 ^ (8 * i) = 256 ^ i from by rw [Nat.pow_mul]]
      · simp only [h6, upd, ↓reduceIte]
        omega
    · refine wS fun K hK => ?_
      simp only [↓DN,UP,DF,Qa,Qb,Qc,Qd,Qe,Qf,Qg,Qh,reduceCtorEq,↓reduceIte,Na,Nb,Nc,Nk,Nf,Ng,Nh,Za,Zb,Zc,TT, h6, h1, eye_lt_nat, decide_eq_false hi']
      refine hK _ _ ?_;clear hK K
      refine wC fun X Y hX hY => ?_
      simp only [↓DN,UP,DF,Qa,Qb,Qc,Qd,Qe,Qf,Qg,Qh,reduceCtorEq,↓reduceIte,Na,Nb,Nc,Nk,Nf,Ng,Nh,Za,Zb,Zc,TT, DB]
      refine hY ?_;clear hX hY X Y
      refine awp_exit ?_
      simp only [thenQ, blockQ, if_true]
      refine hK _ _ ?_;clear hK hK2 K K2
      refine wS fun K hK => ?_
      simp only [↓DN,UP,DF,Qa,Qb,Qc,Qd,Qe,Qf,Qg,Qh,reduceCtorEq,↓reduceIte,Na,Nb,Nc,Nk,Nf,Ng,Nh,Za,Zb,Zc,TT, h5]
      refine hK _ _ ?_;clear hK K
      refine awp_ret ?_
      simp only [retQ, AEnds, aresL, ares, List.toList_toArray, ↓upd_same]; try simp only [UP,DF,Nc,↓reduceIte,DT]
      obtain rfl : i = size := by omega
      exact ⟨_, _, AV.weak.refl _, AS.le.refl _, rfl, rfl⟩

theorem u64_len (n : Nat) (h : n < 2 ^ 63) : iconv .u64 (n : Int) = n := iconv_u64_nat n (by omega)

set_option maxHeartbeats 400000 in
theorem refText_calls (l : List UInt8) (size : Nat) (hl : l.length < 2 ^ 61) (hs : size ≤ 8) (s : AS) :
    ACalls Tryz.prog Γ 85 [.v (.string ⟨l.toArray⟩), .v (.int .i64 size)] s (fun r s' => r = .v (.string ⟨(be size l.length ++ l).toArray⟩) ∧ s' = s) := by
  refine acalls_body Tryz.func85 rfl Tryz.ntmps85 Tryz.results85 (by simp) ?_
  refine wS fun K hK => ?_
  simp only [↓DN,UP,DF,Qa,Qb,Qc,Qd,Qe,Qf,Qg,Qh,reduceCtorEq,↓reduceIte,Na,Nb,Nc,Nk,Nf,Ng,Nh,Za,Zb,Zc,TT]
  refine hK _ _ ?_;clear hK K
  refine wS fun K hK => ?_
  simp only [↓DN,UP,DF,Qa,Qb,Qc,Qd,Qe,Qf,Qg,Qh,reduceCtorEq,↓reduceIte,Na,Nb,Nc,Nk,Nf,Ng,Nh,Za,Zb,Zc,TT, bs_size, u64_len l.length (by omega)]
  refine acallk (refNumber_calls l.length size (by omega) hs s) ?_
  rintro r s' ⟨rfl, rfl⟩
  simp only [↓AXq_nil,↓AXq_cons,pval,DX,Nat.reduceBEq,↓DN,UP,DF,Qa,Qb,Qc,Qd,Qe,Qf,Qg,Qh,reduceCtorEq,↓reduceIte,Na,Nb,Nc,Nk,Nf,Ng,Nh,Za,Zb,Zc,TT, bs_size, bs_append, length_be, i64_room (show size + l.length < 2 ^ 62 by omega)]
  refine hK _ _ ?_;clear hK K
  refine awp_ret ?_
  simp only [retQ, AEnds, aresL, ares, List.toList_toArray, ↓upd_same]; try simp only [UP,DF,Nc,↓reduceIte,DT]
  exact ⟨_, _, AV.weak.refl _, AS.le.refl _, rfl, rfl⟩

theorem val_step (y : Nat) (c : UInt8) (h : y < 2 ^ 56) : iadd .u64 (imul .u64 (y : Int) 256) (iconv .u64 (c.toNat : Int)) = ((y * 256 + c.toNat : Nat) : Int) := by
  have hc := c.toNat_lt
  rw [iconv_u64_nat _ (by omega), show (256 : Int) = ((256 : Nat) : Int) from rfl, imul_u rfl, Nat.mod_eq_of_lt (by simp only [IntKind.bits]; omega), iadd_u rfl, Nat.mod_eq_of_lt (by simp only [IntKind.bits]; omega)]

set_option maxHeartbeats 1000000 in
theorem value_calls (l : List UInt8) (hl : l.length ≤ 8) (s : AS) :
    ACalls Tryz.prog Γ 160 [.v (.string ⟨l.toArray⟩)] s (fun r s' => r = .v (.int .u64 (beNat l)) ∧ s' = s) := by
  refine acalls_body Tryz.func160 rfl Tryz.ntmps160 Tryz.results160 (by simp) ?_
  refine wS fun K hK => ?_
  simp only [↓DN,UP,DF,Qa,Qb,Qc,Qd,Qe,Qf,Qg,Qh,reduceCtorEq,↓reduceIte,Na,Nb,Nc,Nk,Nf,Ng,Nh,Za,Zb,Zc,TT]
  refine hK _ _ ?_;clear hK K
  refine wS fun K hK => ?_
  simp only [↓DN,UP,DF,Qa,Qb,Qc,Qd,Qe,Qf,Qg,Qh,reduceCtorEq,↓reduceIte,Na,Nb,Nc,Nk,Nf,Ng,Nh,Za,Zb,Zc,TT]
  refine hK _ _ ?_;clear hK K
  refine wK fun K hK => ?_
  refine wS fun K hK => ?_
  simp only [↓DN,UP,DF,Qa,Qb,Qc,Qd,Qe,Qf,Qg,Qh,reduceCtorEq,↓reduceIte,Na,Nb,Nc,Nk,Nf,Ng,Nh,Za,Zb,Zc,TT]
  refine hK _ _ ?_;clear hK K
  refine awp_block ?_
  refine awp_loop (fun E s1 => ∃ i x : Nat, i ≤ l.length ∧ E 0 = .v (.string ⟨l.toArray⟩) ∧ E 4 = .v (.int .i64 i) ∧ E 3 = .v (.int .u64 x) ∧ x = beNat (l.take i) ∧ s1 = s)
    (fun E _ => match E 4 with | .v (.int _ i) => l.length - i.toNat | _ => 0) ?_ ?_
  · exact ⟨0, 0, Nat.zero_le _, by simp [upd, initE], by simp [upd], by simp [upd], by simp [beNat], rfl⟩
  · rintro E1 s1 ⟨i, x, hi, h0, h4, h3, hx, rfl⟩ -
    refine wK fun K2 hK2 => ?_
    by_cases hi' : i < l.length
    · have hx2 : beNat (l.take (i + 1)) = x * 256 + l[i].toNat := by rw [List.take_succ_eq_append_getElem hi', beNat_snoc, ← hx]
      have hx7 : x < 2 ^ 56 := by
        rw [hx]
        refine Nat.lt_of_lt_of_le (beNat_take_lt l i) ?_
        rw [show (2 : Nat) ^ 56 = 256 ^ 7 from by decide]
        exact Nat.pow_le_pow_right (by decide) (by omega)
      have hgi : (0 : Int) ≤ (i : Int) := by omega
      have hget := bs_get l i hi'
      generalize hcc : l[i] = c at *
      refine wS fun K hK => ?_
      simp only [↓DN,UP,DF,Qa,Qb,Qc,Qd,Qe,Qf,Qg,Qh,reduceCtorEq,↓reduceIte,Na,Nb,Nc,Nk,Nf,Ng,Nh,Za,Zb,Zc,TT, h0, h4, bs_size, eye_lt_nat, decide_eq_true hi']
      refine hK _ _ ?_;clear hK K
      refine wC fun X Y hX hY => ?_
      simp only [↓DN,UP,DF,Qa,Qb,Qc,Qd,Qe,Qf,Qg,Qh,reduceCtorEq,↓reduceIte,Na,Nb,Nc,Nk,Nf,Ng,Nh,Za,Zb,Zc,TT, DB]
      refine hX ?_;clear hX hY X Y
      refine awp_skip ?_
      refine hK2 _ _ ?_;clear hK2 K2
      refine wK fun K3 hK3 => ?_
      refine awp_block ?_
      refine wE fun K hK => ?_
      simp only [↓DN,UP,DF,Qa,Qb,Qc,Qd,Qe,Qf,Qg,Qh,reduceCtorEq,↓reduceIte,Na,Nb,Nc,Nk,Nf,Ng,Nh,Za,Zb,Zc,TT, h0, h4, h3, hgi, hget, byteV, val_step x c hx7]
      refine hK _ _ ?_;clear hK K
      simp only [blockQ, thenQ, if_true, if_false]
      refine hK3 _ _ ?_;clear hK3 K3
      refine wE fun K hK => ?_
      simp only [↓DN,UP,DF,Qa,Qb,Qc,Qd,Qe,Qf,Qg,Qh,reduceCtorEq,↓reduceIte,Na,Nb,Nc,Nk,Nf,Ng,Nh,Za,Zb,Zc,TT, h4, eye_succ i (by omega)]
      refine hK _ _ ?_;clear hK K
      refine ⟨⟨i + 1, _, by omega, by simp only [upd, h0, Nc, ↓reduceIte], by simp only [upd, ↓reduceIte], by simp only [upd, Nc, ↓reduceIte], hx2.symm, rfl⟩, ?_⟩
      simp only [h4, upd, ↓reduceIte]
      omega
    · refine wS fun K hK => ?_
      simp only [↓DN,UP,DF,Qa,Qb,Qc,Qd,Qe,Qf,Qg,Qh,reduceCtorEq,↓reduceIte,Na,Nb,Nc,Nk,Nf,Ng,Nh,Za,Zb,Zc,TT, h0, h4, bs_size, eye_lt_nat, decide_eq_false hi']
      refine hK _ _ ?_;clear hK K
      refine wC fun X Y hX hY => ?_
      simp only [↓DN,UP,DF,Qa,Qb,Qc,Qd,Qe,Qf,Qg,Qh,reduceCtorEq,↓reduceIte,Na,Nb,Nc,Nk,Nf,Ng,Nh,Za,Zb,Zc,TT, DB]
      refine hY ?_;clear hX hY X Y
      refine awp_exit ?_
      simp only [thenQ, blockQ, if_true]
      refine hK _ _ ?_;clear hK hK2 K K2
      refine wS fun K hK => ?_
      simp only [↓DN,UP,DF,Qa,Qb,Qc,Qd,Qe,Qf,Qg,Qh,reduceCtorEq,↓reduceIte,Na,Nb,Nc,Nk,Nf,Ng,Nh,Za,Zb,Zc,TT, h3]
      refine hK _ _ ?_;clear hK K
      refine awp_ret ?_
      simp only [retQ, AEnds, aresL, ares, List.toList_toArray, ↓upd_same]; try simp only [UP,DF,Nc,↓reduceIte,DT]
      refine ⟨_, _, AV.weak.refl _, AS.le.refl _, ?_, rfl⟩
      rw [hx, List.take_of_length_le (by omega)]

end Go.Proofs.YtoagkleecgngdaaGreatDoor


set_option autoImplicit false
namespace Go.Proofs.YtoagkleecgngdaaGreatDoor
open Go Go.AM Go.Proofs


variable {Γ : Nat → List AV}



set_option maxHeartbeats 1000000 in
theorem reyeNumber_calls (s0 s : AS) (p : Nat) (st : EyeSt) (size : Nat) (hs : size ≤ 8) (hl : st.1.length < 2 ^ 61) (h : REyeS s0 s p st) :
    ACalls Tryz.prog Γ 68 [.ptr p 0, .v (.int .i64 size)] s (fun r s' => r = .v (.int .u64 (eyeNum size st).1) ∧ REyeS s0 s' p (eyeNum size st).2) := by
  refine acalls_body Tryz.func68 rfl Tryz.ntmps68 Tryz.results68 (by simp) ?_
  have hx := h.obj
  obtain ⟨l, er⟩ := st
  simp only at hx hl
  refine wS fun K hK => ?_
  simp only [↓DN,UP,DF,Qa,Qb,Qc,Qd,Qe,Qf,Qg,Qh,reduceCtorEq,↓reduceIte,Na,Nb,Nc,Nk,Nf,Ng,Nh,Za,Zb,Zc,TT]
  refine hK _ _ ?_;clear hK K
  refine wK fun K hK => ?_
  by_cases h0 : er = 0
  · subst h0
    refine wS fun K hK => ?_
    simp only [↓DN,UP,DF,Qa,Qb,Qc,Qd,Qe,Qf,Qg,Qh,reduceCtorEq,↓reduceIte,Na,Nb,Nc,Nk,Nf,Ng,Nh,Za,Zb,Zc,TT, hx, i64_ne_false 0 rfl]
    refine hK _ _ ?_;clear hK K
    refine wC fun X Y hX hY => ?_
    simp only [↓DN,UP,DF,Qa,Qb,Qc,Qd,Qe,Qf,Qg,Qh,reduceCtorEq,↓reduceIte,Na,Nb,Nc,Nk,Nf,Ng,Nh,Za,Zb,Zc,TT, DB]
    refine hY ?_;clear hX hY X Y
    refine awp_skip ?_
    refine hK _ _ ?_;clear hK K
    refine wK fun K hK => ?_
    by_cases h1 : l.length < size
    · refine wS fun K hK => ?_
      simp only [↓DN,UP,DF,Qa,Qb,Qc,Qd,Qe,Qf,Qg,Qh,reduceCtorEq,↓reduceIte,Na,Nb,Nc,Nk,Nf,Ng,Nh,Za,Zb,Zc,TT, hx, bs_size, eye_lt_nat, decide_eq_true h1]
      refine hK _ _ ?_;clear hK K
      refine wC fun X Y hX hY => ?_
      simp only [↓DN,UP,DF,Qa,Qb,Qc,Qd,Qe,Qf,Qg,Qh,reduceCtorEq,↓reduceIte,Na,Nb,Nc,Nk,Nf,Ng,Nh,Za,Zb,Zc,TT, DB]
      refine hX ?_;clear hX hY X Y
      refine wS fun K hK => ?_
      simp only [↓DN,UP,DF,Qa,Qb,Qc,Qd,Qe,Qf,Qg,Qh,reduceCtorEq,↓reduceIte,Na,Nb,Nc,Nk,Nf,Ng,Nh,Za,Zb,Zc,TT, hx]
      refine hK _ _ ?_;clear hK K
      refine wS fun K hK => ?_
      simp only [↓DN,UP,DF,Qa,Qb,Qc,Qd,Qe,Qf,Qg,Qh,reduceCtorEq,↓reduceIte,Na,Nb,Nc,Nk,Nf,Ng,Nh,Za,Zb,Zc,TT]
      refine hK _ _ ?_;clear hK K
      refine awp_ret ?_
      simp only [retQ, AEnds, aresL, ares, List.toList_toArray, ↓upd_same]; try simp only [UP,DF,Nc,↓reduceIte,DT]
      rw [eyeNum_short h1]
      exact ⟨_, _, AV.weak.refl _, AS.le.refl _, rfl, h.put⟩
    · have h1' : size ≤ l.length := by omega
      have hle : (size : Int) ≤ (l.length : Int) := by omega
      have hge : (0 : Int) ≤ (size : Int) := by omega
      refine wS fun K hK => ?_
      simp only [↓DN,UP,DF,Qa,Qb,Qc,Qd,Qe,Qf,Qg,Qh,reduceCtorEq,↓reduceIte,Na,Nb,Nc,Nk,Nf,Ng,Nh,Za,Zb,Zc,TT, hx, bs_size, eye_lt_nat, decide_eq_false h1]
      refine hK _ _ ?_;clear hK K
      refine wC fun X Y hX hY => ?_
      simp only [↓DN,UP,DF,Qa,Qb,Qc,Qd,Qe,Qf,Qg,Qh,reduceCtorEq,↓reduceIte,Na,Nb,Nc,Nk,Nf,Ng,Nh,Za,Zb,Zc,TT, DB]
      refine hY ?_;clear hX hY X Y
      refine awp_skip ?_
      refine hK _ _ ?_;clear hK K
      refine wS fun K hK => ?_
      simp only [↓DN,UP,DF,Qa,Qb,Qc,Qd,Qe,Qf,Qg,Qh,reduceCtorEq,↓reduceIte,Na,Nb,Nc,Nk,Nf,Ng,Nh,Za,Zb,Zc,TT, hx, bs_size, bs_extract, hle, hge]
      refine acallk (value_calls (l.take size) (by rw [List.length_take]; omega) s) ?_
      rintro r s' ⟨rfl, rfl⟩
      simp only [↓AXq_nil,↓AXq_cons,pval,DX,Nat.reduceBEq,↓DN,UP,DF,Qa,Qb,Qc,Qd,Qe,Qf,Qg,Qh,reduceCtorEq,↓reduceIte,Na,Nb,Nc,Nk,Nf,Ng,Nh,Za,Zb,Zc,TT]
      refine hK _ _ ?_;clear hK K
      refine wS fun K hK => ?_
      simp only [↓DN,UP,DF,Qa,Qb,Qc,Qd,Qe,Qf,Qg,Qh,reduceCtorEq,↓reduceIte,Na,Nb,Nc,Nk,Nf,Ng,Nh,Za,Zb,Zc,TT, hx, bs_size, bs_extract, hle, hge, Int.le_refl]
      refine hK _ _ ?_;clear hK K
      refine wS fun K hK => ?_
      simp only [↓DN,UP,DF,Qa,Qb,Qc,Qd,Qe,Qf,Qg,Qh,reduceCtorEq,↓reduceIte,Na,Nb,Nc,Nk,Nf,Ng,Nh,Za,Zb,Zc,TT]
      refine hK _ _ ?_;clear hK K
      refine awp_ret ?_
      simp only [retQ, AEnds, aresL, ares, List.toList_toArray, ↓upd_same]; try simp only [UP,DF,Nc,↓reduceIte,DT]
      rw [eyeNum_ok h1']
      refine ⟨_, _, AV.weak.refl _, AS.le.refl _, rfl, h.put' ?_⟩
      rw [List.take_length]
  · refine wS fun K hK => ?_
    simp only [↓DN,UP,DF,Qa,Qb,Qc,Qd,Qe,Qf,Qg,Qh,reduceCtorEq,↓reduceIte,Na,Nb,Nc,Nk,Nf,Ng,Nh,Za,Zb,Zc,TT, hx, i64_ne_true er h0]
    refine hK _ _ ?_;clear hK K
    refine wC fun X Y hX hY => ?_
    simp only [↓DN,UP,DF,Qa,Qb,Qc,Qd,Qe,Qf,Qg,Qh,reduceCtorEq,↓reduceIte,Na,Nb,Nc,Nk,Nf,Ng,Nh,Za,Zb,Zc,TT, DB]
    refine hX ?_;clear hX hY X Y
    refine wS fun K hK => ?_
    simp only [↓DN,UP,DF,Qa,Qb,Qc,Qd,Qe,Qf,Qg,Qh,reduceCtorEq,↓reduceIte,Na,Nb,Nc,Nk,Nf,Ng,Nh,Za,Zb,Zc,TT]
    refine hK _ _ ?_;clear hK K
    refine awp_ret ?_
    simp only [retQ, AEnds, aresL, ares, List.toList_toArray, ↓upd_same]; try simp only [UP,DF,Nc,↓reduceIte,DT]
    rw [eyeNum_err h0]
    exact ⟨_, _, AV.weak.refl _, AS.le.refl _, rfl, h⟩

set_option maxHeartbeats 1000000 in
theorem reyeText_calls (s0 s : AS) (p : Nat) (st : EyeSt) (size : Nat) (most : Int) (hs : size ≤ 7) (hl : st.1.length < 2 ^ 61) (h : REyeS s0 s p st) :
    ACalls Tryz.prog Γ 67 [.ptr p 0, .v (.int .i64 size), .v (.int .i64 most)] s (fun r s' => r = .v (.string ⟨(eyeText size most st).1.toArray⟩) ∧ REyeS s0 s' p (eyeText size most st).2) := by
  refine acalls_body Tryz.func67 rfl Tryz.ntmps67 Tryz.results67 (by simp) ?_
  have hx := h.obj
  obtain ⟨l, er⟩ := st
  simp only at hx hl
  refine wS fun K hK => ?_
  simp only [↓DN,UP,DF,Qa,Qb,Qc,Qd,Qe,Qf,Qg,Qh,reduceCtorEq,↓reduceIte,Na,Nb,Nc,Nk,Nf,Ng,Nh,Za,Zb,Zc,TT]
  refine hK _ _ ?_;clear hK K
  refine wK fun K hK => ?_
  by_cases h0 : er = 0
  · subst h0
    refine wS fun K hK => ?_
    simp only [↓DN,UP,DF,Qa,Qb,Qc,Qd,Qe,Qf,Qg,Qh,reduceCtorEq,↓reduceIte,Na,Nb,Nc,Nk,Nf,Ng,Nh,Za,Zb,Zc,TT, hx, i64_ne_false 0 rfl]
    refine hK _ _ ?_;clear hK K
    refine wC fun X Y hX hY => ?_
    simp only [↓DN,UP,DF,Qa,Qb,Qc,Qd,Qe,Qf,Qg,Qh,reduceCtorEq,↓reduceIte,Na,Nb,Nc,Nk,Nf,Ng,Nh,Za,Zb,Zc,TT, DB]
    refine hY ?_;clear hX hY X Y
    refine awp_skip ?_
    refine hK _ _ ?_;clear hK K
    refine wK fun K hK => ?_
    by_cases h1 : l.length < size
    · refine wS fun K hK => ?_
      simp only [↓DN,UP,DF,Qa,Qb,Qc,Qd,Qe,Qf,Qg,Qh,reduceCtorEq,↓reduceIte,Na,Nb,Nc,Nk,Nf,Ng,Nh,Za,Zb,Zc,TT, hx, bs_size, eye_lt_nat, decide_eq_true h1]
      refine hK _ _ ?_;clear hK K
      refine wC fun X Y hX hY => ?_
      simp only [↓DN,UP,DF,Qa,Qb,Qc,Qd,Qe,Qf,Qg,Qh,reduceCtorEq,↓reduceIte,Na,Nb,Nc,Nk,Nf,Ng,Nh,Za,Zb,Zc,TT, DB]
      refine hX ?_;clear hX hY X Y
      refine wS fun K hK => ?_
      simp only [↓DN,UP,DF,Qa,Qb,Qc,Qd,Qe,Qf,Qg,Qh,reduceCtorEq,↓reduceIte,Na,Nb,Nc,Nk,Nf,Ng,Nh,Za,Zb,Zc,TT, hx]
      refine hK _ _ ?_;clear hK K
      refine wS fun K hK => ?_
      simp only [↓DN,UP,DF,Qa,Qb,Qc,Qd,Qe,Qf,Qg,Qh,reduceCtorEq,↓reduceIte,Na,Nb,Nc,Nk,Nf,Ng,Nh,Za,Zb,Zc,TT]
      refine hK _ _ ?_;clear hK K
      refine awp_ret ?_
      simp only [retQ, AEnds, aresL, ares, List.toList_toArray, ↓upd_same]; try simp only [UP,DF,Nc,↓reduceIte,DT]
      rw [eyeText_short h1]
      exact ⟨_, _, AV.weak.refl _, AS.le.refl _, rfl, h.put⟩
    · have h1' : size ≤ l.length := by omega
      have hle : (size : Int) ≤ (l.length : Int) := by omega
      have hge : (0 : Int) ≤ (size : Int) := by omega
      refine wS fun K hK => ?_
      simp only [↓DN,UP,DF,Qa,Qb,Qc,Qd,Qe,Qf,Qg,Qh,reduceCtorEq,↓reduceIte,Na,Nb,Nc,Nk,Nf,Ng,Nh,Za,Zb,Zc,TT, hx, bs_size, eye_lt_nat, decide_eq_false h1]
      refine hK _ _ ?_;clear hK K
      refine wC fun X Y hX hY => ?_
      simp only [↓DN,UP,DF,Qa,Qb,Qc,Qd,Qe,Qf,Qg,Qh,reduceCtorEq,↓reduceIte,Na,Nb,Nc,Nk,Nf,Ng,Nh,Za,Zb,Zc,TT, DB]
      refine hY ?_;clear hX hY X Y
      refine awp_skip ?_
      refine hK _ _ ?_;clear hK K
      obtain ⟨n, hn⟩ : ∃ n, n = beNat (l.take size) := ⟨_, rfl⟩
      have hn7 : n < 2 ^ 56 := by
        rw [hn]
        refine Nat.lt_of_lt_of_le (beNat_take_lt l size) ?_
        rw [show (2 : Nat) ^ 56 = 256 ^ 7 from by decide]
        exact Nat.pow_le_pow_right (by decide) hs
      have hcv : iconv .i64 (n : Int) = n := iconv_i64 (by omega)
      refine wS fun K hK => ?_
      simp only [↓DN,UP,DF,Qa,Qb,Qc,Qd,Qe,Qf,Qg,Qh,reduceCtorEq,↓reduceIte,Na,Nb,Nc,Nk,Nf,Ng,Nh,Za,Zb,Zc,TT, hx, bs_size, bs_extract, hle, hge]
      refine acallk (value_calls (l.take size) (by rw [List.length_take]; omega) s) ?_
      rintro r s' ⟨rfl, rfl⟩
      rw [← hn]
      simp only [↓AXq_nil,↓AXq_cons,pval,DX,Nat.reduceBEq,↓DN,UP,DF,Qa,Qb,Qc,Qd,Qe,Qf,Qg,Qh,reduceCtorEq,↓reduceIte,Na,Nb,Nc,Nk,Nf,Ng,Nh,Za,Zb,Zc,TT, hcv]
      refine hK _ _ ?_;clear hK K
      refine wK fun K hK => ?_
      by_cases h2 : most < (n : Int)
      · refine wS fun K hK => ?_
        simp only [↓DN,UP,DF,Qa,Qb,Qc,Qd,Qe,Qf,Qg,Qh,reduceCtorEq,↓reduceIte,Na,Nb,Nc,Nk,Nf,Ng,Nh,Za,Zb,Zc,TT, decide_eq_true h2]
        refine hK _ _ ?_;clear hK K
        refine wC fun X Y hX hY => ?_
        simp only [↓DN,UP,DF,Qa,Qb,Qc,Qd,Qe,Qf,Qg,Qh,reduceCtorEq,↓reduceIte,Na,Nb,Nc,Nk,Nf,Ng,Nh,Za,Zb,Zc,TT, DB]
        refine hX ?_;clear hX hY X Y
        refine wS fun K hK => ?_
        simp only [↓DN,UP,DF,Qa,Qb,Qc,Qd,Qe,Qf,Qg,Qh,reduceCtorEq,↓reduceIte,Na,Nb,Nc,Nk,Nf,Ng,Nh,Za,Zb,Zc,TT, hx]
        refine hK _ _ ?_;clear hK K
        refine wS fun K hK => ?_
        simp only [↓DN,UP,DF,Qa,Qb,Qc,Qd,Qe,Qf,Qg,Qh,reduceCtorEq,↓reduceIte,Na,Nb,Nc,Nk,Nf,Ng,Nh,Za,Zb,Zc,TT]
        refine hK _ _ ?_;clear hK K
        refine awp_ret ?_
        simp only [retQ, AEnds, aresL, ares, List.toList_toArray, ↓upd_same]; try simp only [UP,DF,Nc,↓reduceIte,DT]
        rw [eyeText_long h1' (by rw [← hn]; exact h2)]
        exact ⟨_, _, AV.weak.refl _, AS.le.refl _, rfl, h.put⟩
      · refine wS fun K hK => ?_
        simp only [↓DN,UP,DF,Qa,Qb,Qc,Qd,Qe,Qf,Qg,Qh,reduceCtorEq,↓reduceIte,Na,Nb,Nc,Nk,Nf,Ng,Nh,Za,Zb,Zc,TT, decide_eq_false h2]
        refine hK _ _ ?_;clear hK K
        refine wC fun X Y hX hY => ?_
        simp only [↓DN,UP,DF,Qa,Qb,Qc,Qd,Qe,Qf,Qg,Qh,reduceCtorEq,↓reduceIte,Na,Nb,Nc,Nk,Nf,Ng,Nh,Za,Zb,Zc,TT, DB]
        refine hY ?_;clear hX hY X Y
        refine awp_skip ?_
        refine hK _ _ ?_;clear hK K
        refine wK fun K hK => ?_
        have hsub : isub .i64 (l.length : Int) (size : Int) = ((l.length - size : Nat) : Int) := by rw [isub_i64 (by omega)]; omega
        by_cases h3 : l.length - size < n
        · refine wS fun K hK => ?_
          simp only [↓DN,UP,DF,Qa,Qb,Qc,Qd,Qe,Qf,Qg,Qh,reduceCtorEq,↓reduceIte,Na,Nb,Nc,Nk,Nf,Ng,Nh,Za,Zb,Zc,TT, hx, bs_size, hsub, eye_lt_nat, decide_eq_true h3]
          refine hK _ _ ?_;clear hK K
          refine wC fun X Y hX hY => ?_
          simp only [↓DN,UP,DF,Qa,Qb,Qc,Qd,Qe,Qf,Qg,Qh,reduceCtorEq,↓reduceIte,Na,Nb,Nc,Nk,Nf,Ng,Nh,Za,Zb,Zc,TT, DB]
          refine hX ?_;clear hX hY X Y
          refine wS fun K hK => ?_
          simp only [↓DN,UP,DF,Qa,Qb,Qc,Qd,Qe,Qf,Qg,Qh,reduceCtorEq,↓reduceIte,Na,Nb,Nc,Nk,Nf,Ng,Nh,Za,Zb,Zc,TT, hx]
          refine hK _ _ ?_;clear hK K
          refine wS fun K hK => ?_
          simp only [↓DN,UP,DF,Qa,Qb,Qc,Qd,Qe,Qf,Qg,Qh,reduceCtorEq,↓reduceIte,Na,Nb,Nc,Nk,Nf,Ng,Nh,Za,Zb,Zc,TT]
          refine hK _ _ ?_;clear hK K
          refine awp_ret ?_
          simp only [retQ, AEnds, aresL, ares, List.toList_toArray, ↓upd_same]; try simp only [UP,DF,Nc,↓reduceIte,DT]
          rw [eyeText_less h1' (by rw [← hn]; exact h2) (by rw [← hn]; exact h3)]
          exact ⟨_, _, AV.weak.refl _, AS.le.refl _, rfl, h.put⟩
        · have hadd : iadd .i64 (size : Int) (n : Int) = ((size + n : Nat) : Int) := by rw [iadd_i64 (by omega)]; rfl
          have hle2 : (size : Int) ≤ ((size + n : Nat) : Int) := by omega
          have hle3 : ((size + n : Nat) : Int) ≤ (l.length : Int) := by omega
          have hge2 : (0 : Int) ≤ ((size + n : Nat) : Int) := by omega
          refine wS fun K hK => ?_
          simp only [↓DN,UP,DF,Qa,Qb,Qc,Qd,Qe,Qf,Qg,Qh,reduceCtorEq,↓reduceIte,Na,Nb,Nc,Nk,Nf,Ng,Nh,Za,Zb,Zc,TT, hx, bs_size, hsub, eye_lt_nat, decide_eq_false h3]
          refine hK _ _ ?_;clear hK K
          refine wC fun X Y hX hY => ?_
          simp only [↓DN,UP,DF,Qa,Qb,Qc,Qd,Qe,Qf,Qg,Qh,reduceCtorEq,↓reduceIte,Na,Nb,Nc,Nk,Nf,Ng,Nh,Za,Zb,Zc,TT, DB]
          refine hY ?_;clear hX hY X Y
          refine awp_skip ?_
          refine hK _ _ ?_;clear hK K
          refine wS fun K hK => ?_
          simp only [↓DN,UP,DF,Qa,Qb,Qc,Qd,Qe,Qf,Qg,Qh,reduceCtorEq,↓reduceIte,Na,Nb,Nc,Nk,Nf,Ng,Nh,Za,Zb,Zc,TT, hx, bs_size, bs_extract, hge, hadd, hle2, hle3]
          refine hK _ _ ?_;clear hK K
          refine wS fun K hK => ?_
          simp only [↓DN,UP,DF,Qa,Qb,Qc,Qd,Qe,Qf,Qg,Qh,reduceCtorEq,↓reduceIte,Na,Nb,Nc,Nk,Nf,Ng,Nh,Za,Zb,Zc,TT, hx, bs_size, bs_extract, hadd, hge2, hle3, Int.le_refl]
          refine hK _ _ ?_;clear hK K
          refine wS fun K hK => ?_
          simp only [↓DN,UP,DF,Qa,Qb,Qc,Qd,Qe,Qf,Qg,Qh,reduceCtorEq,↓reduceIte,Na,Nb,Nc,Nk,Nf,Ng,Nh,Za,Zb,Zc,TT]
          refine hK _ _ ?_;clear hK K
          refine awp_ret ?_
          simp only [retQ, AEnds, aresL, ares, List.toList_toArray, ↓upd_same]; try simp only [UP,DF,Nc,↓reduceIte,DT]
          rw [eyeText_ok h1' (by rw [← hn]; exact h2) (by rw [← hn]; exact h3), ← hn]
          refine ⟨_, _, AV.weak.refl _, AS.le.refl _, rfl, h.put' ?_⟩
          rw [List.take_length]
  · refine wS fun K hK => ?_
    simp only [↓DN,UP,DF,Qa,Qb,Qc,Qd,Qe,Qf,Qg,Qh,reduceCtorEq,↓reduceIte,Na,Nb,Nc,Nk,Nf,Ng,Nh,Za,Zb,Zc,TT, hx, i64_ne_true er h0]
    refine hK _ _ ?_;clear hK K
    refine wC fun X Y hX hY => ?_
    simp only [↓DN,UP,DF,Qa,Qb,Qc,Qd,Qe,Qf,Qg,Qh,reduceCtorEq,↓reduceIte,Na,Nb,Nc,Nk,Nf,Ng,Nh,Za,Zb,Zc,TT, DB]
    refine hX ?_;clear hX hY X Y
    refine wS fun K hK => ?_
    simp only [↓DN,UP,DF,Qa,Qb,Qc,Qd,Qe,Qf,Qg,Qh,reduceCtorEq,↓reduceIte,Na,Nb,Nc,Nk,Nf,Ng,Nh,Za,Zb,Zc,TT]
    refine hK _ _ ?_;clear hK K
    refine awp_ret ?_
    simp only [retQ, AEnds, aresL, ares, List.toList_toArray, ↓upd_same]; try simp only [UP,DF,Nc,↓reduceIte,DT]
    rw [eyeText_err h0]
    exact ⟨_, _, AV.weak.refl _, AS.le.refl _, rfl, h⟩

set_option maxHeartbeats 400000 in
theorem reyeEnd_calls (s0 s : AS) (p : Nat) (st : EyeSt) (h : REyeS s0 s p st) :
    ACalls Tryz.prog Γ 70 [.ptr p 0] s (fun r s' => r = .v (.int .i64 (eyeEnd st)) ∧ s' = s) := by
  refine acalls_body Tryz.func70 rfl Tryz.ntmps70 Tryz.results70 (by simp) ?_
  have hx := h.obj
  obtain ⟨l, er⟩ := st
  simp only at hx
  refine wS fun K hK => ?_
  simp only [↓DN,UP,DF,Qa,Qb,Qc,Qd,Qe,Qf,Qg,Qh,reduceCtorEq,↓reduceIte,Na,Nb,Nc,Nk,Nf,Ng,Nh,Za,Zb,Zc,TT]
  refine hK _ _ ?_;clear hK K
  refine wK fun K hK => ?_
  have hgo : ∀ E1 : Env, E1 0 = .ptr p 0 → eyeEnd (l, er) = er → K E1 s := by
    intro E1 e0 e
    refine hK _ _ ?_;clear hK K
    refine wS fun K hK => ?_
    simp only [↓DN,UP,DF,Qa,Qb,Qc,Qd,Qe,Qf,Qg,Qh,reduceCtorEq,↓reduceIte,Na,Nb,Nc,Nk,Nf,Ng,Nh,Za,Zb,Zc,TT, e0, hx]
    refine hK _ _ ?_;clear hK K
    refine awp_ret ?_
    simp only [retQ, AEnds, aresL, ares, List.toList_toArray, ↓upd_same]; try simp only [UP,DF,Nc,↓reduceIte,DT]
    exact ⟨_, _, AV.weak.refl _, AS.le.refl _, by rw [e], rfl⟩
  clear hK
  by_cases h0 : er = 0
  · by_cases h1 : 0 < l.length
    · refine wS fun K hK => ?_
      simp only [↓DN,UP,DF,Qa,Qb,Qc,Qd,Qe,Qf,Qg,Qh,reduceCtorEq,↓reduceIte,Na,Nb,Nc,Nk,Nf,Ng,Nh,Za,Zb,Zc,TT, hx, i64_eq_true er h0, bs_size, decide_eq_true (show (0 : Int) < (l.length : Int) by omega)]
      refine hK _ _ ?_;clear hK K
      refine wC fun X Y hX hY => ?_
      simp only [↓DN,UP,DF,Qa,Qb,Qc,Qd,Qe,Qf,Qg,Qh,reduceCtorEq,↓reduceIte,Na,Nb,Nc,Nk,Nf,Ng,Nh,Za,Zb,Zc,TT, DB]
      refine hX ?_;clear hX hY X Y
      refine wS fun K hK => ?_
      simp only [↓DN,UP,DF,Qa,Qb,Qc,Qd,Qe,Qf,Qg,Qh,reduceCtorEq,↓reduceIte,Na,Nb,Nc,Nk,Nf,Ng,Nh,Za,Zb,Zc,TT]
      refine hK _ _ ?_;clear hK K
      refine awp_ret ?_
      simp only [retQ, AEnds, aresL, ares, List.toList_toArray, ↓upd_same]; try simp only [UP,DF,Nc,↓reduceIte,DT]
      exact ⟨_, _, AV.weak.refl _, AS.le.refl _, by simp [eyeEnd, h0, h1, atuple], rfl⟩
    · refine wS fun K hK => ?_
      simp only [↓DN,UP,DF,Qa,Qb,Qc,Qd,Qe,Qf,Qg,Qh,reduceCtorEq,↓reduceIte,Na,Nb,Nc,Nk,Nf,Ng,Nh,Za,Zb,Zc,TT, hx, i64_eq_true er h0, bs_size, decide_eq_false (show ¬ (0 : Int) < (l.length : Int) by omega)]
      refine hK _ _ ?_;clear hK K
      refine wC fun X Y hX hY => ?_
      simp only [↓DN,UP,DF,Qa,Qb,Qc,Qd,Qe,Qf,Qg,Qh,reduceCtorEq,↓reduceIte,Na,Nb,Nc,Nk,Nf,Ng,Nh,Za,Zb,Zc,TT, DB]
      refine hY ?_;clear hX hY X Y
      refine awp_skip ?_
      exact hgo _ (by simp only [upd, initE, List.getD_cons_zero, Nc, ↓reduceIte]) (by simp [eyeEnd, h1])
  · refine wS fun K hK => ?_
    simp only [↓DN,UP,DF,Qa,Qb,Qc,Qd,Qe,Qf,Qg,Qh,reduceCtorEq,↓reduceIte,Na,Nb,Nc,Nk,Nf,Ng,Nh,Za,Zb,Zc,TT, hx, i64_eq_false er h0]
    refine hK _ _ ?_;clear hK K
    refine wC fun X Y hX hY => ?_
    simp only [↓DN,UP,DF,Qa,Qb,Qc,Qd,Qe,Qf,Qg,Qh,reduceCtorEq,↓reduceIte,Na,Nb,Nc,Nk,Nf,Ng,Nh,Za,Zb,Zc,TT, DB]
    refine hY ?_;clear hX hY X Y
    refine awp_skip ?_
    exact hgo _ (by simp only [upd, initE, List.getD_cons_zero, Nc, ↓reduceIte]) (by simp [eyeEnd, h0])

end Go.Proofs.YtoagkleecgngdaaGreatDoor


set_option autoImplicit false
namespace Go.AM
open Go

/-! ### What is written is read back; and what is cut off is too short -/
theorem take_be {k n : Nat} (m : List UInt8) : (be k n ++ m).take k = be k n := by
  rw [List.take_append_of_le_length (by simp), List.take_of_length_le (by simp)]
theorem drop_be {k n : Nat} (m : List UInt8) : (be k n ++ m).drop k = m := by
  rw [List.drop_append_of_le_length (by simp), List.drop_eq_nil_of_le (by simp)]; rfl
theorem eyeNum_be {k n : Nat} {rest : List UInt8} (h : n < 256 ^ k) : eyeNum k (be k n ++ rest, 0) = (n, rest, 0) := by
  rw [eyeNum_ok (by simp), take_be, drop_be, beNat_be k n h]
theorem eyeText_be {k : Nat} {m rest : List UInt8} {most : Int} (h : m.length < 256 ^ k) (hm : (m.length : Int) ≤ most) : eyeText k most (be k m.length ++ m ++ rest, 0) = (m, rest, 0) := by
  unfold eyeText
  rw [List.append_assoc, eyeNum_be h]
  refine (if_pos rfl).trans ((if_neg (by simp only; omega)).trans ((if_neg (by simp)).trans ?_))
  simp only
  rw [eyeNext_ok (by simp), List.take_left, List.drop_left]
end Go.AM


set_option autoImplicit false
namespace Go.AM
open Go

/-! ### Records -/
structure Rec where
  kind : Int
  group : List UInt8
  epoch : Int
  time : Int
  bucket : Int
  body : List UInt8
  tree : List UInt8
  script : List UInt8
  wrapped : List UInt8
  deriving DecidableEq

def Rec.cells (r : Rec) : List AV := [.v (.int .i64 r.kind), bytesV r.group .any, .v (.int .i64 r.epoch), .v (.int .i64 r.time), .v (.int .i64 r.bucket), bytesV r.body .any, bytesV r.tree .any, bytesV r.script .any, bytesV r.wrapped .any]
def Rec.nought : Rec := ⟨0, [], 0, 0, 0, [], [], [], []⟩

def Rec.right (r : Rec) : Prop :=
  1 ≤ r.kind ∧ r.kind ≤ 3 ∧ 1 ≤ r.group.length ∧ r.group.length ≤ 16 ∧ 0 ≤ r.epoch ∧ r.epoch ≤ 1048576 ∧ 0 ≤ r.time ∧ r.time ≤ 1099511627776 ∧ 0 ≤ r.bucket ∧ r.bucket ≤ 1099511627776 ∧ r.body.length ≤ 60000 ∧
    r.tree.length = (if r.kind = 3 then 0 else 32) ∧ r.script.length = (if r.kind = 3 then 0 else 32) ∧ r.wrapped.length = (if r.kind = 3 then 0 else 48)
instance (r : Rec) : Decidable r.right := by unfold Rec.right; infer_instance

theorem right_bool (R : Rec) (hh ww : Int) (h : (R.kind = 3 ∧ hh = 0 ∧ ww = 0) ∨ (R.kind ≠ 3 ∧ hh = 32 ∧ ww = 48)) :
    decide R.right = (decide (1 ≤ R.kind) && (decide (R.kind ≤ 3) && (decide (1 ≤ (R.group.length : Int)) && (decide ((R.group.length : Int) ≤ 16) && ((decide (0 ≤ R.epoch) && decide (R.epoch ≤ 1048576)) && ((decide (0 ≤ R.time) && decide (R.time ≤ 1099511627776)) &&
      ((decide (0 ≤ R.bucket) && decide (R.bucket ≤ 1099511627776)) && (decide ((R.body.length : Int) ≤ 60000) && (((R.tree.length : Int) == hh) && (((R.script.length : Int) == hh) && ((R.wrapped.length : Int) == ww))))))))))) := by
  have key : R.right ↔ (1 ≤ R.kind ∧ (R.kind ≤ 3 ∧ (1 ≤ (R.group.length : Int) ∧ ((R.group.length : Int) ≤ 16 ∧ ((0 ≤ R.epoch ∧ R.epoch ≤ 1048576) ∧ ((0 ≤ R.time ∧ R.time ≤ 1099511627776) ∧
      ((0 ≤ R.bucket ∧ R.bucket ≤ 1099511627776) ∧ ((R.body.length : Int) ≤ 60000 ∧ ((R.tree.length : Int) = hh ∧ ((R.script.length : Int) = hh ∧ (R.wrapped.length : Int) = ww)))))))))) := by
    unfold Rec.right
    rcases h with ⟨hk, rfl, rfl⟩ | ⟨hk, rfl, rfl⟩
    · simp only [if_pos hk]
      constructor
      · rintro ⟨h1, h2, h3, h4, h5, h6, h7, h8, h9, h10, h11, h12, h13, h14⟩
        exact ⟨h1, h2, by omega, by omega, ⟨h5, h6⟩, ⟨h7, h8⟩, ⟨h9, h10⟩, by omega, by omega, by omega, by omega⟩
      · rintro ⟨h1, h2, h3, h4, ⟨h5, h6⟩, ⟨h7, h8⟩, ⟨h9, h10⟩, h11, h12, h13, h14⟩
        exact ⟨h1, h2, by omega, by omega, h5, h6, h7, h8, h9, h10, by omega, by omega, by omega, by omega⟩
    · simp only [if_neg hk]
      constructor
      · rintro ⟨h1, h2, h3, h4, h5, h6, h7, h8, h9, h10, h11, h12, h13, h14⟩
        exact ⟨h1, h2, by omega, by omega, ⟨h5, h6⟩, ⟨h7, h8⟩, ⟨h9, h10⟩, by omega, by omega, by omega, by omega⟩
      · rintro ⟨h1, h2, h3, h4, ⟨h5, h6⟩, ⟨h7, h8⟩, ⟨h9, h10⟩, h11, h12, h13, h14⟩
        exact ⟨h1, h2, by omega, by omega, h5, h6, h7, h8, h9, h10, by omega, by omega, by omega, by omega⟩
  rw [Bool.eq_iff_iff, decide_eq_true_iff, key]
  simp only [Bool.and_eq_true, decide_eq_true_eq, beq_iff_eq]
theorem Rec.right.facts {R : Rec} (h : R.right) : 1 ≤ R.kind ∧ R.kind ≤ 3 ∧ 1 ≤ R.group.length ∧ R.group.length ≤ 16 ∧ 0 ≤ R.epoch ∧ R.epoch ≤ 1048576 ∧ 0 ≤ R.time ∧ R.time ≤ 1099511627776 ∧ 0 ≤ R.bucket ∧ R.bucket ≤ 1099511627776 ∧ R.body.length ≤ 60000 ∧
    R.tree.length ≤ 32 ∧ R.script.length ≤ 32 ∧ R.wrapped.length ≤ 48 := by
  obtain ⟨h1, h2, h3, h4, h5, h6, h7, h8, h9, h10, h11, h12, h13, h14⟩ := h
  have w1 : R.tree.length ≤ 32 := by rw [h12]; split <;> omega
  have w2 : R.script.length ≤ 32 := by rw [h13]; split <;> omega
  have w3 : R.wrapped.length ≤ 48 := by rw [h14]; split <;> omega
  exact ⟨h1, h2, h3, h4, h5, h6, h7, h8, h9, h10, h11, w1, w2, w3⟩

def Rec.text (r : Rec) : List UInt8 :=
  be 1 r.kind.toNat ++ (be 1 r.group.length ++ r.group ++ (be 8 r.epoch.toNat ++ (be 8 r.time.toNat ++ (be 8 r.bucket.toNat ++
    (be 2 r.body.length ++ r.body ++ (be 1 r.tree.length ++ r.tree ++ (be 1 r.script.length ++ r.script ++ (be 1 r.wrapped.length ++ r.wrapped ++ []))))))))

def readRec (b : List UInt8) : Rec × EyeSt :=
  let k := eyeNum 1 (b, 0)
  let g := eyeText 1 16 k.2
  let e := eyeNum 8 g.2
  let t := eyeNum 8 e.2
  let u := eyeNum 8 t.2
  let y := eyeText 2 60000 u.2
  let r := eyeText 1 32 y.2
  let c := eyeText 1 32 r.2
  let w := eyeText 1 48 c.2
  (⟨k.1, g.1, iconv .i64 (e.1 : Int), iconv .i64 (t.1 : Int), iconv .i64 (u.1 : Int), y.1, r.1, c.1, w.1⟩, w.2)

def recRead (b : List UInt8) : Rec × Int :=
  if eyeEnd (readRec b).2 = 0 then (if (readRec b).1.right then ((readRec b).1, 0) else (Rec.nought, 12)) else (Rec.nought, eyeEnd (readRec b).2)

theorem i64_back (x : Int) (h : 0 ≤ x) (k : x < 2 ^ 62) : iconv .i64 ((x.toNat : Nat) : Int) = x := by
  rw [i64_conv (by omega)]; omega

/-- What was written is read back. -/
theorem readRec_text (r : Rec) (h : r.right) : readRec r.text = (r, [], 0) := by
  obtain ⟨h1, h2, h3, h4, h5, h6, h7, h8, h9, h10, h11, h12, h13, h14⟩ := h
  have w1 : r.tree.length ≤ 32 := by rw [h12]; split <;> omega
  have w2 : r.script.length ≤ 32 := by rw [h13]; split <;> omega
  have w3 : r.wrapped.length ≤ 48 := by rw [h14]; split <;> omega
  have p8 : (256 : Nat) ^ 8 = 18446744073709551616 := by decide
  unfold readRec Rec.text
  simp only
  rw [eyeNum_be (by omega), eyeText_be (by omega) (by omega), eyeNum_be (by omega), eyeNum_be (by omega), eyeNum_be (by omega), eyeText_be (by omega) (by omega), eyeText_be (by omega) (by omega), eyeText_be (by omega) (by omega), eyeText_be (by omega) (by omega)]
  rw [i64_back _ h5 (by omega), i64_back _ h7 (by omega), i64_back _ h9 (by omega)]
  rw [Int.toNat_of_nonneg (by omega)]

theorem recRead_text (r : Rec) (h : r.right) : recRead r.text = (r, 0) := by
  unfold recRead
  rw [readRec_text r h]
  rw [if_pos (show eyeEnd (([] : List UInt8), (0 : Int)) = 0 from by decide)]
  exact if_pos h

/-! What was read is written back. -/
end Go.AM


set_option autoImplicit false
namespace Go.Proofs.YtoagkleecgngdaaGreatDoor
open Go Go.AM Go.Proofs


variable {Γ : Nat → List AV}

set_option maxHeartbeats 400000 in
theorem within_calls (n m : Int) (s : AS) : ACalls Tryz.prog Γ 226 [.v (.int .i64 n), .v (.int .i64 m)] s (fun r s' => r = .v (.bool (decide (0 ≤ n) && decide (n ≤ m))) ∧ s' = s) := by
  refine acalls_body Tryz.func226 rfl Tryz.ntmps226 Tryz.results226 (by simp) ?_
  rcases ff2 (decide (0 ≤ n)) (decide (n ≤ m)) with hd | hd | hd
  all_goals
    refine wS fun K hK => ?_
    simp only [↓DN,UP,DF,Qa,Qb,Qc,Qd,Qe,Qf,Qg,Qh,reduceCtorEq,↓reduceIte,Na,Nb,Nc,Nk,Nf,Ng,Nh,Za,Zb,Zc,TT]
    refine hK _ _ ?_;clear hK K
    refine wS fun K hK => ?_
    simp only [↓DN,UP,DF,Qa,Qb,Qc,Qd,Qe,Qf,Qg,Qh,reduceCtorEq,↓reduceIte,Na,Nb,Nc,Nk,Nf,Ng,Nh,Za,Zb,Zc,TT, hd]
    refine hK _ _ ?_;clear hK K
    refine awp_ret ?_
    simp only [retQ, AEnds, aresL, ares, List.toList_toArray, ↓upd_same]; try simp only [UP,DF,Nc,↓reduceIte,DT]
    refine ⟨_, _, AV.weak.refl _, AS.le.refl _, ?_, rfl⟩
    simp only [hd, Bool.and_true, Bool.true_and, Bool.false_and, Bool.and_false]

theorem i64_eq_one3 (x : Int) (h : x = 3) : (x == 3) = true := by subst h; rfl
theorem i64_ne_three (x : Int) (h : x ≠ 3) : (x == 3) = false := by simpa using h

set_option maxRecDepth 100000 in
set_option maxHeartbeats 4000000 in
theorem recRight_calls (R : Rec) (s : AS) : ACalls Tryz.prog Γ 174 [.agg R.cells] s (fun r s' => r = .v (.bool (decide R.right)) ∧ s' = s) := by
  refine acalls_body Tryz.func174 rfl Tryz.ntmps174 Tryz.results174 (by simp) ?_
  unfold Rec.cells
  obtain ⟨k, g, e, t, u, y, tr, sc, wr⟩ := R
  refine wS fun K hK => ?_
  simp only [↓DN,UP,DF,Qa,Qb,Qc,Qd,Qe,Qf,Qg,Qh,reduceCtorEq,↓reduceIte,Na,Nb,Nc,Nk,Nf,Ng,Nh,Za,Zb,Zc,TT]
  intro o ho
  refine hK _ _ ?_;clear hK K
  refine wS fun K hK => ?_
  simp only [↓DN,UP,DF,Qa,Qb,Qc,Qd,Qe,Qf,Qg,Qh,reduceCtorEq,↓reduceIte,Na,Nb,Nc,Nk,Nf,Ng,Nh,Za,Zb,Zc,TT]
  refine hK _ _ ?_;clear hK K
  refine wK fun K hK => ?_
  have hgo : ∀ (hh ww : Int) (hw : (k = 3 ∧ hh = 0 ∧ ww = 0) ∨ (k ≠ 3 ∧ hh = 32 ∧ ww = 48)) (E1 : Env), E1 1 = .ptr o 0 → E1 3 = .v (.int .i64 hh) → E1 4 = .v (.int .i64 ww) → K E1 (s.set o [.v (.int .i64 k), .sl 1 g.length (g.map byteV) .any, .v (.int .i64 e), .v (.int .i64 t), .v (.int .i64 u), .sl 1 y.length (y.map byteV) .any, .sl 1 tr.length (tr.map byteV) .any, .sl 1 sc.length (sc.map byteV) .any, .sl 1 wr.length (wr.map byteV) .any]) := by
    intro hh ww hw E1 e1 e3 e4
    refine hK _ _ ?_;clear hK K
    rcases ff11 (decide (1 ≤ k)) (decide (k ≤ 3)) (decide (1 ≤ (g.length : Int))) (decide ((g.length : Int) ≤ 16)) (decide (0 ≤ e) && decide (e ≤ 1048576)) (decide (0 ≤ t) && decide (t ≤ 1099511627776)) (decide (0 ≤ u) && decide (u ≤ 1099511627776))
      (decide ((y.length : Int) ≤ 60000)) ((tr.length : Int) == hh) ((sc.length : Int) == hh) ((wr.length : Int) == ww) with hd | hd | hd | hd | hd | hd | hd | hd | hd | hd | hd | hd
    · refine wS fun K hK => ?_
      simp only [↓DN,UP,DF,Qa,Qb,Qc,Qd,Qe,Qf,Qg,Qh,reduceCtorEq,↓reduceIte,Na,Nb,Nc,Nk,Nf,Ng,Nh,Za,Zb,Zc,TT, e1, e3, e4, hd]
      refine hK _ _ ?_;clear hK K
      refine awp_ret ?_
      simp only [retQ, AEnds, aresL, ares, List.toList_toArray, ↓upd_same]; try simp only [UP,DF,Nc,↓reduceIte,DT]
      refine ⟨_, s, AV.weak.refl _, AS.le_set (AS.le.refl s) ho _, ?_, rfl⟩
      rw [right_bool _ hh ww hw]
      simp only [hd, Bool.and_true, Bool.true_and, Bool.false_and, Bool.and_false]
    · refine wS fun K hK => ?_
      simp only [↓DN,UP,DF,Qa,Qb,Qc,Qd,Qe,Qf,Qg,Qh,reduceCtorEq,↓reduceIte,Na,Nb,Nc,Nk,Nf,Ng,Nh,Za,Zb,Zc,TT, e1, e3, e4, hd]
      refine hK _ _ ?_;clear hK K
      refine awp_ret ?_
      simp only [retQ, AEnds, aresL, ares, List.toList_toArray, ↓upd_same]; try simp only [UP,DF,Nc,↓reduceIte,DT]
      refine ⟨_, s, AV.weak.refl _, AS.le_set (AS.le.refl s) ho _, ?_, rfl⟩
      rw [right_bool _ hh ww hw]
      simp only [hd, Bool.and_true, Bool.true_and, Bool.false_and, Bool.and_false]
    · refine wS fun K hK => ?_
      simp only [↓DN,UP,DF,Qa,Qb,Qc,Qd,Qe,Qf,Qg,Qh,reduceCtorEq,↓reduceIte,Na,Nb,Nc,Nk,Nf,Ng,Nh,Za,Zb,Zc,TT, e1, e3, e4, hd]
      refine hK _ _ ?_;clear hK K
      refine awp_ret ?_
      simp only [retQ, AEnds, aresL, ares, List.toList_toArray, ↓upd_same]; try simp only [UP,DF,Nc,↓reduceIte,DT]
      refine ⟨_, s, AV.weak.refl _, AS.le_set (AS.le.refl s) ho _, ?_, rfl⟩
      rw [right_bool _ hh ww hw]
      simp only [hd, Bool.and_true, Bool.true_and, Bool.false_and, Bool.and_false]
    · refine wS fun K hK => ?_
      simp only [↓DN,UP,DF,Qa,Qb,Qc,Qd,Qe,Qf,Qg,Qh,reduceCtorEq,↓reduceIte,Na,Nb,Nc,Nk,Nf,Ng,Nh,Za,Zb,Zc,TT, e1, e3, e4, hd]
      refine hK _ _ ?_;clear hK K
      refine awp_ret ?_
      simp only [retQ, AEnds, aresL, ares, List.toList_toArray, ↓upd_same]; try simp only [UP,DF,Nc,↓reduceIte,DT]
      refine ⟨_, s, AV.weak.refl _, AS.le_set (AS.le.refl s) ho _, ?_, rfl⟩
      rw [right_bool _ hh ww hw]
      simp only [hd, Bool.and_true, Bool.true_and, Bool.false_and, Bool.and_false]
    · refine wS fun K hK => ?_
      simp only [↓DN,UP,DF,Qa,Qb,Qc,Qd,Qe,Qf,Qg,Qh,reduceCtorEq,↓reduceIte,Na,Nb,Nc,Nk,Nf,Ng,Nh,Za,Zb,Zc,TT, e1, e3, e4, hd]
      refine acallk (within_calls e 1048576 _) ?_
      rintro r s' ⟨rfl, rfl⟩
      simp only [↓AXq_nil,↓AXq_cons,pval,DX,Nat.reduceBEq,↓DN,UP,DF,Qa,Qb,Qc,Qd,Qe,Qf,Qg,Qh,reduceCtorEq,↓reduceIte,Na,Nb,Nc,Nk,Nf,Ng,Nh,Za,Zb,Zc,TT, e1, e3, e4, hd]
      refine hK _ _ ?_;clear hK K
      refine awp_ret ?_
      simp only [retQ, AEnds, aresL, ares, List.toList_toArray, ↓upd_same]; try simp only [UP,DF,Nc,↓reduceIte,DT]
      refine ⟨_, s, AV.weak.refl _, AS.le_set (AS.le.refl s) ho _, ?_, rfl⟩
      rw [right_bool _ hh ww hw]
      simp only [hd, Bool.and_true, Bool.true_and, Bool.false_and, Bool.and_false]
    · refine wS fun K hK => ?_
      simp only [↓DN,UP,DF,Qa,Qb,Qc,Qd,Qe,Qf,Qg,Qh,reduceCtorEq,↓reduceIte,Na,Nb,Nc,Nk,Nf,Ng,Nh,Za,Zb,Zc,TT, e1, e3, e4, hd]
      refine acallk (within_calls e 1048576 _) ?_
      rintro r s' ⟨rfl, rfl⟩
      simp only [↓AXq_nil,↓AXq_cons,pval,DX,Nat.reduceBEq,↓DN,UP,DF,Qa,Qb,Qc,Qd,Qe,Qf,Qg,Qh,reduceCtorEq,↓reduceIte,Na,Nb,Nc,Nk,Nf,Ng,Nh,Za,Zb,Zc,TT, e1, e3, e4, hd]
      refine acallk (within_calls t 1099511627776 _) ?_
      rintro r s' ⟨rfl, rfl⟩
      simp only [↓AXq_nil,↓AXq_cons,pval,DX,Nat.reduceBEq,↓DN,UP,DF,Qa,Qb,Qc,Qd,Qe,Qf,Qg,Qh,reduceCtorEq,↓reduceIte,Na,Nb,Nc,Nk,Nf,Ng,Nh,Za,Zb,Zc,TT, e1, e3, e4, hd]
      refine hK _ _ ?_;clear hK K
      refine awp_ret ?_
      simp only [retQ, AEnds, aresL, ares, List.toList_toArray, ↓upd_same]; try simp only [UP,DF,Nc,↓reduceIte,DT]
      refine ⟨_, s, AV.weak.refl _, AS.le_set (AS.le.refl s) ho _, ?_, rfl⟩
      rw [right_bool _ hh ww hw]
      simp only [hd, Bool.and_true, Bool.true_and, Bool.false_and, Bool.and_false]
    · refine wS fun K hK => ?_
      simp only [↓DN,UP,DF,Qa,Qb,Qc,Qd,Qe,Qf,Qg,Qh,reduceCtorEq,↓reduceIte,Na,Nb,Nc,Nk,Nf,Ng,Nh,Za,Zb,Zc,TT, e1, e3, e4, hd]
      refine acallk (within_calls e 1048576 _) ?_
      rintro r s' ⟨rfl, rfl⟩
      simp only [↓AXq_nil,↓AXq_cons,pval,DX,Nat.reduceBEq,↓DN,UP,DF,Qa,Qb,Qc,Qd,Qe,Qf,Qg,Qh,reduceCtorEq,↓reduceIte,Na,Nb,Nc,Nk,Nf,Ng,Nh,Za,Zb,Zc,TT, e1, e3, e4, hd]
      refine acallk (within_calls t 1099511627776 _) ?_
      rintro r s' ⟨rfl, rfl⟩
      simp only [↓AXq_nil,↓AXq_cons,pval,DX,Nat.reduceBEq,↓DN,UP,DF,Qa,Qb,Qc,Qd,Qe,Qf,Qg,Qh,reduceCtorEq,↓reduceIte,Na,Nb,Nc,Nk,Nf,Ng,Nh,Za,Zb,Zc,TT, e1, e3, e4, hd]
      refine acallk (within_calls u 1099511627776 _) ?_
      rintro r s' ⟨rfl, rfl⟩
      simp only [↓AXq_nil,↓AXq_cons,pval,DX,Nat.reduceBEq,↓DN,UP,DF,Qa,Qb,Qc,Qd,Qe,Qf,Qg,Qh,reduceCtorEq,↓reduceIte,Na,Nb,Nc,Nk,Nf,Ng,Nh,Za,Zb,Zc,TT, e1, e3, e4, hd]
      refine hK _ _ ?_;clear hK K
      refine awp_ret ?_
      simp only [retQ, AEnds, aresL, ares, List.toList_toArray, ↓upd_same]; try simp only [UP,DF,Nc,↓reduceIte,DT]
      refine ⟨_, s, AV.weak.refl _, AS.le_set (AS.le.refl s) ho _, ?_, rfl⟩
      rw [right_bool _ hh ww hw]
      simp only [hd, Bool.and_true, Bool.true_and, Bool.false_and, Bool.and_false]
    · refine wS fun K hK => ?_
      simp only [↓DN,UP,DF,Qa,Qb,Qc,Qd,Qe,Qf,Qg,Qh,reduceCtorEq,↓reduceIte,Na,Nb,Nc,Nk,Nf,Ng,Nh,Za,Zb,Zc,TT, e1, e3, e4, hd]
      refine acallk (within_calls e 1048576 _) ?_
      rintro r s' ⟨rfl, rfl⟩
      simp only [↓AXq_nil,↓AXq_cons,pval,DX,Nat.reduceBEq,↓DN,UP,DF,Qa,Qb,Qc,Qd,Qe,Qf,Qg,Qh,reduceCtorEq,↓reduceIte,Na,Nb,Nc,Nk,Nf,Ng,Nh,Za,Zb,Zc,TT, e1, e3, e4, hd]
      refine acallk (within_calls t 1099511627776 _) ?_
      rintro r s' ⟨rfl, rfl⟩
      simp only [↓AXq_nil,↓AXq_cons,pval,DX,Nat.reduceBEq,↓DN,UP,DF,Qa,Qb,Qc,Qd,Qe,Qf,Qg,Qh,reduceCtorEq,↓reduceIte,Na,Nb,Nc,Nk,Nf,Ng,Nh,Za,Zb,Zc,TT, e1, e3, e4, hd]
      refine acallk (within_calls u 1099511627776 _) ?_
      rintro r s' ⟨rfl, rfl⟩
      simp only [↓AXq_nil,↓AXq_cons,pval,DX,Nat.reduceBEq,↓DN,UP,DF,Qa,Qb,Qc,Qd,Qe,Qf,Qg,Qh,reduceCtorEq,↓reduceIte,Na,Nb,Nc,Nk,Nf,Ng,Nh,Za,Zb,Zc,TT, e1, e3, e4, hd]
      refine hK _ _ ?_;clear hK K
      refine awp_ret ?_
      simp only [retQ, AEnds, aresL, ares, List.toList_toArray, ↓upd_same]; try simp only [UP,DF,Nc,↓reduceIte,DT]
      refine ⟨_, s, AV.weak.refl _, AS.le_set (AS.le.refl s) ho _, ?_, rfl⟩
      rw [right_bool _ hh ww hw]
      simp only [hd, Bool.and_true, Bool.true_and, Bool.false_and, Bool.and_false]
    · refine wS fun K hK => ?_
      simp only [↓DN,UP,DF,Qa,Qb,Qc,Qd,Qe,Qf,Qg,Qh,reduceCtorEq,↓reduceIte,Na,Nb,Nc,Nk,Nf,Ng,Nh,Za,Zb,Zc,TT, e1, e3, e4, hd]
      refine acallk (within_calls e 1048576 _) ?_
      rintro r s' ⟨rfl, rfl⟩
      simp only [↓AXq_nil,↓AXq_cons,pval,DX,Nat.reduceBEq,↓DN,UP,DF,Qa,Qb,Qc,Qd,Qe,Qf,Qg,Qh,reduceCtorEq,↓reduceIte,Na,Nb,Nc,Nk,Nf,Ng,Nh,Za,Zb,Zc,TT, e1, e3, e4, hd]
      refine acallk (within_calls t 1099511627776 _) ?_
      rintro r s' ⟨rfl, rfl⟩
      simp only [↓AXq_nil,↓AXq_cons,pval,DX,Nat.reduceBEq,↓DN,UP,DF,Qa,Qb,Qc,Qd,Qe,Qf,Qg,Qh,reduceCtorEq,↓reduceIte,Na,Nb,Nc,Nk,Nf,Ng,Nh,Za,Zb,Zc,TT, e1, e3, e4, hd]
      refine acallk (within_calls u 1099511627776 _) ?_
      rintro r s' ⟨rfl, rfl⟩
      simp only [↓AXq_nil,↓AXq_cons,pval,DX,Nat.reduceBEq,↓DN,UP,DF,Qa,Qb,Qc,Qd,Qe,Qf,Qg,Qh,reduceCtorEq,↓reduceIte,Na,Nb,Nc,Nk,Nf,Ng,Nh,Za,Zb,Zc,TT, e1, e3, e4, hd]
      refine hK _ _ ?_;clear hK K
      refine awp_ret ?_
      simp only [retQ, AEnds, aresL, ares, List.toList_toArray, ↓upd_same]; try simp only [UP,DF,Nc,↓reduceIte,DT]
      refine ⟨_, s, AV.weak.refl _, AS.le_set (AS.le.refl s) ho _, ?_, rfl⟩
      rw [right_bool _ hh ww hw]
      simp only [hd, Bool.and_true, Bool.true_and, Bool.false_and, Bool.and_false]
    · refine wS fun K hK => ?_
      simp only [↓DN,UP,DF,Qa,Qb,Qc,Qd,Qe,Qf,Qg,Qh,reduceCtorEq,↓reduceIte,Na,Nb,Nc,Nk,Nf,Ng,Nh,Za,Zb,Zc,TT, e1, e3, e4, hd]
      refine acallk (within_calls e 1048576 _) ?_
      rintro r s' ⟨rfl, rfl⟩
      simp only [↓AXq_nil,↓AXq_cons,pval,DX,Nat.reduceBEq,↓DN,UP,DF,Qa,Qb,Qc,Qd,Qe,Qf,Qg,Qh,reduceCtorEq,↓reduceIte,Na,Nb,Nc,Nk,Nf,Ng,Nh,Za,Zb,Zc,TT, e1, e3, e4, hd]
      refine acallk (within_calls t 1099511627776 _) ?_
      rintro r s' ⟨rfl, rfl⟩
      simp only [↓AXq_nil,↓AXq_cons,pval,DX,Nat.reduceBEq,↓DN,UP,DF,Qa,Qb,Qc,Qd,Qe,Qf,Qg,Qh,reduceCtorEq,↓reduceIte,Na,Nb,Nc,Nk,Nf,Ng,Nh,Za,Zb,Zc,TT, e1, e3, e4, hd]
      refine acallk (within_calls u 1099511627776 _) ?_
      rintro r s' ⟨rfl, rfl⟩
      simp only [↓AXq_nil,↓AXq_cons,pval,DX,Nat.reduceBEq,↓DN,UP,DF,Qa,Qb,Qc,Qd,Qe,Qf,Qg,Qh,reduceCtorEq,↓reduceIte,Na,Nb,Nc,Nk,Nf,Ng,Nh,Za,Zb,Zc,TT, e1, e3, e4, hd]
      refine hK _ _ ?_;clear hK K
      refine awp_ret ?_
      simp only [retQ, AEnds, aresL, ares, List.toList_toArray, ↓upd_same]; try simp only [UP,DF,Nc,↓reduceIte,DT]
      refine ⟨_, s, AV.weak.refl _, AS.le_set (AS.le.refl s) ho _, ?_, rfl⟩
      rw [right_bool _ hh ww hw]
      simp only [hd, Bool.and_true, Bool.true_and, Bool.false_and, Bool.and_false]
    · refine wS fun K hK => ?_
      simp only [↓DN,UP,DF,Qa,Qb,Qc,Qd,Qe,Qf,Qg,Qh,reduceCtorEq,↓reduceIte,Na,Nb,Nc,Nk,Nf,Ng,Nh,Za,Zb,Zc,TT, e1, e3, e4, hd]
      refine acallk (within_calls e 1048576 _) ?_
      rintro r s' ⟨rfl, rfl⟩
      simp only [↓AXq_nil,↓AXq_cons,pval,DX,Nat.reduceBEq,↓DN,UP,DF,Qa,Qb,Qc,Qd,Qe,Qf,Qg,Qh,reduceCtorEq,↓reduceIte,Na,Nb,Nc,Nk,Nf,Ng,Nh,Za,Zb,Zc,TT, e1, e3, e4, hd]
      refine acallk (within_calls t 1099511627776 _) ?_
      rintro r s' ⟨rfl, rfl⟩
      simp only [↓AXq_nil,↓AXq_cons,pval,DX,Nat.reduceBEq,↓DN,UP,DF,Qa,Qb,Qc,Qd,Qe,Qf,Qg,Qh,reduceCtorEq,↓reduceIte,Na,Nb,Nc,Nk,Nf,Ng,Nh,Za,Zb,Zc,TT, e1, e3, e4, hd]
      refine acallk (within_calls u 1099511627776 _) ?_
      rintro r s' ⟨rfl, rfl⟩
      simp only [↓AXq_nil,↓AXq_cons,pval,DX,Nat.reduceBEq,↓DN,UP,DF,Qa,Qb,Qc,Qd,Qe,Qf,Qg,Qh,reduceCtorEq,↓reduceIte,Na,Nb,Nc,Nk,Nf,Ng,Nh,Za,Zb,Zc,TT, e1, e3, e4, hd]
      refine hK _ _ ?_;clear hK K
      refine awp_ret ?_
      simp only [retQ, AEnds, aresL, ares, List.toList_toArray, ↓upd_same]; try simp only [UP,DF,Nc,↓reduceIte,DT]
      refine ⟨_, s, AV.weak.refl _, AS.le_set (AS.le.refl s) ho _, ?_, rfl⟩
      rw [right_bool _ hh ww hw]
      simp only [hd, Bool.and_true, Bool.true_and, Bool.false_and, Bool.and_false]
    · refine wS fun K hK => ?_
      simp only [↓DN,UP,DF,Qa,Qb,Qc,Qd,Qe,Qf,Qg,Qh,reduceCtorEq,↓reduceIte,Na,Nb,Nc,Nk,Nf,Ng,Nh,Za,Zb,Zc,TT, e1, e3, e4, hd]
      refine acallk (within_calls e 1048576 _) ?_
      rintro r s' ⟨rfl, rfl⟩
      simp only [↓AXq_nil,↓AXq_cons,pval,DX,Nat.reduceBEq,↓DN,UP,DF,Qa,Qb,Qc,Qd,Qe,Qf,Qg,Qh,reduceCtorEq,↓reduceIte,Na,Nb,Nc,Nk,Nf,Ng,Nh,Za,Zb,Zc,TT, e1, e3, e4, hd]
      refine acallk (within_calls t 1099511627776 _) ?_
      rintro r s' ⟨rfl, rfl⟩
      simp only [↓AXq_nil,↓AXq_cons,pval,DX,Nat.reduceBEq,↓DN,UP,DF,Qa,Qb,Qc,Qd,Qe,Qf,Qg,Qh,reduceCtorEq,↓reduceIte,Na,Nb,Nc,Nk,Nf,Ng,Nh,Za,Zb,Zc,TT, e1, e3, e4, hd]
      refine acallk (within_calls u 1099511627776 _) ?_
      rintro r s' ⟨rfl, rfl⟩
      simp only [↓AXq_nil,↓AXq_cons,pval,DX,Nat.reduceBEq,↓DN,UP,DF,Qa,Qb,Qc,Qd,Qe,Qf,Qg,Qh,reduceCtorEq,↓reduceIte,Na,Nb,Nc,Nk,Nf,Ng,Nh,Za,Zb,Zc,TT, e1, e3, e4, hd]
      refine hK _ _ ?_;clear hK K
      refine awp_ret ?_
      simp only [retQ, AEnds, aresL, ares, List.toList_toArray, ↓upd_same]; try simp only [UP,DF,Nc,↓reduceIte,DT]
      refine ⟨_, s, AV.weak.refl _, AS.le_set (AS.le.refl s) ho _, ?_, rfl⟩
      rw [right_bool _ hh ww hw]
      simp only [hd, Bool.and_true, Bool.true_and, Bool.false_and, Bool.and_false]
  clear hK
  by_cases hk : k = 3
  · refine wS fun K hK => ?_
    simp only [↓DN,UP,DF,Qa,Qb,Qc,Qd,Qe,Qf,Qg,Qh,reduceCtorEq,↓reduceIte,Na,Nb,Nc,Nk,Nf,Ng,Nh,Za,Zb,Zc,TT, i64_eq_one3 k hk]
    refine hK _ _ ?_;clear hK K
    refine wC fun X Y hX hY => ?_
    simp only [↓DN,UP,DF,Qa,Qb,Qc,Qd,Qe,Qf,Qg,Qh,reduceCtorEq,↓reduceIte,Na,Nb,Nc,Nk,Nf,Ng,Nh,Za,Zb,Zc,TT, DB]
    refine hX ?_;clear hX hY X Y
    refine wE fun K hK => ?_
    simp only [↓DN,UP,DF,Qa,Qb,Qc,Qd,Qe,Qf,Qg,Qh,reduceCtorEq,↓reduceIte,Na,Nb,Nc,Nk,Nf,Ng,Nh,Za,Zb,Zc,TT]
    refine hK _ _ ?_;clear hK K
    simp only [blockQ, thenQ, if_true, if_false]
    exact hgo 0 0 (.inl ⟨hk, rfl, rfl⟩) _ (by simp only [upd, Nc, ↓reduceIte]) (by simp only [upd, Nc, ↓reduceIte]) (by simp only [upd, ↓reduceIte])
  · refine wS fun K hK => ?_
    simp only [↓DN,UP,DF,Qa,Qb,Qc,Qd,Qe,Qf,Qg,Qh,reduceCtorEq,↓reduceIte,Na,Nb,Nc,Nk,Nf,Ng,Nh,Za,Zb,Zc,TT, i64_ne_three k hk]
    refine hK _ _ ?_;clear hK K
    refine wC fun X Y hX hY => ?_
    simp only [↓DN,UP,DF,Qa,Qb,Qc,Qd,Qe,Qf,Qg,Qh,reduceCtorEq,↓reduceIte,Na,Nb,Nc,Nk,Nf,Ng,Nh,Za,Zb,Zc,TT, DB]
    refine hY ?_;clear hX hY X Y
    refine awp_skip ?_
    exact hgo 32 48 (.inr ⟨hk, rfl, rfl⟩) _ (by simp only [upd, Nc, ↓reduceIte]) (by simp only [upd, Nc, ↓reduceIte]) (by simp only [upd, Nc, ↓reduceIte])

set_option maxRecDepth 100000 in
set_option maxHeartbeats 4000000 in
theorem refRight12_calls (R : Rec) (s : AS) : ACalls Tryz.prog Γ 176 [.agg R.cells] s (fun r s' => r = .v (.bool (decide R.right)) ∧ s' = s) := by
  refine acalls_body Tryz.func176 rfl Tryz.ntmps176 Tryz.results176 (by simp) ?_
  unfold Rec.cells
  obtain ⟨k, g, e, t, u, y, tr, sc, wr⟩ := R
  refine wS fun K hK => ?_
  simp only [↓DN,UP,DF,Qa,Qb,Qc,Qd,Qe,Qf,Qg,Qh,reduceCtorEq,↓reduceIte,Na,Nb,Nc,Nk,Nf,Ng,Nh,Za,Zb,Zc,TT]
  intro o ho
  refine hK _ _ ?_;clear hK K
  refine wS fun K hK => ?_
  simp only [↓DN,UP,DF,Qa,Qb,Qc,Qd,Qe,Qf,Qg,Qh,reduceCtorEq,↓reduceIte,Na,Nb,Nc,Nk,Nf,Ng,Nh,Za,Zb,Zc,TT]
  refine hK _ _ ?_;clear hK K
  refine wK fun K hK => ?_
  have hgo : ∀ (hh ww : Int) (hw : (k = 3 ∧ hh = 0 ∧ ww = 0) ∨ (k ≠ 3 ∧ hh = 32 ∧ ww = 48)) (E1 : Env), E1 1 = .ptr o 0 → E1 3 = .v (.int .i64 hh) → E1 4 = .v (.int .i64 ww) → K E1 (s.set o [.v (.int .i64 k), .sl 1 g.length (g.map byteV) .any, .v (.int .i64 e), .v (.int .i64 t), .v (.int .i64 u), .sl 1 y.length (y.map byteV) .any, .sl 1 tr.length (tr.map byteV) .any, .sl 1 sc.length (sc.map byteV) .any, .sl 1 wr.length (wr.map byteV) .any]) := by
    intro hh ww hw E1 e1 e3 e4
    refine hK _ _ ?_;clear hK K
    refine wK fun K hK => ?_
    have hrb := right_bool ⟨k, g, e, t, u, y, tr, sc, wr⟩ hh ww hw
    simp only at hrb
    rcases tt6 (decide (k < 1)) (decide (3 < k)) (decide ((g.length : Int) < 1)) (decide (16 < (g.length : Int))) (decide (e < 0)) (decide (1048576 < e)) with hd | hd | hd | hd | hd | hd | hd
    case inr.inr.inr.inr.inr.inr =>
      refine wS fun K hK => ?_
      simp only [↓DN,UP,DF,Qa,Qb,Qc,Qd,Qe,Qf,Qg,Qh,reduceCtorEq,↓reduceIte,Na,Nb,Nc,Nk,Nf,Ng,Nh,Za,Zb,Zc,TT, e1, hd]
      refine hK _ _ ?_;clear hK K
      refine wC fun X Y hX hY => ?_
      simp only [↓DN,UP,DF,Qa,Qb,Qc,Qd,Qe,Qf,Qg,Qh,reduceCtorEq,↓reduceIte,Na,Nb,Nc,Nk,Nf,Ng,Nh,Za,Zb,Zc,TT, DB]
      refine hY ?_;clear hX hY X Y
      refine awp_skip ?_
      refine hK _ _ ?_;clear hK K
      refine wK fun K hK => ?_
      rcases tt5 (decide (t < 0)) (decide (1099511627776 < t)) (decide (u < 0)) (decide (1099511627776 < u)) (decide (60000 < (y.length : Int))) with he | he | he | he | he | he
      case inr.inr.inr.inr.inr =>
        refine wS fun K hK => ?_
        simp only [↓DN,UP,DF,Qa,Qb,Qc,Qd,Qe,Qf,Qg,Qh,reduceCtorEq,↓reduceIte,Na,Nb,Nc,Nk,Nf,Ng,Nh,Za,Zb,Zc,TT, e1, he]
        refine hK _ _ ?_;clear hK K
        refine wC fun X Y hX hY => ?_
        simp only [↓DN,UP,DF,Qa,Qb,Qc,Qd,Qe,Qf,Qg,Qh,reduceCtorEq,↓reduceIte,Na,Nb,Nc,Nk,Nf,Ng,Nh,Za,Zb,Zc,TT, DB]
        refine hY ?_;clear hX hY X Y
        refine awp_skip ?_
        refine hK _ _ ?_;clear hK K
        rcases ff3 ((tr.length : Int) == hh) ((sc.length : Int) == hh) ((wr.length : Int) == ww) with hf | hf | hf | hf
        all_goals
          refine wS fun K hK => ?_
          simp only [↓DN,UP,DF,Qa,Qb,Qc,Qd,Qe,Qf,Qg,Qh,reduceCtorEq,↓reduceIte,Na,Nb,Nc,Nk,Nf,Ng,Nh,Za,Zb,Zc,TT, e1, e3, e4, hf]
          refine hK _ _ ?_;clear hK K
          refine awp_ret ?_
          simp only [retQ, AEnds, aresL, ares, List.toList_toArray, ↓upd_same]; try simp only [UP,DF,Nc,↓reduceIte,DT]
          refine ⟨_, s, AV.weak.refl _, AS.le_set (AS.le.refl s) ho _, ?_, rfl⟩
          rw [hrb]
          simp only [decide_eq_false_iff_not] at hd he
          simp only [hf, Bool.and_true, Bool.and_false, Bool.true_and, Bool.false_and, show decide (1 ≤ k) = true from decide_eq_true (by omega), show decide (k ≤ 3) = true from decide_eq_true (by omega), show decide (1 ≤ (g.length : Int)) = true from decide_eq_true (by omega), show decide ((g.length : Int) ≤ 16) = true from decide_eq_true (by omega), show decide (0 ≤ e) = true from decide_eq_true (by omega), show decide (e ≤ 1048576) = true from decide_eq_true (by omega),
            show decide (0 ≤ t) = true from decide_eq_true (by omega), show decide (t ≤ 1099511627776) = true from decide_eq_true (by omega), show decide (0 ≤ u) = true from decide_eq_true (by omega), show decide (u ≤ 1099511627776) = true from decide_eq_true (by omega), show decide ((y.length : Int) ≤ 60000) = true from decide_eq_true (by omega)]
      all_goals
        refine wS fun K hK => ?_
        simp only [↓DN,UP,DF,Qa,Qb,Qc,Qd,Qe,Qf,Qg,Qh,reduceCtorEq,↓reduceIte,Na,Nb,Nc,Nk,Nf,Ng,Nh,Za,Zb,Zc,TT, e1, he]
        refine hK _ _ ?_;clear hK K
        refine wC fun X Y hX hY => ?_
        simp only [↓DN,UP,DF,Qa,Qb,Qc,Qd,Qe,Qf,Qg,Qh,reduceCtorEq,↓reduceIte,Na,Nb,Nc,Nk,Nf,Ng,Nh,Za,Zb,Zc,TT, DB]
        refine hX ?_;clear hX hY X Y
        refine wS fun K hK => ?_
        simp only [↓DN,UP,DF,Qa,Qb,Qc,Qd,Qe,Qf,Qg,Qh,reduceCtorEq,↓reduceIte,Na,Nb,Nc,Nk,Nf,Ng,Nh,Za,Zb,Zc,TT]
        refine hK _ _ ?_;clear hK K
        refine awp_ret ?_
        simp only [retQ, AEnds, aresL, ares, List.toList_toArray, ↓upd_same]; try simp only [UP,DF,Nc,↓reduceIte,DT]
        refine ⟨_, s, AV.weak.refl _, AS.le_set (AS.le.refl s) ho _, ?_, rfl⟩
        have hF : decide (Rec.right ⟨k, g, e, t, u, y, tr, sc, wr⟩) = false := decide_eq_false fun hr => by
          have hr' := hr.facts
          simp only at hr'
          simp only [decide_eq_false_iff_not, decide_eq_true_eq] at he
          omega
        rw [hF]
        try rfl
    all_goals
      refine wS fun K hK => ?_
      simp only [↓DN,UP,DF,Qa,Qb,Qc,Qd,Qe,Qf,Qg,Qh,reduceCtorEq,↓reduceIte,Na,Nb,Nc,Nk,Nf,Ng,Nh,Za,Zb,Zc,TT, e1, hd]
      refine hK _ _ ?_;clear hK K
      refine wC fun X Y hX hY => ?_
      simp only [↓DN,UP,DF,Qa,Qb,Qc,Qd,Qe,Qf,Qg,Qh,reduceCtorEq,↓reduceIte,Na,Nb,Nc,Nk,Nf,Ng,Nh,Za,Zb,Zc,TT, DB]
      refine hX ?_;clear hX hY X Y
      refine wS fun K hK => ?_
      simp only [↓DN,UP,DF,Qa,Qb,Qc,Qd,Qe,Qf,Qg,Qh,reduceCtorEq,↓reduceIte,Na,Nb,Nc,Nk,Nf,Ng,Nh,Za,Zb,Zc,TT]
      refine hK _ _ ?_;clear hK K
      refine awp_ret ?_
      simp only [retQ, AEnds, aresL, ares, List.toList_toArray, ↓upd_same]; try simp only [UP,DF,Nc,↓reduceIte,DT]
      refine ⟨_, s, AV.weak.refl _, AS.le_set (AS.le.refl s) ho _, ?_, rfl⟩
      have hF : decide (Rec.right ⟨k, g, e, t, u, y, tr, sc, wr⟩) = false := decide_eq_false fun hr => by
        have hr' := hr.facts
        simp only at hr'
        simp only [decide_eq_false_iff_not, decide_eq_true_eq] at hd
        omega
      rw [hF]
      try rfl
  clear hK
  by_cases hk : k = 3
  · refine wS fun K hK => ?_
    simp only [↓DN,UP,DF,Qa,Qb,Qc,Qd,Qe,Qf,Qg,Qh,reduceCtorEq,↓reduceIte,Na,Nb,Nc,Nk,Nf,Ng,Nh,Za,Zb,Zc,TT, i64_eq_one3 k hk]
    refine hK _ _ ?_;clear hK K
    refine wC fun X Y hX hY => ?_
    simp only [↓DN,UP,DF,Qa,Qb,Qc,Qd,Qe,Qf,Qg,Qh,reduceCtorEq,↓reduceIte,Na,Nb,Nc,Nk,Nf,Ng,Nh,Za,Zb,Zc,TT, DB]
    refine hX ?_;clear hX hY X Y
    refine wS fun K hK => ?_
    simp only [↓DN,UP,DF,Qa,Qb,Qc,Qd,Qe,Qf,Qg,Qh,reduceCtorEq,↓reduceIte,Na,Nb,Nc,Nk,Nf,Ng,Nh,Za,Zb,Zc,TT]
    refine hK _ _ ?_;clear hK K
    refine wE fun K hK => ?_
    simp only [↓DN,UP,DF,Qa,Qb,Qc,Qd,Qe,Qf,Qg,Qh,reduceCtorEq,↓reduceIte,Na,Nb,Nc,Nk,Nf,Ng,Nh,Za,Zb,Zc,TT]
    refine hK _ _ ?_;clear hK K
    simp only [blockQ, thenQ, if_true, if_false]
    exact hgo 0 0 (.inl ⟨hk, rfl, rfl⟩) _ (by simp only [upd, Nc, ↓reduceIte]) (by simp only [upd, Nc, ↓reduceIte]) (by simp only [upd, ↓reduceIte])
  · refine wS fun K hK => ?_
    simp only [↓DN,UP,DF,Qa,Qb,Qc,Qd,Qe,Qf,Qg,Qh,reduceCtorEq,↓reduceIte,Na,Nb,Nc,Nk,Nf,Ng,Nh,Za,Zb,Zc,TT, i64_ne_three k hk]
    refine hK _ _ ?_;clear hK K
    refine wC fun X Y hX hY => ?_
    simp only [↓DN,UP,DF,Qa,Qb,Qc,Qd,Qe,Qf,Qg,Qh,reduceCtorEq,↓reduceIte,Na,Nb,Nc,Nk,Nf,Ng,Nh,Za,Zb,Zc,TT, DB]
    refine hY ?_;clear hX hY X Y
    refine awp_skip ?_
    exact hgo 32 48 (.inr ⟨hk, rfl, rfl⟩) _ (by simp only [upd, Nc, ↓reduceIte]) (by simp only [upd, Nc, ↓reduceIte]) (by simp only [upd, Nc, ↓reduceIte])

end Go.Proofs.YtoagkleecgngdaaGreatDoor


set_option autoImplicit false
namespace Go.Proofs.YtoagkleecgngdaaGreatDoor
open Go Go.AM Go.Proofs



variable {Γ : Nat → List AV}



theorem open_set (l : List UInt8) (s : AS) (hl : l.length ≤ 2 ^ 45) : ACalls Tryz.prog Γ 62 [bytesV l .any] s (fun r s' => ∃ p, s.objs p = none ∧ r = .ptr p 0 ∧ s' = s.set p (eyeC (l, 0))) := EyeS.open (open_calls l s hl)
theorem eyeU8_set (s : AS) (p : Nat) (st : EyeSt) (h : s.objs p = some (eyeC st)) : ACalls Tryz.prog Γ 154 [.ptr p 0] s (fun r s' => r = .v (.int .i64 (eyeNum 1 st).1) ∧ s' = s.set p (eyeC (eyeNum 1 st).2)) := EyeS.call (eyeU8_calls _ s p st (EyeS.at h))
theorem eyeU64_set (s : AS) (p : Nat) (st : EyeSt) (h : s.objs p = some (eyeC st)) : ACalls Tryz.prog Γ 64 [.ptr p 0] s (fun r s' => r = .v (.int .u64 (eyeNum 8 st).1) ∧ s' = s.set p (eyeC (eyeNum 8 st).2)) := EyeS.call (eyeU64_calls _ s p st (EyeS.at h))
theorem eyeShort_set (s : AS) (p : Nat) (st : EyeSt) (most : Int) (hl : st.1.length ≤ 2 ^ 45) (h : s.objs p = some (eyeC st)) : ACalls Tryz.prog Γ 63 [.ptr p 0, .v (.int .i64 most)] s (fun r s' => r = bytesV (eyeText 1 most st).1 .any ∧ s' = s.set p (eyeC (eyeText 1 most st).2)) := EyeS.call (eyeShort_calls _ s p st most hl (EyeS.at h))
theorem eyeLong_set (s : AS) (p : Nat) (st : EyeSt) (most : Int) (hl : st.1.length ≤ 2 ^ 45) (h : s.objs p = some (eyeC st)) : ACalls Tryz.prog Γ 173 [.ptr p 0, .v (.int .i64 most)] s (fun r s' => r = bytesV (eyeText 2 most st).1 .any ∧ s' = s.set p (eyeC (eyeText 2 most st).2)) := EyeS.call (eyeLong_calls _ s p st most hl (EyeS.at h))
theorem eyeEnd_at (s : AS) (p : Nat) (st : EyeSt) (h : s.objs p = some (eyeC st)) : ACalls Tryz.prog Γ 66 [.ptr p 0] s (fun r s' => r = .v (.int .i64 (eyeEnd st)) ∧ s' = s) := eyeEnd_calls _ s p st (EyeS.at h)
theorem reyeNumber_set (s : AS) (p : Nat) (st : EyeSt) (size : Nat) (hs : size ≤ 8) (hl : st.1.length < 2 ^ 61) (h : s.objs p = some (reyeC st)) : ACalls Tryz.prog Γ 68 [.ptr p 0, .v (.int .i64 size)] s (fun r s' => r = .v (.int .u64 (eyeNum size st).1) ∧ s' = s.set p (reyeC (eyeNum size st).2)) := REyeS.call (reyeNumber_calls _ s p st size hs hl (REyeS.at h))
theorem reyeText_set (s : AS) (p : Nat) (st : EyeSt) (size : Nat) (most : Int) (hs : size ≤ 7) (hl : st.1.length < 2 ^ 61) (h : s.objs p = some (reyeC st)) : ACalls Tryz.prog Γ 67 [.ptr p 0, .v (.int .i64 size), .v (.int .i64 most)] s (fun r s' => r = .v (.string ⟨(eyeText size most st).1.toArray⟩) ∧ s' = s.set p (reyeC (eyeText size most st).2)) := REyeS.call (reyeText_calls _ s p st size most hs hl (REyeS.at h))
theorem reyeEnd_at (s : AS) (p : Nat) (st : EyeSt) (h : s.objs p = some (reyeC st)) : ACalls Tryz.prog Γ 70 [.ptr p 0] s (fun r s' => r = .v (.int .i64 (eyeEnd st)) ∧ s' = s) := reyeEnd_calls _ s p st (REyeS.at h)

end Go.Proofs.YtoagkleecgngdaaGreatDoor


