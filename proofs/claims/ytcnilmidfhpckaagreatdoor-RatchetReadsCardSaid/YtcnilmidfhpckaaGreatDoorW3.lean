/- Contracts of the program's functions, each walked once; the conditions stand in each theorem. -/
import Derived.Test.YtcnilmidfhpckaaGreatDoorAMp6
import Derived.Test.YtcnilmidfhpckaaGreatDoorW1
import Derived.Test.YtcnilmidfhpckaaGreatDoorW2
import Derived.Test.YtcnilmidfhpckaaGreatDoorAMp4
import Derived.Test.YtcnilmidfhpckaaGreatDoorAMp3
import Derived.Test.YtcnilmidfhpckaaGreatDoorAMp5
set_option linter.unusedSimpArgs false
set_option linter.unusedVariables false
open Nat renaming reduceLT → Na, reduceLeDiff → Nb, reduceEqDiff → Nc, reduceAdd → Nk, reduceMul → Nf, reducePow → Ng, reduceSub → Nh
open Int renaming reduceLT → Za, reduceLE → Zb, reduceToNat → Zc
open Go.AM renaming ashift → Qa, aconv → Qb, aindexAddr → Qc, aindex → Qd, aslice → Qe, abuiltin → Qf, awp_reg_seq → wS, awp_reg_end → wE, awp_seq_k → wK, awp_cond_k → wC
open Go.AM.AV renaming cells → Qg, one → Qh
set_option autoImplicit false
namespace Go.Proofs.YtcnilmidfhpckaaGreatDoor
open Go Go.AM Go.Proofs


variable {Γ : Nat → List AV}

theorem n256 : ((256 : Int) = 0) = False := by simp
theorem num_byte (q : Nat) : iconv .u8 (irem (q : Int) 256) = ((UInt8.ofNat q).toNat : Int) := by
  rw [show (256 : Int) = ((256 : Nat) : Int) from rfl, irem_u, iconv_u rfl]
  simp [IntKind.bits]
theorem num_quo (n i : Nat) (h : n < 2 ^ 64) : iquo .u64 ((n / 256 ^ i : Nat) : Int) 256 = ((n / 256 ^ (i + 1) : Nat) : Int) := by
  have hq : n / 256 ^ i < 2 ^ IntKind.u64.bits := Nat.lt_of_le_of_lt (Nat.div_le_self _ _) h
  have := iquo_u (k := .u64) rfl (n / 256 ^ i) 256 hq
  rw [show (256 : Int) = ((256 : Nat) : Int) from rfl, this, Nat.div_div_eq_div_mul, Nat.pow_succ]
theorem byte_one (c : UInt8) : toBytes [AV.v (.int .u8 (c.toNat : Int))] = ByteArray.mk [c].toArray := toBytes_map [c]
theorem byte_is (c : UInt8) : isByte (AV.v (.int .u8 (c.toNat : Int))) = true := rfl

set_option maxHeartbeats 1000000 in
theorem refNumber_calls (n size : Nat) (hn : n < 2 ^ 64) (hs : size ≤ 8) (s : AS) :
    ACalls Tryz.prog Γ 44 [.v (.int .u64 n), .v (.int .i64 size)] s (fun r s' => r = .v (.string ⟨(be size n).toArray⟩) ∧ s' = s) := by
  refine acalls_body Tryz.func44 rfl Tryz.ntmps44 Tryz.results44 (by simp) ?_
  refine wS fun K hK => ?_
  simp only [↓DN,UP,DF,Qa,Qb,Qc,Qd,Qe,Qf,Qg,Qh,reduceCtorEq,↓reduceIte,Na,Nb,Nc,Nk,Nf,Ng,Nh,Za,Zb,Zc,TT]
  refine hK _ _ ?_;clear hK K
  refine wS fun K hK => ?_
  simp only [↓DN,UP,DF,Qa,Qb,Qc,Qd,Qe,Qf,Qg,Qh,reduceCtorEq,↓reduceIte,Na,Nb,Nc,Nk,Nf,Ng,Nh,Za,Zb,Zc,TT]
  refine hK _ _ ?_;clear hK K
  refine wK fun K hK => ?_
  refine wS fun K hK => ?_
  simp only [↓DN,UP,DF,Qa,Qb,Qc,Qd,Qe,Qf,Qg,Qh,reduceCtorEq,↓reduceIte,Na,Nb,Nc,Nk,Nf,Ng,Nh,Za,Zb,Zc,TT]
  refine hK _ _ ?_;clear hK K
  refine awp_block ?_
  refine awp_loop (fun E s1 => ∃ i : Nat, i ≤ size ∧ E 6 = .v (.int .i64 i) ∧ E 1 = .v (.int .i64 size) ∧ E 0 = .v (.int .u64 (n / 256 ^ i : Nat)) ∧ E 5 = .v (.string ⟨(be i n).toArray⟩) ∧ s1 = s)
    (fun E _ => match E 6 with | .v (.int _ i) => size - i.toNat | _ => 0) ?_ ?_
  · exact ⟨0, Nat.zero_le _, by simp [upd], by simp [upd, initE], by simp [upd, initE], by simp [upd, be], rfl⟩
  · rintro E1 s1 ⟨i, hi, h6, h1, h0, h5, rfl⟩ -
    refine wK fun K2 hK2 => ?_
    by_cases hi' : i < size
    · refine wS fun K hK => ?_
      simp only [↓DN,UP,DF,Qa,Qb,Qc,Qd,Qe,Qf,Qg,Qh,reduceCtorEq,↓reduceIte,Na,Nb,Nc,Nk,Nf,Ng,Nh,Za,Zb,Zc,TT, h6, h1, eye_lt_nat, decide_eq_true hi']
      refine hK _ _ ?_;clear hK K
      refine wC fun X Y hX hY => ?_
      simp only [↓DN,UP,DF,Qa,Qb,Qc,Qd,Qe,Qf,Qg,Qh,reduceCtorEq,↓reduceIte,Na,Nb,Nc,Nk,Nf,Ng,Nh,Za,Zb,Zc,TT, DB]
      refine hX ?_;clear hX hY X Y
      refine awp_skip ?_
      refine hK2 _ _ ?_;clear hK2 K2
      refine wK fun K3 hK3 => ?_
      refine awp_block ?_
      refine wS fun K hK => ?_
      simp only [↓DN,UP,DF,Qa,Qb,Qc,Qd,Qe,Qf,Qg,Qh,reduceCtorEq,↓reduceIte,Na,Nb,Nc,Nk,Nf,Ng,Nh,Za,Zb,Zc,TT, h0, h5, n256, num_byte, byte_one, byte_is, List.replicate_succ, bs_size, bs_append, length_be, i64_room (show 1 + i < 2 ^ 62 by omega)]
      refine hK _ _ ?_;clear hK K
      refine wE fun K hK => ?_
      simp only [↓DN,UP,DF,Qa,Qb,Qc,Qd,Qe,Qf,Qg,Qh,reduceCtorEq,↓reduceIte,Na,Nb,Nc,Nk,Nf,Ng,Nh,Za,Zb,Zc,TT, h0, n256, num_quo n i hn]
      refine hK _ _ ?_;clear hK K
      simp only [blockQ, thenQ, if_true, if_false]
      refine hK3 _ _ ?_;clear hK3 K3
      refine wE fun K hK => ?_
      simp only [↓DN,UP,DF,Qa,Qb,Qc,Qd,Qe,Qf,Qg,Qh,reduceCtorEq,↓reduceIte,Na,Nb,Nc,Nk,Nf,Ng,Nh,Za,Zb,Zc,TT, h6, eye_succ i (by omega)]
      refine hK _ _ ?_;clear hK K
      refine ⟨⟨i + 1, by omega, by simp only [upd, ↓reduceIte], by simp only [upd, h1, Nc, ↓reduceIte], by simp only [upd, Nc, ↓reduceIte], ?_, rfl⟩, ?_⟩
      · simp only [upd, Nc, ↓reduceIte, be, show 2 ^ (8 * i) = 256 ^ i from by rw [Nat.pow_mul]]
      · simp only [h6, upd, ↓reduceIte]
        omega
    · refine wS fun K hK => ?_
      simp only [↓DN,UP,DF,Qa,Qb,Qc,Qd,Qe,Qf,Qg,Qh,reduceCtorEq,↓reduceIte,Na,Nb,Nc,Nk,Nf,Ng,Nh,Za,Zb,Zc,TT, h6, h1, eye_lt_nat, decide_eq_false hi']
      refine hK _ _ ?_;clear hK K
      refine wC fun X Y hX hY => ?_
      simp only [↓DN,UP,DF,Qa,Qb,Qc,Qd,Qe,Qf,Qg,Qh,reduceCtorEq,↓reduceIte,Na,Nb,Nc,Nk,Nf,Ng,Nh,Za,Zb,Zc,TT, DB]
      refine hY ?_;clear hX hY X Y
      refine awp_exit ?_
      simp only [thenQ, blockQ, if_true]
      refine hK _ _ ?_;clear hK hK2 K K2
      refine wS fun K hK => ?_
      simp only [↓DN,UP,DF,Qa,Qb,Qc,Qd,Qe,Qf,Qg,Qh,reduceCtorEq,↓reduceIte,Na,Nb,Nc,Nk,Nf,Ng,Nh,Za,Zb,Zc,TT, h5]
      refine hK _ _ ?_;clear hK K
      refine awp_ret ?_
      simp only [retQ, AEnds, aresL, ares, List.toList_toArray, ↓upd_same]; try simp only [UP,DF,Nc,↓reduceIte,DT]
      obtain rfl : i = size := by omega
      exact ⟨_, _, AV.weak.refl _, AS.le.refl _, rfl, rfl⟩

theorem u64_len (n : Nat) (h : n < 2 ^ 63) : iconv .u64 (n : Int) = n := iconv_u64_nat n (by omega)

set_option maxHeartbeats 400000 in
theorem refText_calls (l : List UInt8) (size : Nat) (hl : l.length < 2 ^ 61) (hs : size ≤ 8) (s : AS) :
    ACalls Tryz.prog Γ 88 [.v (.string ⟨l.toArray⟩), .v (.int .i64 size)] s (fun r s' => r = .v (.string ⟨(be size l.length ++ l).toArray⟩) ∧ s' = s) := by
  refine acalls_body Tryz.func88 rfl Tryz.ntmps88 Tryz.results88 (by simp) ?_
  refine wS fun K hK => ?_
  simp only [↓DN,UP,DF,Qa,Qb,Qc,Qd,Qe,Qf,Qg,Qh,reduceCtorEq,↓reduceIte,Na,Nb,Nc,Nk,Nf,Ng,Nh,Za,Zb,Zc,TT]
  refine hK _ _ ?_;clear hK K
  refine wS fun K hK => ?_
  simp only [↓DN,UP,DF,Qa,Qb,Qc,Qd,Qe,Qf,Qg,Qh,reduceCtorEq,↓reduceIte,Na,Nb,Nc,Nk,Nf,Ng,Nh,Za,Zb,Zc,TT, bs_size, u64_len l.length (by omega)]
  refine acallk (refNumber_calls l.length size (by omega) hs s) ?_
  rintro r s' ⟨rfl, rfl⟩
  simp only [↓AXq_nil,↓AXq_cons,pval,DX,Nat.reduceBEq,↓DN,UP,DF,Qa,Qb,Qc,Qd,Qe,Qf,Qg,Qh,reduceCtorEq,↓reduceIte,Na,Nb,Nc,Nk,Nf,Ng,Nh,Za,Zb,Zc,TT, bs_size, bs_append, length_be, i64_room (show size + l.length < 2 ^ 62 by omega)]
  refine hK _ _ ?_;clear hK K
  refine awp_ret ?_
  simp only [retQ, AEnds, aresL, ares, List.toList_toArray, ↓upd_same]; try simp only [UP,DF,Nc,↓reduceIte,DT]
  exact ⟨_, _, AV.weak.refl _, AS.le.refl _, rfl, rfl⟩

theorem val_step (y : Nat) (c : UInt8) (h : y < 2 ^ 56) : iadd .u64 (imul .u64 (y : Int) 256) (iconv .u64 (c.toNat : Int)) = ((y * 256 + c.toNat : Nat) : Int) := by
  have hc := c.toNat_lt
  rw [iconv_u64_nat _ (by omega), show (256 : Int) = ((256 : Nat) : Int) from rfl, imul_u rfl, Nat.mod_eq_of_lt (by simp only [IntKind.bits]; omega), iadd_u rfl, Nat.mod_eq_of_lt (by simp only [IntKind.bits]; omega)]

set_option maxHeartbeats 1000000 in
theorem value_calls (l : List UInt8) (hl : l.length ≤ 8) (s : AS) :
    ACalls Tryz.prog Γ 92 [.v (.string ⟨l.toArray⟩)] s (fun r s' => r = .v (.int .u64 (beNat l)) ∧ s' = s) := by
  refine acalls_body Tryz.func92 rfl Tryz.ntmps92 Tryz.results92 (by simp) ?_
  refine wS fun K hK => ?_
  simp only [↓DN,UP,DF,Qa,Qb,Qc,Qd,Qe,Qf,Qg,Qh,reduceCtorEq,↓reduceIte,Na,Nb,Nc,Nk,Nf,Ng,Nh,Za,Zb,Zc,TT]
  refine hK _ _ ?_;clear hK K
  refine wS fun K hK => ?_
  simp only [↓DN,UP,DF,Qa,Qb,Qc,Qd,Qe,Qf,Qg,Qh,reduceCtorEq,↓reduceIte,Na,Nb,Nc,Nk,Nf,Ng,Nh,Za,Zb,Zc,TT]
  refine hK _ _ ?_;clear hK K
  refine wK fun K hK => ?_
  refine wS fun K hK => ?_
  simp only [↓DN,UP,DF,Qa,Qb,Qc,Qd,Qe,Qf,Qg,Qh,reduceCtorEq,↓reduceIte,Na,Nb,Nc,Nk,Nf,Ng,Nh,Za,Zb,Zc,TT]
  refine hK _ _ ?_;clear hK K
  refine awp_block ?_
  refine awp_loop (fun E s1 => ∃ i x : Nat, i ≤ l.length ∧ E 0 = .v (.string ⟨l.toArray⟩) ∧ E 4 = .v (.int .i64 i) ∧ E 3 = .v (.int .u64 x) ∧ x = beNat (l.take i) ∧ s1 = s)
    (fun E _ => match E 4 with | .v (.int _ i) => l.length - i.toNat | _ => 0) ?_ ?_
  · exact ⟨0, 0, Nat.zero_le _, by simp [upd, initE], by simp [upd], by simp [upd], by simp [beNat], rfl⟩
  · rintro E1 s1 ⟨i, x, hi, h0, h4, h3, hx, rfl⟩ -
    refine wK fun K2 hK2 => ?_
    by_cases hi' : i < l.length
    · have hx2 : beNat (l.take (i + 1)) = x * 256 + l[i].toNat := by rw [List.take_succ_eq_append_getElem hi', beNat_snoc, ← hx]
      have hx7 : x < 2 ^ 56 := by
        rw [hx]
        refine Nat.lt_of_lt_of_le (beNat_take_lt l i) ?_
        rw [show (2 : Nat) ^ 56 = 256 ^ 7 from by decide]
        exact Nat.pow_le_pow_right (by decide) (by omega)
      have hgi : (0 : Int) ≤ (i : Int) := by omega
      have hget := bs_get l i hi'
      generalize hcc : l[i] = c at *
      refine wS fun K hK => ?_
      simp only [↓DN,UP,DF,Qa,Qb,Qc,Qd,Qe,Qf,Qg,Qh,reduceCtorEq,↓reduceIte,Na,Nb,Nc,Nk,Nf,Ng,Nh,Za,Zb,Zc,TT, h0, h4, bs_size, eye_lt_nat, decide_eq_true hi']
      refine hK _ _ ?_;clear hK K
      refine wC fun X Y hX hY => ?_
      simp only [↓DN,UP,DF,Qa,Qb,Qc,Qd,Qe,Qf,Qg,Qh,reduceCtorEq,↓reduceIte,Na,Nb,Nc,Nk,Nf,Ng,Nh,Za,Zb,Zc,TT, DB]
      refine hX ?_;clear hX hY X Y
      refine awp_skip ?_
      refine hK2 _ _ ?_;clear hK2 K2
      refine wK fun K3 hK3 => ?_
      refine awp_block ?_
      refine wE fun K hK => ?_
      simp only [↓DN,UP,DF,Qa,Qb,Qc,Qd,Qe,Qf,Qg,Qh,reduceCtorEq,↓reduceIte,Na,Nb,Nc,Nk,Nf,Ng,Nh,Za,Zb,Zc,TT, h0, h4, h3, hgi, hget, byteV, val_step x c hx7]
      refine hK _ _ ?_;clear hK K
      simp only [blockQ, thenQ, if_true, if_false]
      refine hK3 _ _ ?_;clear hK3 K3
      refine wE fun K hK => ?_
      simp only [↓DN,UP,DF,Qa,Qb,Qc,Qd,Qe,Qf,Qg,Qh,reduceCtorEq,↓reduceIte,Na,Nb,Nc,Nk,Nf,Ng,Nh,Za,Zb,Zc,TT, h4, eye_succ i (by omega)]
      refine hK _ _ ?_;clear hK K
      refine ⟨⟨i + 1, _, by omega, by simp only [upd, h0, Nc, ↓reduceIte], by simp only [upd, ↓reduceIte], by simp only [upd, Nc, ↓reduceIte], hx2.symm, rfl⟩, ?_⟩
      simp only [h4, upd, ↓reduceIte]
      omega
    · refine wS fun K hK => ?_
      simp only [↓DN,UP,DF,Qa,Qb,Qc,Qd,Qe,Qf,Qg,Qh,reduceCtorEq,↓reduceIte,Na,Nb,Nc,Nk,Nf,Ng,Nh,Za,Zb,Zc,TT, h0, h4, bs_size, eye_lt_nat, decide_eq_false hi']
      refine hK _ _ ?_;clear hK K
      refine wC fun X Y hX hY => ?_
      simp only [↓DN,UP,DF,Qa,Qb,Qc,Qd,Qe,Qf,Qg,Qh,reduceCtorEq,↓reduceIte,Na,Nb,Nc,Nk,Nf,Ng,Nh,Za,Zb,Zc,TT, DB]
      refine hY ?_;clear hX hY X Y
      refine awp_exit ?_
      simp only [thenQ, blockQ, if_true]
      refine hK _ _ ?_;clear hK hK2 K K2
      refine wS fun K hK => ?_
      simp only [↓DN,UP,DF,Qa,Qb,Qc,Qd,Qe,Qf,Qg,Qh,reduceCtorEq,↓reduceIte,Na,Nb,Nc,Nk,Nf,Ng,Nh,Za,Zb,Zc,TT, h3]
      refine hK _ _ ?_;clear hK K
      refine awp_ret ?_
      simp only [retQ, AEnds, aresL, ares, List.toList_toArray, ↓upd_same]; try simp only [UP,DF,Nc,↓reduceIte,DT]
      refine ⟨_, _, AV.weak.refl _, AS.le.refl _, ?_, rfl⟩
      rw [hx, List.take_of_length_le (by omega)]

end Go.Proofs.YtcnilmidfhpckaaGreatDoor


set_option autoImplicit false
namespace Go.Proofs.YtcnilmidfhpckaaGreatDoor
open Go Go.AM Go.Proofs


variable {Γ : Nat → List AV}



set_option maxHeartbeats 1000000 in
theorem reyeNumber_calls (s0 s : AS) (p : Nat) (st : EyeSt) (size : Nat) (hs : size ≤ 8) (hl : st.1.length < 2 ^ 61) (h : REyeS s0 s p st) :
    ACalls Tryz.prog Γ 52 [.ptr p 0, .v (.int .i64 size)] s (fun r s' => r = .v (.int .u64 (eyeNum size st).1) ∧ REyeS s0 s' p (eyeNum size st).2) := by
  refine acalls_body Tryz.func52 rfl Tryz.ntmps52 Tryz.results52 (by simp) ?_
  have hx := h.obj
  obtain ⟨l, er⟩ := st
  simp only at hx hl
  refine wS fun K hK => ?_
  simp only [↓DN,UP,DF,Qa,Qb,Qc,Qd,Qe,Qf,Qg,Qh,reduceCtorEq,↓reduceIte,Na,Nb,Nc,Nk,Nf,Ng,Nh,Za,Zb,Zc,TT]
  refine hK _ _ ?_;clear hK K
  refine wK fun K hK => ?_
  by_cases h0 : er = 0
  · subst h0
    refine wS fun K hK => ?_
    simp only [↓DN,UP,DF,Qa,Qb,Qc,Qd,Qe,Qf,Qg,Qh,reduceCtorEq,↓reduceIte,Na,Nb,Nc,Nk,Nf,Ng,Nh,Za,Zb,Zc,TT, hx, i64_ne_false 0 rfl]
    refine hK _ _ ?_;clear hK K
    refine wC fun X Y hX hY => ?_
    simp only [↓DN,UP,DF,Qa,Qb,Qc,Qd,Qe,Qf,Qg,Qh,reduceCtorEq,↓reduceIte,Na,Nb,Nc,Nk,Nf,Ng,Nh,Za,Zb,Zc,TT, DB]
    refine hY ?_;clear hX hY X Y
    refine awp_skip ?_
    refine hK _ _ ?_;clear hK K
    refine wK fun K hK => ?_
    by_cases h1 : l.length < size
    · refine wS fun K hK => ?_
      simp only [↓DN,UP,DF,Qa,Qb,Qc,Qd,Qe,Qf,Qg,Qh,reduceCtorEq,↓reduceIte,Na,Nb,Nc,Nk,Nf,Ng,Nh,Za,Zb,Zc,TT, hx, bs_size, eye_lt_nat, decide_eq_true h1]
      refine hK _ _ ?_;clear hK K
      refine wC fun X Y hX hY => ?_
      simp only [↓DN,UP,DF,Qa,Qb,Qc,Qd,Qe,Qf,Qg,Qh,reduceCtorEq,↓reduceIte,Na,Nb,Nc,Nk,Nf,Ng,Nh,Za,Zb,Zc,TT, DB]
      refine hX ?_;clear hX hY X Y
      refine wS fun K hK => ?_
      simp only [↓DN,UP,DF,Qa,Qb,Qc,Qd,Qe,Qf,Qg,Qh,reduceCtorEq,↓reduceIte,Na,Nb,Nc,Nk,Nf,Ng,Nh,Za,Zb,Zc,TT, hx]
      refine hK _ _ ?_;clear hK K
      refine wS fun K hK => ?_
      simp only [↓DN,UP,DF,Qa,Qb,Qc,Qd,Qe,Qf,Qg,Qh,reduceCtorEq,↓reduceIte,Na,Nb,Nc,Nk,Nf,Ng,Nh,Za,Zb,Zc,TT]
      refine hK _ _ ?_;clear hK K
      refine awp_ret ?_
      simp only [retQ, AEnds, aresL, ares, List.toList_toArray, ↓upd_same]; try simp only [UP,DF,Nc,↓reduceIte,DT]
      rw [eyeNum_short h1]
      exact ⟨_, _, AV.weak.refl _, AS.le.refl _, rfl, h.put⟩
    · have h1' : size ≤ l.length := by omega
      have hle : (size : Int) ≤ (l.length : Int) := by omega
      have hge : (0 : Int) ≤ (size : Int) := by omega
      refine wS fun K hK => ?_
      simp only [↓DN,UP,DF,Qa,Qb,Qc,Qd,Qe,Qf,Qg,Qh,reduceCtorEq,↓reduceIte,Na,Nb,Nc,Nk,Nf,Ng,Nh,Za,Zb,Zc,TT, hx, bs_size, eye_lt_nat, decide_eq_false h1]
      refine hK _ _ ?_;clear hK K
      refine wC fun X Y hX hY => ?_
      simp only [↓DN,UP,DF,Qa,Qb,Qc,Qd,Qe,Qf,Qg,Qh,reduceCtorEq,↓reduceIte,Na,Nb,Nc,Nk,Nf,Ng,Nh,Za,Zb,Zc,TT, DB]
      refine hY ?_;clear hX hY X Y
      refine awp_skip ?_
      refine hK _ _ ?_;clear hK K
      refine wS fun K hK => ?_
      simp only [↓DN,UP,DF,Qa,Qb,Qc,Qd,Qe,Qf,Qg,Qh,reduceCtorEq,↓reduceIte,Na,Nb,Nc,Nk,Nf,Ng,Nh,Za,Zb,Zc,TT, hx, bs_size, bs_extract, hle, hge]
      refine acallk (value_calls (l.take size) (by rw [List.length_take]; omega) s) ?_
      rintro r s' ⟨rfl, rfl⟩
      simp only [↓AXq_nil,↓AXq_cons,pval,DX,Nat.reduceBEq,↓DN,UP,DF,Qa,Qb,Qc,Qd,Qe,Qf,Qg,Qh,reduceCtorEq,↓reduceIte,Na,Nb,Nc,Nk,Nf,Ng,Nh,Za,Zb,Zc,TT]
      refine hK _ _ ?_;clear hK K
      refine wS fun K hK => ?_
      simp only [↓DN,UP,DF,Qa,Qb,Qc,Qd,Qe,Qf,Qg,Qh,reduceCtorEq,↓reduceIte,Na,Nb,Nc,Nk,Nf,Ng,Nh,Za,Zb,Zc,TT, hx, bs_size, bs_extract, hle, hge, Int.le_refl]
      refine hK _ _ ?_;clear hK K
      refine wS fun K hK => ?_
      simp only [↓DN,UP,DF,Qa,Qb,Qc,Qd,Qe,Qf,Qg,Qh,reduceCtorEq,↓reduceIte,Na,Nb,Nc,Nk,Nf,Ng,Nh,Za,Zb,Zc,TT]
      refine hK _ _ ?_;clear hK K
      refine awp_ret ?_
      simp only [retQ, AEnds, aresL, ares, List.toList_toArray, ↓upd_same]; try simp only [UP,DF,Nc,↓reduceIte,DT]
      rw [eyeNum_ok h1']
      refine ⟨_, _, AV.weak.refl _, AS.le.refl _, rfl, h.put' ?_⟩
      rw [List.take_length]
  · refine wS fun K hK => ?_
    simp only [↓DN,UP,DF,Qa,Qb,Qc,Qd,Qe,Qf,Qg,Qh,reduceCtorEq,↓reduceIte,Na,Nb,Nc,Nk,Nf,Ng,Nh,Za,Zb,Zc,TT, hx, i64_ne_true er h0]
    refine hK _ _ ?_;clear hK K
    refine wC fun X Y hX hY => ?_
    simp only [↓DN,UP,DF,Qa,Qb,Qc,Qd,Qe,Qf,Qg,Qh,reduceCtorEq,↓reduceIte,Na,Nb,Nc,Nk,Nf,Ng,Nh,Za,Zb,Zc,TT, DB]
    refine hX ?_;clear hX hY X Y
    refine wS fun K hK => ?_
    simp only [↓DN,UP,DF,Qa,Qb,Qc,Qd,Qe,Qf,Qg,Qh,reduceCtorEq,↓reduceIte,Na,Nb,Nc,Nk,Nf,Ng,Nh,Za,Zb,Zc,TT]
    refine hK _ _ ?_;clear hK K
    refine awp_ret ?_
    simp only [retQ, AEnds, aresL, ares, List.toList_toArray, ↓upd_same]; try simp only [UP,DF,Nc,↓reduceIte,DT]
    rw [eyeNum_err h0]
    exact ⟨_, _, AV.weak.refl _, AS.le.refl _, rfl, h⟩

set_option maxHeartbeats 1000000 in
theorem reyeText_calls (s0 s : AS) (p : Nat) (st : EyeSt) (size : Nat) (most : Int) (hs : size ≤ 7) (hl : st.1.length < 2 ^ 61) (h : REyeS s0 s p st) :
    ACalls Tryz.prog Γ 93 [.ptr p 0, .v (.int .i64 size), .v (.int .i64 most)] s (fun r s' => r = .v (.string ⟨(eyeText size most st).1.toArray⟩) ∧ REyeS s0 s' p (eyeText size most st).2) := by
  refine acalls_body Tryz.func93 rfl Tryz.ntmps93 Tryz.results93 (by simp) ?_
  have hx := h.obj
  obtain ⟨l, er⟩ := st
  simp only at hx hl
  refine wS fun K hK => ?_
  simp only [↓DN,UP,DF,Qa,Qb,Qc,Qd,Qe,Qf,Qg,Qh,reduceCtorEq,↓reduceIte,Na,Nb,Nc,Nk,Nf,Ng,Nh,Za,Zb,Zc,TT]
  refine hK _ _ ?_;clear hK K
  refine wK fun K hK => ?_
  by_cases h0 : er = 0
  · subst h0
    refine wS fun K hK => ?_
    simp only [↓DN,UP,DF,Qa,Qb,Qc,Qd,Qe,Qf,Qg,Qh,reduceCtorEq,↓reduceIte,Na,Nb,Nc,Nk,Nf,Ng,Nh,Za,Zb,Zc,TT, hx, i64_ne_false 0 rfl]
    refine hK _ _ ?_;clear hK K
    refine wC fun X Y hX hY => ?_
    simp only [↓DN,UP,DF,Qa,Qb,Qc,Qd,Qe,Qf,Qg,Qh,reduceCtorEq,↓reduceIte,Na,Nb,Nc,Nk,Nf,Ng,Nh,Za,Zb,Zc,TT, DB]
    refine hY ?_;clear hX hY X Y
    refine awp_skip ?_
    refine hK _ _ ?_;clear hK K
    refine wK fun K hK => ?_
    by_cases h1 : l.length < size
    · refine wS fun K hK => ?_
      simp only [↓DN,UP,DF,Qa,Qb,Qc,Qd,Qe,Qf,Qg,Qh,reduceCtorEq,↓reduceIte,Na,Nb,Nc,Nk,Nf,Ng,Nh,Za,Zb,Zc,TT, hx, bs_size, eye_lt_nat, decide_eq_true h1]
      refine hK _ _ ?_;clear hK K
      refine wC fun X Y hX hY => ?_
      simp only [↓DN,UP,DF,Qa,Qb,Qc,Qd,Qe,Qf,Qg,Qh,reduceCtorEq,↓reduceIte,Na,Nb,Nc,Nk,Nf,Ng,Nh,Za,Zb,Zc,TT, DB]
      refine hX ?_;clear hX hY X Y
      refine wS fun K hK => ?_
      simp only [↓DN,UP,DF,Qa,Qb,Qc,Qd,Qe,Qf,Qg,Qh,reduceCtorEq,↓reduceIte,Na,Nb,Nc,Nk,Nf,Ng,Nh,Za,Zb,Zc,TT, hx]
      refine hK _ _ ?_;clear hK K
      refine wS fun K hK => ?_
      simp only [↓DN,UP,DF,Qa,Qb,Qc,Qd,Qe,Qf,Qg,Qh,reduceCtorEq,↓reduceIte,Na,Nb,Nc,Nk,Nf,Ng,Nh,Za,Zb,Zc,TT]
      refine hK _ _ ?_;clear hK K
      refine awp_ret ?_
      simp only [retQ, AEnds, aresL, ares, List.toList_toArray, ↓upd_same]; try simp only [UP,DF,Nc,↓reduceIte,DT]
      rw [eyeText_short h1]
      exact ⟨_, _, AV.weak.refl _, AS.le.refl _, rfl, h.put⟩
    · have h1' : size ≤ l.length := by omega
      have hle : (size : Int) ≤ (l.length : Int) := by omega
      have hge : (0 : Int) ≤ (size : Int) := by omega
      refine wS fun K hK => ?_
      simp only [↓DN,UP,DF,Qa,Qb,Qc,Qd,Qe,Qf,Qg,Qh,reduceCtorEq,↓reduceIte,Na,Nb,Nc,Nk,Nf,Ng,Nh,Za,Zb,Zc,TT, hx, bs_size, eye_lt_nat, decide_eq_false h1]
      refine hK _ _ ?_;clear hK K
      refine wC fun X Y hX hY => ?_
      simp only [↓DN,UP,DF,Qa,Qb,Qc,Qd,Qe,Qf,Qg,Qh,reduceCtorEq,↓reduceIte,Na,Nb,Nc,Nk,Nf,Ng,Nh,Za,Zb,Zc,TT, DB]
      refine hY ?_;clear hX hY X Y
      refine awp_skip ?_
      refine hK _ _ ?_;clear hK K
      obtain ⟨n, hn⟩ : ∃ n, n = beNat (l.take size) := ⟨_, rfl⟩
      have hn7 : n < 2 ^ 56 := by
        rw [hn]
        refine Nat.lt_of_lt_of_le (beNat_take_lt l size) ?_
        rw [show (2 : Nat) ^ 56 = 256 ^ 7 from by decide]
        exact Nat.pow_le_pow_right (by decide) hs
      have hcv : iconv .i64 (n : Int) = n := iconv_i64 (by omega)
      refine wS fun K hK => ?_
      simp only [↓DN,UP,DF,Qa,Qb,Qc,Qd,Qe,Qf,Qg,Qh,reduceCtorEq,↓reduceIte,Na,Nb,Nc,Nk,Nf,Ng,Nh,Za,Zb,Zc,TT, hx, bs_size, bs_extract, hle, hge]
      refine acallk (value_calls (l.take size) (by rw [List.length_take]; omega) s) ?_
      rintro r s' ⟨rfl, rfl⟩
      rw [← hn]
      simp only [↓AXq_nil,↓AXq_cons,pval,DX,Nat.reduceBEq,↓DN,UP,DF,Qa,Qb,Qc,Qd,Qe,Qf,Qg,Qh,reduceCtorEq,↓reduceIte,Na,Nb,Nc,Nk,Nf,Ng,Nh,Za,Zb,Zc,TT, hcv]
      refine hK _ _ ?_;clear hK K
      refine wK fun K hK => ?_
      by_cases h2 : most < (n : Int)
      · refine wS fun K hK => ?_
        simp only [↓DN,UP,DF,Qa,Qb,Qc,Qd,Qe,Qf,Qg,Qh,reduceCtorEq,↓reduceIte,Na,Nb,Nc,Nk,Nf,Ng,Nh,Za,Zb,Zc,TT, decide_eq_true h2]
        refine hK _ _ ?_;clear hK K
        refine wC fun X Y hX hY => ?_
        simp only [↓DN,UP,DF,Qa,Qb,Qc,Qd,Qe,Qf,Qg,Qh,reduceCtorEq,↓reduceIte,Na,Nb,Nc,Nk,Nf,Ng,Nh,Za,Zb,Zc,TT, DB]
        refine hX ?_;clear hX hY X Y
        refine wS fun K hK => ?_
        simp only [↓DN,UP,DF,Qa,Qb,Qc,Qd,Qe,Qf,Qg,Qh,reduceCtorEq,↓reduceIte,Na,Nb,Nc,Nk,Nf,Ng,Nh,Za,Zb,Zc,TT, hx]
        refine hK _ _ ?_;clear hK K
        refine wS fun K hK => ?_
        simp only [↓DN,UP,DF,Qa,Qb,Qc,Qd,Qe,Qf,Qg,Qh,reduceCtorEq,↓reduceIte,Na,Nb,Nc,Nk,Nf,Ng,Nh,Za,Zb,Zc,TT]
        refine hK _ _ ?_;clear hK K
        refine awp_ret ?_
        simp only [retQ, AEnds, aresL, ares, List.toList_toArray, ↓upd_same]; try simp only [UP,DF,Nc,↓reduceIte,DT]
        rw [eyeText_long h1' (by rw [← hn]; exact h2)]
        exact ⟨_, _, AV.weak.refl _, AS.le.refl _, rfl, h.put⟩
      · refine wS fun K hK => ?_
        simp only [↓DN,UP,DF,Qa,Qb,Qc,Qd,Qe,Qf,Qg,Qh,reduceCtorEq,↓reduceIte,Na,Nb,Nc,Nk,Nf,Ng,Nh,Za,Zb,Zc,TT, decide_eq_false h2]
        refine hK _ _ ?_;clear hK K
        refine wC fun X Y hX hY => ?_
        simp only [↓DN,UP,DF,Qa,Qb,Qc,Qd,Qe,Qf,Qg,Qh,reduceCtorEq,↓reduceIte,Na,Nb,Nc,Nk,Nf,Ng,Nh,Za,Zb,Zc,TT, DB]
        refine hY ?_;clear hX hY X Y
        refine awp_skip ?_
        refine hK _ _ ?_;clear hK K
        refine wK fun K hK => ?_
        have hsub : isub .i64 (l.length : Int) (size : Int) = ((l.length - size : Nat) : Int) := by rw [isub_i64 (by omega)]; omega
        by_cases h3 : l.length - size < n
        · refine wS fun K hK => ?_
          simp only [↓DN,UP,DF,Qa,Qb,Qc,Qd,Qe,Qf,Qg,Qh,reduceCtorEq,↓reduceIte,Na,Nb,Nc,Nk,Nf,Ng,Nh,Za,Zb,Zc,TT, hx, bs_size, hsub, eye_lt_nat, decide_eq_true h3]
          refine hK _ _ ?_;clear hK K
          refine wC fun X Y hX hY => ?_
          simp only [↓DN,UP,DF,Qa,Qb,Qc,Qd,Qe,Qf,Qg,Qh,reduceCtorEq,↓reduceIte,Na,Nb,Nc,Nk,Nf,Ng,Nh,Za,Zb,Zc,TT, DB]
          refine hX ?_;clear hX hY X Y
          refine wS fun K hK => ?_
          simp only [↓DN,UP,DF,Qa,Qb,Qc,Qd,Qe,Qf,Qg,Qh,reduceCtorEq,↓reduceIte,Na,Nb,Nc,Nk,Nf,Ng,Nh,Za,Zb,Zc,TT, hx]
          refine hK _ _ ?_;clear hK K
          refine wS fun K hK => ?_
          simp only [↓DN,UP,DF,Qa,Qb,Qc,Qd,Qe,Qf,Qg,Qh,reduceCtorEq,↓reduceIte,Na,Nb,Nc,Nk,Nf,Ng,Nh,Za,Zb,Zc,TT]
          refine hK _ _ ?_;clear hK K
          refine awp_ret ?_
          simp only [retQ, AEnds, aresL, ares, List.toList_toArray, ↓upd_same]; try simp only [UP,DF,Nc,↓reduceIte,DT]
          rw [eyeText_less h1' (by rw [← hn]; exact h2) (by rw [← hn]; exact h3)]
          exact ⟨_, _, AV.weak.refl _, AS.le.refl _, rfl, h.put⟩
        · have hadd : iadd .i64 (size : Int) (n : Int) = ((size + n : Nat) : Int) := by rw [iadd_i64 (by omega)]; rfl
          have hle2 : (size : Int) ≤ ((size + n : Nat) : Int) := by omega
          have hle3 : ((size + n : Nat) : Int) ≤ (l.length : Int) := by omega
          have hge2 : (0 : Int) ≤ ((size + n : Nat) : Int) := by omega
          refine wS fun K hK => ?_
          simp only [↓DN,UP,DF,Qa,Qb,Qc,Qd,Qe,Qf,Qg,Qh,reduceCtorEq,↓reduceIte,Na,Nb,Nc,Nk,Nf,Ng,Nh,Za,Zb,Zc,TT, hx, bs_size, hsub, eye_lt_nat, decide_eq_false h3]
          refine hK _ _ ?_;clear hK K
          refine wC fun X Y hX hY => ?_
          simp only [↓DN,UP,DF,Qa,Qb,Qc,Qd,Qe,Qf,Qg,Qh,reduceCtorEq,↓reduceIte,Na,Nb,Nc,Nk,Nf,Ng,Nh,Za,Zb,Zc,TT, DB]
          refine hY ?_;clear hX hY X Y
          refine awp_skip ?_
          refine hK _ _ ?_;clear hK K
          refine wS fun K hK => ?_
          simp only [↓DN,UP,DF,Qa,Qb,Qc,Qd,Qe,Qf,Qg,Qh,reduceCtorEq,↓reduceIte,Na,Nb,Nc,Nk,Nf,Ng,Nh,Za,Zb,Zc,TT, hx, bs_size, bs_extract, hge, hadd, hle2, hle3]
          refine hK _ _ ?_;clear hK K
          refine wS fun K hK => ?_
          simp only [↓DN,UP,DF,Qa,Qb,Qc,Qd,Qe,Qf,Qg,Qh,reduceCtorEq,↓reduceIte,Na,Nb,Nc,Nk,Nf,Ng,Nh,Za,Zb,Zc,TT, hx, bs_size, bs_extract, hadd, hge2, hle3, Int.le_refl]
          refine hK _ _ ?_;clear hK K
          refine wS fun K hK => ?_
          simp only [↓DN,UP,DF,Qa,Qb,Qc,Qd,Qe,Qf,Qg,Qh,reduceCtorEq,↓reduceIte,Na,Nb,Nc,Nk,Nf,Ng,Nh,Za,Zb,Zc,TT]
          refine hK _ _ ?_;clear hK K
          refine awp_ret ?_
          simp only [retQ, AEnds, aresL, ares, List.toList_toArray, ↓upd_same]; try simp only [UP,DF,Nc,↓reduceIte,DT]
          rw [eyeText_ok h1' (by rw [← hn]; exact h2) (by rw [← hn]; exact h3), ← hn]
          refine ⟨_, _, AV.weak.refl _, AS.le.refl _, rfl, h.put' ?_⟩
          rw [List.take_length]
  · refine wS fun K hK => ?_
    simp only [↓DN,UP,DF,Qa,Qb,Qc,Qd,Qe,Qf,Qg,Qh,reduceCtorEq,↓reduceIte,Na,Nb,Nc,Nk,Nf,Ng,Nh,Za,Zb,Zc,TT, hx, i64_ne_true er h0]
    refine hK _ _ ?_;clear hK K
    refine wC fun X Y hX hY => ?_
    simp only [↓DN,UP,DF,Qa,Qb,Qc,Qd,Qe,Qf,Qg,Qh,reduceCtorEq,↓reduceIte,Na,Nb,Nc,Nk,Nf,Ng,Nh,Za,Zb,Zc,TT, DB]
    refine hX ?_;clear hX hY X Y
    refine wS fun K hK => ?_
    simp only [↓DN,UP,DF,Qa,Qb,Qc,Qd,Qe,Qf,Qg,Qh,reduceCtorEq,↓reduceIte,Na,Nb,Nc,Nk,Nf,Ng,Nh,Za,Zb,Zc,TT]
    refine hK _ _ ?_;clear hK K
    refine awp_ret ?_
    simp only [retQ, AEnds, aresL, ares, List.toList_toArray, ↓upd_same]; try simp only [UP,DF,Nc,↓reduceIte,DT]
    rw [eyeText_err h0]
    exact ⟨_, _, AV.weak.refl _, AS.le.refl _, rfl, h⟩

end Go.Proofs.YtcnilmidfhpckaaGreatDoor


set_option autoImplicit false
namespace Go.Proofs.YtcnilmidfhpckaaGreatDoor
open Go Go.AM Go.Proofs



variable {Γ : Nat → List AV}



theorem open_set (l : List UInt8) (s : AS) (hl : l.length ≤ 2 ^ 45) : ACalls Tryz.prog Γ 13 [bytesV l .any] s (fun r s' => ∃ p, s.objs p = none ∧ r = .ptr p 0 ∧ s' = s.set p (eyeC (l, 0))) := EyeS.open (open_calls l s hl)
theorem eyeU8_set (s : AS) (p : Nat) (st : EyeSt) (h : s.objs p = some (eyeC st)) : ACalls Tryz.prog Γ 47 [.ptr p 0] s (fun r s' => r = .v (.int .i64 (eyeNum 1 st).1) ∧ s' = s.set p (eyeC (eyeNum 1 st).2)) := EyeS.call (eyeU8_calls _ s p st (EyeS.at h))
theorem eyeU64_set (s : AS) (p : Nat) (st : EyeSt) (h : s.objs p = some (eyeC st)) : ACalls Tryz.prog Γ 91 [.ptr p 0] s (fun r s' => r = .v (.int .u64 (eyeNum 8 st).1) ∧ s' = s.set p (eyeC (eyeNum 8 st).2)) := EyeS.call (eyeU64_calls _ s p st (EyeS.at h))
theorem eyeShort_set (s : AS) (p : Nat) (st : EyeSt) (most : Int) (hl : st.1.length ≤ 2 ^ 45) (h : s.objs p = some (eyeC st)) : ACalls Tryz.prog Γ 90 [.ptr p 0, .v (.int .i64 most)] s (fun r s' => r = bytesV (eyeText 1 most st).1 .any ∧ s' = s.set p (eyeC (eyeText 1 most st).2)) := EyeS.call (eyeShort_calls _ s p st most hl (EyeS.at h))
theorem eyeFail_set (s : AS) (p : Nat) (st : EyeSt) (e : Int) (h : s.objs p = some (eyeC st)) : ACalls Tryz.prog Γ 49 [.ptr p 0, .v (.int .i64 e)] s (fun r s' => r = .tup [] ∧ s' = s.set p (eyeC (st.1, if st.2 = 0 then e else st.2))) := EyeS.call (eyeFail_calls _ s p st e (EyeS.at h))
theorem eyeEnd_at (s : AS) (p : Nat) (st : EyeSt) (h : s.objs p = some (eyeC st)) : ACalls Tryz.prog Γ 16 [.ptr p 0] s (fun r s' => r = .v (.int .i64 (eyeEnd st)) ∧ s' = s) := eyeEnd_calls _ s p st (EyeS.at h)
theorem eyeErr_at (s : AS) (p : Nat) (st : EyeSt) (h : s.objs p = some (eyeC st)) : ACalls Tryz.prog Γ 18 [.ptr p 0] s (fun r s' => r = .v (.int .i64 st.2) ∧ s' = s) := eyeErr_calls _ s p st (EyeS.at h)
theorem eyeLeft_at (s : AS) (p : Nat) (st : EyeSt) (h : s.objs p = some (eyeC st)) : ACalls Tryz.prog Γ 19 [.ptr p 0] s (fun r s' => r = .v (.int .i64 st.1.length) ∧ s' = s) := eyeLeft_calls _ s p st (EyeS.at h)
theorem reyeNumber_set (s : AS) (p : Nat) (st : EyeSt) (size : Nat) (hs : size ≤ 8) (hl : st.1.length < 2 ^ 61) (h : s.objs p = some (reyeC st)) : ACalls Tryz.prog Γ 52 [.ptr p 0, .v (.int .i64 size)] s (fun r s' => r = .v (.int .u64 (eyeNum size st).1) ∧ s' = s.set p (reyeC (eyeNum size st).2)) := REyeS.call (reyeNumber_calls _ s p st size hs hl (REyeS.at h))
theorem reyeText_set (s : AS) (p : Nat) (st : EyeSt) (size : Nat) (most : Int) (hs : size ≤ 7) (hl : st.1.length < 2 ^ 61) (h : s.objs p = some (reyeC st)) : ACalls Tryz.prog Γ 93 [.ptr p 0, .v (.int .i64 size), .v (.int .i64 most)] s (fun r s' => r = .v (.string ⟨(eyeText size most st).1.toArray⟩) ∧ s' = s.set p (reyeC (eyeText size most st).2)) := REyeS.call (reyeText_calls _ s p st size most hs hl (REyeS.at h))
end Go.Proofs.YtcnilmidfhpckaaGreatDoor


set_option autoImplicit false
namespace Go.Proofs.YtcnilmidfhpckaaGreatDoor
open Go Go.AM Go.Proofs


variable {Γ : Nat → List AV}

set_option maxHeartbeats 400000 in
theorem powerRight_calls (n : Nat) (s : AS) : ACalls Tryz.prog Γ 100 [.v (.int .u64 n)] s (fun r s' => r = .v (.bool (decide (2 ≤ (n : Int)) && decide ((n : Int) ≤ 2305843009213693949))) ∧ s' = s) := by
  refine acalls_body Tryz.func100 rfl Tryz.ntmps100 Tryz.results100 (by simp) ?_
  rcases ff2 (decide (2 ≤ (n : Int))) (decide ((n : Int) ≤ 2305843009213693949)) with hd | hd | hd
  all_goals
    refine wS fun K hK => ?_
    simp only [↓DN,UP,DF,Qa,Qb,Qc,Qd,Qe,Qf,Qg,Qh,reduceCtorEq,↓reduceIte,Na,Nb,Nc,Nk,Nf,Ng,Nh,Za,Zb,Zc,TT]
    refine hK _ _ ?_;clear hK K
    refine wS fun K hK => ?_
    simp only [↓DN,UP,DF,Qa,Qb,Qc,Qd,Qe,Qf,Qg,Qh,reduceCtorEq,↓reduceIte,Na,Nb,Nc,Nk,Nf,Ng,Nh,Za,Zb,Zc,TT, hd]
    refine hK _ _ ?_;clear hK K
    refine awp_ret ?_
    simp only [retQ, AEnds, aresL, ares, List.toList_toArray, ↓upd_same]; try simp only [UP,DF,Nc,↓reduceIte,DT]
    refine ⟨_, _, AV.weak.refl _, AS.le.refl _, ?_, rfl⟩
    simp only [hd, Bool.and_true, Bool.true_and, Bool.false_and, Bool.and_false]

set_option maxHeartbeats 400000 in
theorem refRight07_calls (n : Nat) (s : AS) : ACalls Tryz.prog Γ 86 [.v (.int .u64 n)] s (fun r s' => r = .v (.bool (decide (2 ≤ (n : Int)) && decide ((n : Int) ≤ 2305843009213693949))) ∧ s' = s) := by
  refine acalls_body Tryz.func86 rfl Tryz.ntmps86 Tryz.results86 (by simp) ?_
  rcases ff2 (decide (2 ≤ (n : Int))) (decide ((n : Int) ≤ 2305843009213693949)) with hd | hd | hd
  all_goals
    refine wS fun K hK => ?_
    simp only [↓DN,UP,DF,Qa,Qb,Qc,Qd,Qe,Qf,Qg,Qh,reduceCtorEq,↓reduceIte,Na,Nb,Nc,Nk,Nf,Ng,Nh,Za,Zb,Zc,TT]
    refine hK _ _ ?_;clear hK K
    refine wS fun K hK => ?_
    simp only [↓DN,UP,DF,Qa,Qb,Qc,Qd,Qe,Qf,Qg,Qh,reduceCtorEq,↓reduceIte,Na,Nb,Nc,Nk,Nf,Ng,Nh,Za,Zb,Zc,TT, hd]
    refine hK _ _ ?_;clear hK K
    refine awp_ret ?_
    simp only [retQ, AEnds, aresL, ares, List.toList_toArray, ↓upd_same]; try simp only [UP,DF,Nc,↓reduceIte,DT]
    refine ⟨_, _, AV.weak.refl _, AS.le.refl _, ?_, rfl⟩
    simp only [hd, Bool.and_true, Bool.true_and, Bool.false_and, Bool.and_false]

set_option maxHeartbeats 400000 in
theorem bytesEqual_calls (a b : List UInt8) (s : AS) : ACalls Tryz.prog Γ 112 [bytesV a .any, bytesV b .any] s (fun r s' => r = .v (.bool (decide (a = b))) ∧ s' = s) := by
  refine acalls_body Tryz.func112 rfl Tryz.ntmps112 Tryz.results112 (by simp) ?_
  refine wS fun K hK => ?_
  simp only [↓DN,UP,DF,Qa,Qb,Qc,Qd,Qe,Qf,Qg,Qh,reduceCtorEq,↓reduceIte,Na,Nb,Nc,Nk,Nf,Ng,Nh,Za,Zb,Zc,TT]
  refine hK _ _ ?_;clear hK K
  refine wS fun K hK => ?_
  simp only [↓DN,UP,DF,Qa,Qb,Qc,Qd,Qe,Qf,Qg,Qh,reduceCtorEq,↓reduceIte,Na,Nb,Nc,Nk,Nf,Ng,Nh,Za,Zb,Zc,TT, beq_list]
  refine hK _ _ ?_;clear hK K
  refine awp_ret ?_
  simp only [retQ, AEnds, aresL, ares, List.toList_toArray, ↓upd_same]; try simp only [UP,DF,Nc,↓reduceIte,DT]
  exact ⟨_, _, AV.weak.refl _, AS.le.refl _, rfl, rfl⟩

theorem len_bne_false {a b : Nat} (h : a = b) : (((a : Int) != (b : Int))) = false := by subst h; simp
theorem len_bne_true {a b : Nat} (h : a ≠ b) : (((a : Int) != (b : Int))) = true := by simp; omega
theorem int_bne_false {a b : Int} (h : a = b) : (a != b) = false := by subst h; simp
theorem int_bne_true {a b : Int} (h : a ≠ b) : (a != b) = true := by simpa using h

set_option maxHeartbeats 1000000 in
theorem slicesEqual_calls (a b : List Int) (hl : a.length ≤ 2 ^ 61) (s : AS) : ACalls Tryz.prog Γ 122 [intsV a .any, intsV b .any] s (fun r s' => r = .v (.bool (decide (a = b))) ∧ s' = s) := by
  refine acalls_body Tryz.func122 rfl Tryz.ntmps122 Tryz.results122 (by simp) ?_
  unfold intsV
  refine wS fun K hK => ?_
  simp only [↓DN,UP,DF,Qa,Qb,Qc,Qd,Qe,Qf,Qg,Qh,reduceCtorEq,↓reduceIte,Na,Nb,Nc,Nk,Nf,Ng,Nh,Za,Zb,Zc,TT]
  refine hK _ _ ?_;clear hK K
  refine wK fun K hK => ?_
  by_cases h0 : a.length = b.length
  · refine wS fun K hK => ?_
    simp only [↓DN,UP,DF,Qa,Qb,Qc,Qd,Qe,Qf,Qg,Qh,reduceCtorEq,↓reduceIte,Na,Nb,Nc,Nk,Nf,Ng,Nh,Za,Zb,Zc,TT, len_bne_false h0]
    refine hK _ _ ?_;clear hK K
    refine wC fun X Y hX hY => ?_
    simp only [↓DN,UP,DF,Qa,Qb,Qc,Qd,Qe,Qf,Qg,Qh,reduceCtorEq,↓reduceIte,Na,Nb,Nc,Nk,Nf,Ng,Nh,Za,Zb,Zc,TT, DB]
    refine hY ?_;clear hX hY X Y
    refine awp_skip ?_
    refine hK _ _ ?_;clear hK K
    refine wK fun K hK => ?_
    refine wS fun K hK => ?_
    simp only [↓DN,UP,DF,Qa,Qb,Qc,Qd,Qe,Qf,Qg,Qh,reduceCtorEq,↓reduceIte,Na,Nb,Nc,Nk,Nf,Ng,Nh,Za,Zb,Zc,TT]
    refine hK _ _ ?_;clear hK K
    refine awp_block ?_
    refine awp_loop (fun E s1 => ∃ i : Nat, i ≤ a.length ∧ E 13 = .v (.int .i64 i) ∧ E 12 = .v (.int .i64 a.length) ∧ E 0 = .sl 1 a.length (a.map intC) .any ∧ E 1 = .sl 1 b.length (b.map intC) .any ∧ a.take i = b.take i ∧ s1 = s)
      (fun E _ => match E 13 with | .v (.int _ i) => a.length - i.toNat | _ => 0) ?_ ?_
    · exact ⟨0, Nat.zero_le _, by simp [upd], by simp [upd], by simp [upd, initE], by simp [upd, initE], rfl, rfl⟩
    · rintro E1 s1 ⟨i, hi, h13, h12, h00, h1, he, rfl⟩ -
      by_cases hi' : i < a.length
      · have hib : i < b.length := by omega
        refine wS fun K hK => ?_
        simp only [↓DN,UP,DF,Qa,Qb,Qc,Qd,Qe,Qf,Qg,Qh,reduceCtorEq,↓reduceIte,Na,Nb,Nc,Nk,Nf,Ng,Nh,Za,Zb,Zc,TT, h13, h12, eye_lt_nat, decide_eq_true hi']
        refine hK _ _ ?_;clear hK K
        refine wK fun K2 hK2 => ?_
        refine wC fun X Y hX hY => ?_
        simp only [↓DN,UP,DF,Qa,Qb,Qc,Qd,Qe,Qf,Qg,Qh,reduceCtorEq,↓reduceIte,Na,Nb,Nc,Nk,Nf,Ng,Nh,Za,Zb,Zc,TT, DB]
        refine hX ?_;clear hX hY X Y
        refine awp_skip ?_
        refine hK2 _ _ ?_;clear hK2 K2
        refine wK fun K3 hK3 => ?_
        refine awp_block ?_
        refine wS fun K hK => ?_
        simp only [↓DN,UP,DF,Qa,Qb,Qc,Qd,Qe,Qf,Qg,Qh,reduceCtorEq,↓reduceIte,Na,Nb,Nc,Nk,Nf,Ng,Nh,Za,Zb,Zc,TT, h13]
        refine hK _ _ ?_;clear hK K
        have hge : (0 : Int) ≤ (i : Int) := by omega
        have hat := eat_int hi'
        have hbt := eat_int hib
        by_cases hx : a[i] = b[i]
        · refine awp_drw_seq T.mixed [] (by kernel_rfl) ?_
          intro K hK
          simp only [↓AXq_nil,↓AXq_cons,pval,DX,Nat.reduceBEq,↓DN,UP,DF,Qa,Qb,Qc,Qd,Qe,Qf,Qg,Qh,reduceCtorEq,↓reduceIte,Na,Nb,Nc,Nk,Nf,Ng,Nh,Za,Zb,Zc,TT, h13, h00, h1, hge, eye_lt_nat, hi', hib, hat, hbt, int_bne_false hx]
          refine hK _ _ ?_;clear hK K
          refine wC fun X Y hX hY => ?_
          simp only [↓DN,UP,DF,Qa,Qb,Qc,Qd,Qe,Qf,Qg,Qh,reduceCtorEq,↓reduceIte,Na,Nb,Nc,Nk,Nf,Ng,Nh,Za,Zb,Zc,TT, DB]
          refine hY ?_;clear hX hY X Y
          refine awp_skip ?_
          simp only [blockQ, thenQ, if_true, if_false]
          refine hK3 _ _ ?_;clear hK3 K3
          refine wE fun K hK => ?_
          simp only [↓DN,UP,DF,Qa,Qb,Qc,Qd,Qe,Qf,Qg,Qh,reduceCtorEq,↓reduceIte,Na,Nb,Nc,Nk,Nf,Ng,Nh,Za,Zb,Zc,TT, h13, eye_succ i (by omega)]
          refine hK _ _ ?_;clear hK K
          refine ⟨⟨i + 1, by omega, by simp only [upd, ↓reduceIte], by simp only [upd, h12, Nc, ↓reduceIte], by simp only [upd, h00, Nc, ↓reduceIte], by simp only [upd, h1, Nc, ↓reduceIte], take_eq_succ hi' hib he hx, rfl⟩, ?_⟩
          simp only [h13, upd, ↓reduceIte]
          omega
        · refine awp_drw_seq T.mixed [] (by kernel_rfl) ?_
          intro K hK
          simp only [↓AXq_nil,↓AXq_cons,pval,DX,Nat.reduceBEq,↓DN,UP,DF,Qa,Qb,Qc,Qd,Qe,Qf,Qg,Qh,reduceCtorEq,↓reduceIte,Na,Nb,Nc,Nk,Nf,Ng,Nh,Za,Zb,Zc,TT, h13, h00, h1, hge, eye_lt_nat, hi', hib, hat, hbt, int_bne_true hx]
          refine hK _ _ ?_;clear hK K
          refine wC fun X Y hX hY => ?_
          simp only [↓DN,UP,DF,Qa,Qb,Qc,Qd,Qe,Qf,Qg,Qh,reduceCtorEq,↓reduceIte,Na,Nb,Nc,Nk,Nf,Ng,Nh,Za,Zb,Zc,TT, DB]
          refine hX ?_;clear hX hY X Y
          refine wS fun K hK => ?_
          simp only [↓DN,UP,DF,Qa,Qb,Qc,Qd,Qe,Qf,Qg,Qh,reduceCtorEq,↓reduceIte,Na,Nb,Nc,Nk,Nf,Ng,Nh,Za,Zb,Zc,TT]
          refine hK _ _ ?_;clear hK K
          refine awp_ret ?_
          simp only [thenQ, blockQ]
          simp only [retQ, AEnds, aresL, ares, List.toList_toArray, ↓upd_same]; try simp only [UP,DF,Nc,↓reduceIte,DT]
          refine ⟨_, _, AV.weak.refl _, AS.le.refl _, ?_, rfl⟩
          rw [decide_eq_false]
          intro e
          subst e
          exact hx rfl
      · refine wS fun K hK => ?_
        simp only [↓DN,UP,DF,Qa,Qb,Qc,Qd,Qe,Qf,Qg,Qh,reduceCtorEq,↓reduceIte,Na,Nb,Nc,Nk,Nf,Ng,Nh,Za,Zb,Zc,TT, h13, h12, eye_lt_nat, decide_eq_false hi']
        refine hK _ _ ?_;clear hK K
        refine wK fun K2 hK2 => ?_
        refine wC fun X Y hX hY => ?_
        simp only [↓DN,UP,DF,Qa,Qb,Qc,Qd,Qe,Qf,Qg,Qh,reduceCtorEq,↓reduceIte,Na,Nb,Nc,Nk,Nf,Ng,Nh,Za,Zb,Zc,TT, DB]
        refine hY ?_;clear hX hY X Y
        refine awp_exit ?_
        simp only [thenQ, blockQ, if_true]
        refine hK _ _ ?_;clear hK hK2 K K2
        refine wS fun K hK => ?_
        simp only [↓DN,UP,DF,Qa,Qb,Qc,Qd,Qe,Qf,Qg,Qh,reduceCtorEq,↓reduceIte,Na,Nb,Nc,Nk,Nf,Ng,Nh,Za,Zb,Zc,TT]
        refine hK _ _ ?_;clear hK K
        refine awp_ret ?_
        simp only [retQ, AEnds, aresL, ares, List.toList_toArray, ↓upd_same]; try simp only [UP,DF,Nc,↓reduceIte,DT]
        refine ⟨_, _, AV.weak.refl _, AS.le.refl _, ?_, rfl⟩
        rw [List.take_of_length_le (by omega), List.take_of_length_le (by omega)] at he
        rw [decide_eq_true he]
  · refine wS fun K hK => ?_
    simp only [↓DN,UP,DF,Qa,Qb,Qc,Qd,Qe,Qf,Qg,Qh,reduceCtorEq,↓reduceIte,Na,Nb,Nc,Nk,Nf,Ng,Nh,Za,Zb,Zc,TT, len_bne_true h0]
    refine hK _ _ ?_;clear hK K
    refine wC fun X Y hX hY => ?_
    simp only [↓DN,UP,DF,Qa,Qb,Qc,Qd,Qe,Qf,Qg,Qh,reduceCtorEq,↓reduceIte,Na,Nb,Nc,Nk,Nf,Ng,Nh,Za,Zb,Zc,TT, DB]
    refine hX ?_;clear hX hY X Y
    refine wS fun K hK => ?_
    simp only [↓DN,UP,DF,Qa,Qb,Qc,Qd,Qe,Qf,Qg,Qh,reduceCtorEq,↓reduceIte,Na,Nb,Nc,Nk,Nf,Ng,Nh,Za,Zb,Zc,TT]
    refine hK _ _ ?_;clear hK K
    refine awp_ret ?_
    simp only [retQ, AEnds, aresL, ares, List.toList_toArray, ↓upd_same]; try simp only [UP,DF,Nc,↓reduceIte,DT]
    refine ⟨_, _, AV.weak.refl _, AS.le.refl _, ?_, rfl⟩
    rw [decide_eq_false (fun e => h0 (by rw [e]))]
    try rfl

set_option maxHeartbeats 1000000 in
theorem refInts_calls (a b : List Int) (hl : a.length ≤ 2 ^ 61) (s : AS) : ACalls Tryz.prog Γ 26 [intsV a .any, intsV b .any] s (fun r s' => r = .v (.bool (decide (a = b))) ∧ s' = s) := by
  refine acalls_body Tryz.func26 rfl Tryz.ntmps26 Tryz.results26 (by simp) ?_
  unfold intsV
  refine wS fun K hK => ?_
  simp only [↓DN,UP,DF,Qa,Qb,Qc,Qd,Qe,Qf,Qg,Qh,reduceCtorEq,↓reduceIte,Na,Nb,Nc,Nk,Nf,Ng,Nh,Za,Zb,Zc,TT]
  refine hK _ _ ?_;clear hK K
  refine wK fun K hK => ?_
  by_cases h0 : a.length = b.length
  · refine wS fun K hK => ?_
    simp only [↓DN,UP,DF,Qa,Qb,Qc,Qd,Qe,Qf,Qg,Qh,reduceCtorEq,↓reduceIte,Na,Nb,Nc,Nk,Nf,Ng,Nh,Za,Zb,Zc,TT, len_bne_false h0]
    refine hK _ _ ?_;clear hK K
    refine wC fun X Y hX hY => ?_
    simp only [↓DN,UP,DF,Qa,Qb,Qc,Qd,Qe,Qf,Qg,Qh,reduceCtorEq,↓reduceIte,Na,Nb,Nc,Nk,Nf,Ng,Nh,Za,Zb,Zc,TT, DB]
    refine hY ?_;clear hX hY X Y
    refine awp_skip ?_
    refine hK _ _ ?_;clear hK K
    refine wK fun K hK => ?_
    refine wS fun K hK => ?_
    simp only [↓DN,UP,DF,Qa,Qb,Qc,Qd,Qe,Qf,Qg,Qh,reduceCtorEq,↓reduceIte,Na,Nb,Nc,Nk,Nf,Ng,Nh,Za,Zb,Zc,TT]
    refine hK _ _ ?_;clear hK K
    refine awp_block ?_
    refine awp_loop (fun E s1 => ∃ i : Nat, i ≤ a.length ∧ E 5 = .v (.int .i64 i) ∧ E 0 = .sl 1 a.length (a.map intC) .any ∧ E 1 = .sl 1 b.length (b.map intC) .any ∧ a.take i = b.take i ∧ s1 = s)
      (fun E _ => match E 5 with | .v (.int _ i) => a.length - i.toNat | _ => 0) ?_ ?_
    · exact ⟨0, Nat.zero_le _, by simp [upd], by simp [upd, initE], by simp [upd, initE], rfl, rfl⟩
    · rintro E1 s1 ⟨i, hi, h5, h00, h1, he, rfl⟩ -
      refine wK fun K2 hK2 => ?_
      by_cases hi' : i < a.length
      · have hib : i < b.length := by omega
        refine wS fun K hK => ?_
        simp only [↓DN,UP,DF,Qa,Qb,Qc,Qd,Qe,Qf,Qg,Qh,reduceCtorEq,↓reduceIte,Na,Nb,Nc,Nk,Nf,Ng,Nh,Za,Zb,Zc,TT, h5, h00, eye_lt_nat, decide_eq_true hi']
        refine hK _ _ ?_;clear hK K
        refine wC fun X Y hX hY => ?_
        simp only [↓DN,UP,DF,Qa,Qb,Qc,Qd,Qe,Qf,Qg,Qh,reduceCtorEq,↓reduceIte,Na,Nb,Nc,Nk,Nf,Ng,Nh,Za,Zb,Zc,TT, DB]
        refine hX ?_;clear hX hY X Y
        refine awp_skip ?_
        refine hK2 _ _ ?_;clear hK2 K2
        refine wK fun K3 hK3 => ?_
        refine awp_block ?_
        have hge : (0 : Int) ≤ (i : Int) := by omega
        have hat := eat_int hi'
        have hbt := eat_int hib
        by_cases hx : a[i] = b[i]
        · refine awp_drw_seq T.mixed [] (by kernel_rfl) ?_
          intro K hK
          simp only [↓AXq_nil,↓AXq_cons,pval,DX,Nat.reduceBEq,↓DN,UP,DF,Qa,Qb,Qc,Qd,Qe,Qf,Qg,Qh,reduceCtorEq,↓reduceIte,Na,Nb,Nc,Nk,Nf,Ng,Nh,Za,Zb,Zc,TT, h5, h00, h1, hge, eye_lt_nat, hi', hib, hat, hbt, int_bne_false hx]
          refine hK _ _ ?_;clear hK K
          refine wC fun X Y hX hY => ?_
          simp only [↓DN,UP,DF,Qa,Qb,Qc,Qd,Qe,Qf,Qg,Qh,reduceCtorEq,↓reduceIte,Na,Nb,Nc,Nk,Nf,Ng,Nh,Za,Zb,Zc,TT, DB]
          refine hY ?_;clear hX hY X Y
          refine awp_skip ?_
          simp only [blockQ, thenQ, if_true, if_false]
          refine hK3 _ _ ?_;clear hK3 K3
          refine wE fun K hK => ?_
          simp only [↓DN,UP,DF,Qa,Qb,Qc,Qd,Qe,Qf,Qg,Qh,reduceCtorEq,↓reduceIte,Na,Nb,Nc,Nk,Nf,Ng,Nh,Za,Zb,Zc,TT, h5, eye_succ i (by omega)]
          refine hK _ _ ?_;clear hK K
          refine ⟨⟨i + 1, by omega, by simp only [upd, ↓reduceIte], by simp only [upd, h00, Nc, ↓reduceIte], by simp only [upd, h1, Nc, ↓reduceIte], take_eq_succ hi' hib he hx, rfl⟩, ?_⟩
          simp only [h5, upd, ↓reduceIte]
          omega
        · refine awp_drw_seq T.mixed [] (by kernel_rfl) ?_
          intro K hK
          simp only [↓AXq_nil,↓AXq_cons,pval,DX,Nat.reduceBEq,↓DN,UP,DF,Qa,Qb,Qc,Qd,Qe,Qf,Qg,Qh,reduceCtorEq,↓reduceIte,Na,Nb,Nc,Nk,Nf,Ng,Nh,Za,Zb,Zc,TT, h5, h00, h1, hge, eye_lt_nat, hi', hib, hat, hbt, int_bne_true hx]
          refine hK _ _ ?_;clear hK K
          refine wC fun X Y hX hY => ?_
          simp only [↓DN,UP,DF,Qa,Qb,Qc,Qd,Qe,Qf,Qg,Qh,reduceCtorEq,↓reduceIte,Na,Nb,Nc,Nk,Nf,Ng,Nh,Za,Zb,Zc,TT, DB]
          refine hX ?_;clear hX hY X Y
          refine wS fun K hK => ?_
          simp only [↓DN,UP,DF,Qa,Qb,Qc,Qd,Qe,Qf,Qg,Qh,reduceCtorEq,↓reduceIte,Na,Nb,Nc,Nk,Nf,Ng,Nh,Za,Zb,Zc,TT]
          refine hK _ _ ?_;clear hK K
          refine awp_ret ?_
          simp only [thenQ, blockQ]
          simp only [retQ, AEnds, aresL, ares, List.toList_toArray, ↓upd_same]; try simp only [UP,DF,Nc,↓reduceIte,DT]
          refine ⟨_, _, AV.weak.refl _, AS.le.refl _, ?_, rfl⟩
          rw [decide_eq_false]
          intro e
          subst e
          exact hx rfl
      · refine wS fun K hK => ?_
        simp only [↓DN,UP,DF,Qa,Qb,Qc,Qd,Qe,Qf,Qg,Qh,reduceCtorEq,↓reduceIte,Na,Nb,Nc,Nk,Nf,Ng,Nh,Za,Zb,Zc,TT, h5, h00, eye_lt_nat, decide_eq_false hi']
        refine hK _ _ ?_;clear hK K
        refine wC fun X Y hX hY => ?_
        simp only [↓DN,UP,DF,Qa,Qb,Qc,Qd,Qe,Qf,Qg,Qh,reduceCtorEq,↓reduceIte,Na,Nb,Nc,Nk,Nf,Ng,Nh,Za,Zb,Zc,TT, DB]
        refine hY ?_;clear hX hY X Y
        refine awp_exit ?_
        simp only [thenQ, blockQ, if_true]
        refine hK _ _ ?_;clear hK hK2 K K2
        refine wS fun K hK => ?_
        simp only [↓DN,UP,DF,Qa,Qb,Qc,Qd,Qe,Qf,Qg,Qh,reduceCtorEq,↓reduceIte,Na,Nb,Nc,Nk,Nf,Ng,Nh,Za,Zb,Zc,TT]
        refine hK _ _ ?_;clear hK K
        refine awp_ret ?_
        simp only [retQ, AEnds, aresL, ares, List.toList_toArray, ↓upd_same]; try simp only [UP,DF,Nc,↓reduceIte,DT]
        refine ⟨_, _, AV.weak.refl _, AS.le.refl _, ?_, rfl⟩
        rw [List.take_of_length_le (by omega), List.take_of_length_le (by omega)] at he
        rw [decide_eq_true he]
  · refine wS fun K hK => ?_
    simp only [↓DN,UP,DF,Qa,Qb,Qc,Qd,Qe,Qf,Qg,Qh,reduceCtorEq,↓reduceIte,Na,Nb,Nc,Nk,Nf,Ng,Nh,Za,Zb,Zc,TT, len_bne_true h0]
    refine hK _ _ ?_;clear hK K
    refine wC fun X Y hX hY => ?_
    simp only [↓DN,UP,DF,Qa,Qb,Qc,Qd,Qe,Qf,Qg,Qh,reduceCtorEq,↓reduceIte,Na,Nb,Nc,Nk,Nf,Ng,Nh,Za,Zb,Zc,TT, DB]
    refine hX ?_;clear hX hY X Y
    refine wS fun K hK => ?_
    simp only [↓DN,UP,DF,Qa,Qb,Qc,Qd,Qe,Qf,Qg,Qh,reduceCtorEq,↓reduceIte,Na,Nb,Nc,Nk,Nf,Ng,Nh,Za,Zb,Zc,TT]
    refine hK _ _ ?_;clear hK K
    refine awp_ret ?_
    simp only [retQ, AEnds, aresL, ares, List.toList_toArray, ↓upd_same]; try simp only [UP,DF,Nc,↓reduceIte,DT]
    refine ⟨_, _, AV.weak.refl _, AS.le.refl _, ?_, rfl⟩
    rw [decide_eq_false (fun e => h0 (by rw [e]))]
    try rfl

set_option maxRecDepth 100000 in
set_option maxHeartbeats 2000000 in
theorem nodeSame_calls (N M : NodeV) (hl : N.unm.length ≤ 2 ^ 61) (s : AS) : ACalls Tryz.prog Γ 95 [.agg N.cells, .agg M.cells] s (fun r s' => r = .v (.bool (decide (N = M))) ∧ s' = s) := by
  refine acalls_body Tryz.func95 rfl Tryz.ntmps95 Tryz.results95 (by simp) ?_
  unfold NodeV.cells
  obtain ⟨k, m, y, p, u⟩ := N
  obtain ⟨k', m', y', p', u'⟩ := M
  rw [node_eq_bool]
  refine wS fun K hK => ?_
  simp only [↓DN,UP,DF,Qa,Qb,Qc,Qd,Qe,Qf,Qg,Qh,reduceCtorEq,↓reduceIte,Na,Nb,Nc,Nk,Nf,Ng,Nh,Za,Zb,Zc,TT, intsV]
  intro o ho
  intro o' ho'
  have hne : o ≠ o' := by
    intro e
    subst e
    simp [AS.set] at ho'
  have hle : s.le ((s.set o [.v (.int .i64 k), bytesV m .any, .v (.int .u64 y), bytesV p .any, intsV u .any]).set o' [.v (.int .i64 k'), bytesV m' .any, .v (.int .u64 y'), bytesV p' .any, intsV u' .any]) := AS.le_set (AS.le_set (AS.le.refl s) ho _) (by simpa [AS.set, upd, hne.symm] using ho') _
  refine hK _ _ ?_;clear hK K
  rcases ff5 (k == k') ((y : Int) == (y' : Int)) (decide (m = m')) (decide (p = p')) (decide (u = u')) with hd | hd | hd | hd | hd | hd
  · refine wS fun K hK => ?_
    simp only [↓DN,UP,DF,Qa,Qb,Qc,Qd,Qe,Qf,Qg,Qh,reduceCtorEq,↓reduceIte,Na,Nb,Nc,Nk,Nf,Ng,Nh,Za,Zb,Zc,TT, hne, hd, intsV]
    refine hK _ _ ?_;clear hK K
    refine awp_ret ?_
    simp only [retQ, AEnds, aresL, ares, List.toList_toArray, ↓upd_same]; try simp only [UP,DF,Nc,↓reduceIte,DT]
    refine ⟨_, s, AV.weak.refl _, hle, ?_, rfl⟩
    simp only [hd, Bool.and_true, Bool.true_and, Bool.false_and, Bool.and_false]
    try rfl
  · refine wS fun K hK => ?_
    simp only [↓DN,UP,DF,Qa,Qb,Qc,Qd,Qe,Qf,Qg,Qh,reduceCtorEq,↓reduceIte,Na,Nb,Nc,Nk,Nf,Ng,Nh,Za,Zb,Zc,TT, hne, hd, intsV]
    refine hK _ _ ?_;clear hK K
    refine awp_ret ?_
    simp only [retQ, AEnds, aresL, ares, List.toList_toArray, ↓upd_same]; try simp only [UP,DF,Nc,↓reduceIte,DT]
    refine ⟨_, s, AV.weak.refl _, hle, ?_, rfl⟩
    simp only [hd, Bool.and_true, Bool.true_and, Bool.false_and, Bool.and_false]
    try rfl
  · refine wS fun K hK => ?_
    simp only [↓DN,UP,DF,Qa,Qb,Qc,Qd,Qe,Qf,Qg,Qh,reduceCtorEq,↓reduceIte,Na,Nb,Nc,Nk,Nf,Ng,Nh,Za,Zb,Zc,TT, hne, hd, intsV]
    refine acallk (bytesEqual_calls m m' _) ?_
    rintro r s' ⟨rfl, rfl⟩
    simp only [↓AXq_nil,↓AXq_cons,pval,DX,Nat.reduceBEq,↓DN,UP,DF,Qa,Qb,Qc,Qd,Qe,Qf,Qg,Qh,reduceCtorEq,↓reduceIte,Na,Nb,Nc,Nk,Nf,Ng,Nh,Za,Zb,Zc,TT, hne, hd, intsV]
    refine hK _ _ ?_;clear hK K
    refine awp_ret ?_
    simp only [retQ, AEnds, aresL, ares, List.toList_toArray, ↓upd_same]; try simp only [UP,DF,Nc,↓reduceIte,DT]
    refine ⟨_, s, AV.weak.refl _, hle, ?_, rfl⟩
    simp only [hd, Bool.and_true, Bool.true_and, Bool.false_and, Bool.and_false]
    try rfl
  · refine wS fun K hK => ?_
    simp only [↓DN,UP,DF,Qa,Qb,Qc,Qd,Qe,Qf,Qg,Qh,reduceCtorEq,↓reduceIte,Na,Nb,Nc,Nk,Nf,Ng,Nh,Za,Zb,Zc,TT, hne, hd, intsV]
    refine acallk (bytesEqual_calls m m' _) ?_
    rintro r s' ⟨rfl, rfl⟩
    simp only [↓AXq_nil,↓AXq_cons,pval,DX,Nat.reduceBEq,↓DN,UP,DF,Qa,Qb,Qc,Qd,Qe,Qf,Qg,Qh,reduceCtorEq,↓reduceIte,Na,Nb,Nc,Nk,Nf,Ng,Nh,Za,Zb,Zc,TT, hne, hd, intsV]
    refine acallk (bytesEqual_calls p p' _) ?_
    rintro r s' ⟨rfl, rfl⟩
    simp only [↓AXq_nil,↓AXq_cons,pval,DX,Nat.reduceBEq,↓DN,UP,DF,Qa,Qb,Qc,Qd,Qe,Qf,Qg,Qh,reduceCtorEq,↓reduceIte,Na,Nb,Nc,Nk,Nf,Ng,Nh,Za,Zb,Zc,TT, hne, hd, intsV]
    refine hK _ _ ?_;clear hK K
    refine awp_ret ?_
    simp only [retQ, AEnds, aresL, ares, List.toList_toArray, ↓upd_same]; try simp only [UP,DF,Nc,↓reduceIte,DT]
    refine ⟨_, s, AV.weak.refl _, hle, ?_, rfl⟩
    simp only [hd, Bool.and_true, Bool.true_and, Bool.false_and, Bool.and_false]
    try rfl
  all_goals
    refine wS fun K hK => ?_
    simp only [↓DN,UP,DF,Qa,Qb,Qc,Qd,Qe,Qf,Qg,Qh,reduceCtorEq,↓reduceIte,Na,Nb,Nc,Nk,Nf,Ng,Nh,Za,Zb,Zc,TT, hne, hd, intsV]
    refine acallk (bytesEqual_calls m m' _) ?_
    rintro r s' ⟨rfl, rfl⟩
    simp only [↓AXq_nil,↓AXq_cons,pval,DX,Nat.reduceBEq,↓DN,UP,DF,Qa,Qb,Qc,Qd,Qe,Qf,Qg,Qh,reduceCtorEq,↓reduceIte,Na,Nb,Nc,Nk,Nf,Ng,Nh,Za,Zb,Zc,TT, hne, hd, intsV]
    refine acallk (bytesEqual_calls p p' _) ?_
    rintro r s' ⟨rfl, rfl⟩
    simp only [↓AXq_nil,↓AXq_cons,pval,DX,Nat.reduceBEq,↓DN,UP,DF,Qa,Qb,Qc,Qd,Qe,Qf,Qg,Qh,reduceCtorEq,↓reduceIte,Na,Nb,Nc,Nk,Nf,Ng,Nh,Za,Zb,Zc,TT, hne, hd, intsV]
    refine acallk (slicesEqual_calls u u' hl _) ?_
    rintro r s' ⟨rfl, rfl⟩
    simp only [↓AXq_nil,↓AXq_cons,pval,DX,Nat.reduceBEq,↓DN,UP,DF,Qa,Qb,Qc,Qd,Qe,Qf,Qg,Qh,reduceCtorEq,↓reduceIte,Na,Nb,Nc,Nk,Nf,Ng,Nh,Za,Zb,Zc,TT, hne, hd, intsV]
    refine hK _ _ ?_;clear hK K
    refine awp_ret ?_
    simp only [retQ, AEnds, aresL, ares, List.toList_toArray, ↓upd_same]; try simp only [UP,DF,Nc,↓reduceIte,DT]
    refine ⟨_, s, AV.weak.refl _, hle, ?_, rfl⟩
    simp only [hd, Bool.and_true, Bool.true_and, Bool.false_and, Bool.and_false]
    try rfl

set_option maxRecDepth 100000 in
set_option maxHeartbeats 2000000 in
theorem refSame19_calls (N M : NodeV) (hl : N.unm.length ≤ 2 ^ 61) (s : AS) : ACalls Tryz.prog Γ 46 [.agg N.cells, .agg M.cells] s (fun r s' => r = .v (.bool (decide (N = M))) ∧ s' = s) := by
  refine acalls_body Tryz.func46 rfl Tryz.ntmps46 Tryz.results46 (by simp) ?_
  unfold NodeV.cells
  obtain ⟨k, m, y, p, u⟩ := N
  obtain ⟨k', m', y', p', u'⟩ := M
  rw [node_eq_bool]
  refine wS fun K hK => ?_
  simp only [↓DN,UP,DF,Qa,Qb,Qc,Qd,Qe,Qf,Qg,Qh,reduceCtorEq,↓reduceIte,Na,Nb,Nc,Nk,Nf,Ng,Nh,Za,Zb,Zc,TT, intsV]
  intro o ho
  intro o' ho'
  have hne : o ≠ o' := by
    intro e
    subst e
    simp [AS.set] at ho'
  have hle : s.le ((s.set o [.v (.int .i64 k), bytesV m .any, .v (.int .u64 y), bytesV p .any, intsV u .any]).set o' [.v (.int .i64 k'), bytesV m' .any, .v (.int .u64 y'), bytesV p' .any, intsV u' .any]) := AS.le_set (AS.le_set (AS.le.refl s) ho _) (by simpa [AS.set, upd, hne.symm] using ho') _
  refine hK _ _ ?_;clear hK K
  rcases ff5 (k == k') ((y : Int) == (y' : Int)) (decide (m = m')) (decide (p = p')) (decide (u = u')) with hd | hd | hd | hd | hd | hd
  case inr.inr.inr.inr.inl | inr.inr.inr.inr.inr =>
    refine wS fun K hK => ?_
    simp only [↓DN,UP,DF,Qa,Qb,Qc,Qd,Qe,Qf,Qg,Qh,reduceCtorEq,↓reduceIte,Na,Nb,Nc,Nk,Nf,Ng,Nh,Za,Zb,Zc,TT, hne, hd, intsV, beq_list]
    refine acallk (refInts_calls u u' hl _) ?_
    rintro r s' ⟨rfl, rfl⟩
    simp only [↓AXq_nil,↓AXq_cons,pval,DX,Nat.reduceBEq,↓DN,UP,DF,Qa,Qb,Qc,Qd,Qe,Qf,Qg,Qh,reduceCtorEq,↓reduceIte,Na,Nb,Nc,Nk,Nf,Ng,Nh,Za,Zb,Zc,TT, hne, hd, intsV, beq_list]
    refine hK _ _ ?_;clear hK K
    refine awp_ret ?_
    simp only [retQ, AEnds, aresL, ares, List.toList_toArray, ↓upd_same]; try simp only [UP,DF,Nc,↓reduceIte,DT]
    refine ⟨_, s, AV.weak.refl _, hle, ?_, rfl⟩
    simp only [hd, Bool.and_true, Bool.true_and, Bool.false_and, Bool.and_false]
    try rfl
  all_goals
    refine wS fun K hK => ?_
    simp only [↓DN,UP,DF,Qa,Qb,Qc,Qd,Qe,Qf,Qg,Qh,reduceCtorEq,↓reduceIte,Na,Nb,Nc,Nk,Nf,Ng,Nh,Za,Zb,Zc,TT, hne, hd, intsV, beq_list]
    refine hK _ _ ?_;clear hK K
    refine awp_ret ?_
    simp only [retQ, AEnds, aresL, ares, List.toList_toArray, ↓upd_same]; try simp only [UP,DF,Nc,↓reduceIte,DT]
    refine ⟨_, s, AV.weak.refl _, hle, ?_, rfl⟩
    simp only [hd, Bool.and_true, Bool.true_and, Bool.false_and, Bool.and_false]
    try rfl

end Go.Proofs.YtcnilmidfhpckaaGreatDoor


set_option autoImplicit false
namespace Go.Proofs.YtcnilmidfhpckaaGreatDoor
open Go Go.AM Go.Proofs


variable {Γ : Nat → List AV}

theorem int_eq_no {a b : Int} (h : a ≠ b) : (a == b) = false := by simpa using h
theorem int_eq_yes {a b : Int} (h : a = b) : (a == b) = true := by simpa using h

set_option maxHeartbeats 1000000 in
theorem rising_calls (l : List Int) (hl : l.length ≤ 2 ^ 61) (s : AS) : ACalls Tryz.prog Γ 97 [intsV l .any] s (fun r s' => r = .v (.bool (decide (Rising l))) ∧ s' = s) := by
  refine acalls_body Tryz.func97 rfl Tryz.ntmps97 Tryz.results97 (by simp) ?_
  unfold intsV
  refine wS fun K hK => ?_
  simp only [↓DN,UP,DF,Qa,Qb,Qc,Qd,Qe,Qf,Qg,Qh,reduceCtorEq,↓reduceIte,Na,Nb,Nc,Nk,Nf,Ng,Nh,Za,Zb,Zc,TT]
  refine hK _ _ ?_;clear hK K
  refine wK fun K hK => ?_
  refine wS fun K hK => ?_
  simp only [↓DN,UP,DF,Qa,Qb,Qc,Qd,Qe,Qf,Qg,Qh,reduceCtorEq,↓reduceIte,Na,Nb,Nc,Nk,Nf,Ng,Nh,Za,Zb,Zc,TT]
  refine hK _ _ ?_;clear hK K
  refine awp_block ?_
  refine awp_loop (fun E s1 => ∃ i : Nat, i ≤ l.length ∧ E 7 = .v (.int .i64 i) ∧ E 6 = .v (.int .i64 l.length) ∧ E 0 = .sl 1 l.length (l.map intC) .any ∧ E 5 = .sl 1 l.length (l.map intC) .any ∧ (∀ j, j < i → okAt l j) ∧ s1 = s)
    (fun E _ => match E 7 with | .v (.int _ i) => l.length - i.toNat | _ => 0) ?_ ?_
  · exact ⟨0, Nat.zero_le _, by simp [upd], by simp [upd], by simp [upd, initE], by simp [upd, initE], by simp, rfl⟩
  · rintro E1 s1 ⟨i, hi, h7, h6, h0, h5, hall, rfl⟩ -
    by_cases hi' : i < l.length
    · refine wS fun K hK => ?_
      simp only [↓DN,UP,DF,Qa,Qb,Qc,Qd,Qe,Qf,Qg,Qh,reduceCtorEq,↓reduceIte,Na,Nb,Nc,Nk,Nf,Ng,Nh,Za,Zb,Zc,TT, h7, h6, eye_lt_nat, decide_eq_true hi']
      refine hK _ _ ?_;clear hK K
      refine wK fun K2 hK2 => ?_
      refine wC fun X Y hX hY => ?_
      simp only [↓DN,UP,DF,Qa,Qb,Qc,Qd,Qe,Qf,Qg,Qh,reduceCtorEq,↓reduceIte,Na,Nb,Nc,Nk,Nf,Ng,Nh,Za,Zb,Zc,TT, DB]
      refine hX ?_;clear hX hY X Y
      refine awp_skip ?_
      refine hK2 _ _ ?_;clear hK2 K2
      refine wK fun K3 hK3 => ?_
      refine awp_block ?_
      have hge : (0 : Int) ≤ (i : Int) := by omega
      have hat := eat_int hi'
      have hok : (okAt l i) → ∀ E2 : Env, E2 7 = .v (.int .i64 i) → E2 6 = .v (.int .i64 l.length) → E2 0 = .sl 1 l.length (l.map intC) .any → E2 5 = .sl 1 l.length (l.map intC) .any → K3 E2 s1 := by
        intro ho E2 g7 g6 g0 g5
        refine hK3 _ _ ?_;clear hK3 K3
        refine wE fun K hK => ?_
        simp only [↓DN,UP,DF,Qa,Qb,Qc,Qd,Qe,Qf,Qg,Qh,reduceCtorEq,↓reduceIte,Na,Nb,Nc,Nk,Nf,Ng,Nh,Za,Zb,Zc,TT, g7, eye_succ i (by omega)]
        refine hK _ _ ?_;clear hK K
        refine ⟨⟨i + 1, by omega, by simp only [upd, ↓reduceIte], by simp only [upd, g6, Nc, ↓reduceIte], by simp only [upd, g0, Nc, ↓reduceIte], by simp only [upd, g5, Nc, ↓reduceIte], ?_, rfl⟩, ?_⟩
        · intro j hj
          by_cases hji : j < i
          · exact hall j hji
          · obtain rfl : j = i := by omega
            exact ho
        · simp only [h7, upd, ↓reduceIte]
          omega
      clear hK3
      have hbad : ¬ okAt l i → decide (Rising l) = false := fun h => decide_eq_false fun hr => h (hr i hi')
      refine wS fun K hK => ?_
      simp only [↓DN,UP,DF,Qa,Qb,Qc,Qd,Qe,Qf,Qg,Qh,reduceCtorEq,↓reduceIte,Na,Nb,Nc,Nk,Nf,Ng,Nh,Za,Zb,Zc,TT, h7, h5, hge, eye_lt_nat, hi', hat]
      refine hK _ _ ?_;clear hK K
      by_cases h1 : l[i] < 0
      · refine wS fun K hK => ?_
        simp only [↓DN,UP,DF,Qa,Qb,Qc,Qd,Qe,Qf,Qg,Qh,reduceCtorEq,↓reduceIte,Na,Nb,Nc,Nk,Nf,Ng,Nh,Za,Zb,Zc,TT, decide_eq_true h1]
        refine hK _ _ ?_;clear hK K
        refine wC fun X Y hX hY => ?_
        simp only [↓DN,UP,DF,Qa,Qb,Qc,Qd,Qe,Qf,Qg,Qh,reduceCtorEq,↓reduceIte,Na,Nb,Nc,Nk,Nf,Ng,Nh,Za,Zb,Zc,TT, DB]
        refine hX ?_;clear hX hY X Y
        refine wS fun K hK => ?_
        simp only [↓DN,UP,DF,Qa,Qb,Qc,Qd,Qe,Qf,Qg,Qh,reduceCtorEq,↓reduceIte,Na,Nb,Nc,Nk,Nf,Ng,Nh,Za,Zb,Zc,TT]
        refine hK _ _ ?_;clear hK K
        refine awp_ret ?_
        simp only [thenQ, blockQ]
        simp only [retQ, AEnds, aresL, ares, List.toList_toArray, ↓upd_same]; try simp only [UP,DF,Nc,↓reduceIte,DT]
        rw [hbad (fun h => by have := okAt_get hi' h; omega)]
        exact ⟨_, _, AV.weak.refl _, AS.le.refl _, rfl, rfl⟩
      by_cases h2 : 32 ≤ l[i]
      · refine wS fun K hK => ?_
        simp only [↓DN,UP,DF,Qa,Qb,Qc,Qd,Qe,Qf,Qg,Qh,reduceCtorEq,↓reduceIte,Na,Nb,Nc,Nk,Nf,Ng,Nh,Za,Zb,Zc,TT, decide_eq_false h1, decide_eq_true h2]
        refine hK _ _ ?_;clear hK K
        refine wC fun X Y hX hY => ?_
        simp only [↓DN,UP,DF,Qa,Qb,Qc,Qd,Qe,Qf,Qg,Qh,reduceCtorEq,↓reduceIte,Na,Nb,Nc,Nk,Nf,Ng,Nh,Za,Zb,Zc,TT, DB]
        refine hX ?_;clear hX hY X Y
        refine wS fun K hK => ?_
        simp only [↓DN,UP,DF,Qa,Qb,Qc,Qd,Qe,Qf,Qg,Qh,reduceCtorEq,↓reduceIte,Na,Nb,Nc,Nk,Nf,Ng,Nh,Za,Zb,Zc,TT]
        refine hK _ _ ?_;clear hK K
        refine awp_ret ?_
        simp only [thenQ, blockQ]
        simp only [retQ, AEnds, aresL, ares, List.toList_toArray, ↓upd_same]; try simp only [UP,DF,Nc,↓reduceIte,DT]
        rw [hbad (fun h => by have := okAt_get hi' h; omega)]
        exact ⟨_, _, AV.weak.refl _, AS.le.refl _, rfl, rfl⟩
      by_cases h3 : (0 : Int) < (i : Int)
      · have hj : i - 1 < l.length := by omega
        have hsub : isub .i64 (i : Int) 1 = ((i - 1 : Nat) : Int) := by rw [isub_i64 (by omega)]; omega
        have hat2 := eat_int hj
        have hge2 : (0 : Int) ≤ ((i - 1 : Nat) : Int) := by omega
        by_cases h4 : l[i] ≤ l[i - 1]
        · refine wS fun K hK => ?_
          simp only [↓DN,UP,DF,Qa,Qb,Qc,Qd,Qe,Qf,Qg,Qh,reduceCtorEq,↓reduceIte,Na,Nb,Nc,Nk,Nf,Ng,Nh,Za,Zb,Zc,TT, decide_eq_false h1, decide_eq_false h2, decide_eq_true h3, h0, hsub, hge2, eye_lt_nat, hj, hat2, decide_eq_true h4]
          refine hK _ _ ?_;clear hK K
          refine wC fun X Y hX hY => ?_
          simp only [↓DN,UP,DF,Qa,Qb,Qc,Qd,Qe,Qf,Qg,Qh,reduceCtorEq,↓reduceIte,Na,Nb,Nc,Nk,Nf,Ng,Nh,Za,Zb,Zc,TT, DB]
          refine hX ?_;clear hX hY X Y
          refine wS fun K hK => ?_
          simp only [↓DN,UP,DF,Qa,Qb,Qc,Qd,Qe,Qf,Qg,Qh,reduceCtorEq,↓reduceIte,Na,Nb,Nc,Nk,Nf,Ng,Nh,Za,Zb,Zc,TT]
          refine hK _ _ ?_;clear hK K
          refine awp_ret ?_
          simp only [thenQ, blockQ]
          simp only [retQ, AEnds, aresL, ares, List.toList_toArray, ↓upd_same]; try simp only [UP,DF,Nc,↓reduceIte,DT]
          rw [hbad (fun h => by have := (okAt_get hi' h).2.2 (by omega); omega)]
          exact ⟨_, _, AV.weak.refl _, AS.le.refl _, rfl, rfl⟩
        · refine wS fun K hK => ?_
          simp only [↓DN,UP,DF,Qa,Qb,Qc,Qd,Qe,Qf,Qg,Qh,reduceCtorEq,↓reduceIte,Na,Nb,Nc,Nk,Nf,Ng,Nh,Za,Zb,Zc,TT, decide_eq_false h1, decide_eq_false h2, decide_eq_true h3, h0, hsub, hge2, eye_lt_nat, hj, hat2, decide_eq_false h4]
          refine hK _ _ ?_;clear hK K
          refine wC fun X Y hX hY => ?_
          simp only [↓DN,UP,DF,Qa,Qb,Qc,Qd,Qe,Qf,Qg,Qh,reduceCtorEq,↓reduceIte,Na,Nb,Nc,Nk,Nf,Ng,Nh,Za,Zb,Zc,TT, DB]
          refine hY ?_;clear hX hY X Y
          refine awp_skip ?_
          simp only [blockQ, thenQ, if_true, if_false]
          exact hok (okAt_of hi' (by omega) (by omega) (fun _ => by omega)) _ (by simp only [upd, h7, Nc, ↓reduceIte]) (by simp only [upd, h6, Nc, ↓reduceIte]) (by simp only [upd, h0, Nc, ↓reduceIte]) (by simp only [upd, h5, Nc, ↓reduceIte])
      · refine wS fun K hK => ?_
        simp only [↓DN,UP,DF,Qa,Qb,Qc,Qd,Qe,Qf,Qg,Qh,reduceCtorEq,↓reduceIte,Na,Nb,Nc,Nk,Nf,Ng,Nh,Za,Zb,Zc,TT, decide_eq_false h1, decide_eq_false h2, decide_eq_false h3]
        refine hK _ _ ?_;clear hK K
        refine wC fun X Y hX hY => ?_
        simp only [↓DN,UP,DF,Qa,Qb,Qc,Qd,Qe,Qf,Qg,Qh,reduceCtorEq,↓reduceIte,Na,Nb,Nc,Nk,Nf,Ng,Nh,Za,Zb,Zc,TT, DB]
        refine hY ?_;clear hX hY X Y
        refine awp_skip ?_
        simp only [blockQ, thenQ, if_true, if_false]
        exact hok (okAt_of hi' (by omega) (by omega) (fun q => by omega)) _ (by simp only [upd, h7, Nc, ↓reduceIte]) (by simp only [upd, h6, Nc, ↓reduceIte]) (by simp only [upd, h0, Nc, ↓reduceIte]) (by simp only [upd, h5, Nc, ↓reduceIte])
    · refine wS fun K hK => ?_
      simp only [↓DN,UP,DF,Qa,Qb,Qc,Qd,Qe,Qf,Qg,Qh,reduceCtorEq,↓reduceIte,Na,Nb,Nc,Nk,Nf,Ng,Nh,Za,Zb,Zc,TT, h7, h6, eye_lt_nat, decide_eq_false hi']
      refine hK _ _ ?_;clear hK K
      refine wK fun K2 hK2 => ?_
      refine wC fun X Y hX hY => ?_
      simp only [↓DN,UP,DF,Qa,Qb,Qc,Qd,Qe,Qf,Qg,Qh,reduceCtorEq,↓reduceIte,Na,Nb,Nc,Nk,Nf,Ng,Nh,Za,Zb,Zc,TT, DB]
      refine hY ?_;clear hX hY X Y
      refine awp_exit ?_
      simp only [thenQ, blockQ, if_true]
      refine hK _ _ ?_;clear hK hK2 K K2
      refine wS fun K hK => ?_
      simp only [↓DN,UP,DF,Qa,Qb,Qc,Qd,Qe,Qf,Qg,Qh,reduceCtorEq,↓reduceIte,Na,Nb,Nc,Nk,Nf,Ng,Nh,Za,Zb,Zc,TT]
      refine hK _ _ ?_;clear hK K
      refine awp_ret ?_
      simp only [retQ, AEnds, aresL, ares, List.toList_toArray, ↓upd_same]; try simp only [UP,DF,Nc,↓reduceIte,DT]
      refine ⟨_, _, AV.weak.refl _, AS.le.refl _, ?_, rfl⟩
      rw [decide_eq_true (show Rising l from fun j hj => hall j (by omega))]

set_option maxRecDepth 100000 in
set_option maxHeartbeats 1000000 in
theorem held_calls (N : NodeV) (s : AS) : ACalls Tryz.prog Γ 96 [.agg N.cells] s (fun r s' => r = .v (.bool (decide N.held)) ∧ s' = s) := by
  refine acalls_body Tryz.func96 rfl Tryz.ntmps96 Tryz.results96 (by simp) ?_
  unfold NodeV.cells
  obtain ⟨k, m, y, p, u⟩ := N
  refine awp_reg_frz 1 (by simp [dsts]) ?_
  intro K hK
  simp only [↓AXq_nil,↓AXq_cons,pval,DX,Nat.reduceBEq,↓DN,UP,DF,Qa,Qb,Qc,Qd,Qe,Qf,Qg,Qh,reduceCtorEq,↓reduceIte,Na,Nb,Nc,Nk,Nf,Ng,Nh,Za,Zb,Zc,TT, intsV]
  intro o ho
  refine hK _ _ o _ (by simp only [upd, Nc, ↓reduceIte]) ho ?_
  clear hK K ho
  have hr : ∀ b, (NodeV.held ⟨k, m, y, p, u⟩ ↔ b = true) → decide (NodeV.held ⟨k, m, y, p, u⟩) = b := by
    intro b h
    cases b
    · exact decide_eq_false (fun h2 => by have := h.1 h2; cases this)
    · exact decide_eq_true (h.2 rfl)
  by_cases h1 : 2 ≤ (y : Int) ∧ (y : Int) ≤ 2305843009213693949
  · have hd : (decide (2 ≤ (y : Int)) && decide ((y : Int) ≤ 2305843009213693949)) = true := by simp; omega
    by_cases h2 : p.length = 0
    · refine wS fun K hK => ?_
      simp only [↓DN,UP,DF,Qa,Qb,Qc,Qd,Qe,Qf,Qg,Qh,reduceCtorEq,↓reduceIte,Na,Nb,Nc,Nk,Nf,Ng,Nh,Za,Zb,Zc,TT]
      refine acallk (powerRight_calls y s) ?_
      rintro r s' ⟨rfl, rfl⟩
      rw [hd]
      simp only [↓AXq_nil,↓AXq_cons,pval,DX,Nat.reduceBEq,↓DN,UP,DF,Qa,Qb,Qc,Qd,Qe,Qf,Qg,Qh,reduceCtorEq,↓reduceIte,Na,Nb,Nc,Nk,Nf,Ng,Nh,Za,Zb,Zc,TT, h2, show (((0 : Nat) : Int) == 0) = true from rfl]
      refine hK _ _ ?_;clear hK K
      refine awp_ret ?_
      simp only [retQ, AEnds, aresL, ares, List.toList_toArray, ↓upd_same]; try simp only [UP,DF,Nc,↓reduceIte,DT]
      rw [hr true ⟨fun _ => rfl, fun _ => ⟨by simp only; omega, by simp only; omega, .inl h2⟩⟩]
      exact ⟨_, _, AV.weak.refl _, AS.le.refl _, rfl, rfl⟩
    · by_cases h3 : p.length = 32
      · refine wS fun K hK => ?_
        simp only [↓DN,UP,DF,Qa,Qb,Qc,Qd,Qe,Qf,Qg,Qh,reduceCtorEq,↓reduceIte,Na,Nb,Nc,Nk,Nf,Ng,Nh,Za,Zb,Zc,TT]
        refine acallk (powerRight_calls y s) ?_
        rintro r s' ⟨rfl, rfl⟩
        rw [hd]
        simp only [↓AXq_nil,↓AXq_cons,pval,DX,Nat.reduceBEq,↓DN,UP,DF,Qa,Qb,Qc,Qd,Qe,Qf,Qg,Qh,reduceCtorEq,↓reduceIte,Na,Nb,Nc,Nk,Nf,Ng,Nh,Za,Zb,Zc,TT, h3, show (((32 : Nat) : Int) == 0) = false from rfl, show (((32 : Nat) : Int) == 32) = true from rfl]
        refine hK _ _ ?_;clear hK K
        refine awp_ret ?_
        simp only [retQ, AEnds, aresL, ares, List.toList_toArray, ↓upd_same]; try simp only [UP,DF,Nc,↓reduceIte,DT]
        rw [hr true ⟨fun _ => rfl, fun _ => ⟨by simp only; omega, by simp only; omega, .inr h3⟩⟩]
        exact ⟨_, _, AV.weak.refl _, AS.le.refl _, rfl, rfl⟩
      · refine wS fun K hK => ?_
        simp only [↓DN,UP,DF,Qa,Qb,Qc,Qd,Qe,Qf,Qg,Qh,reduceCtorEq,↓reduceIte,Na,Nb,Nc,Nk,Nf,Ng,Nh,Za,Zb,Zc,TT]
        refine acallk (powerRight_calls y s) ?_
        rintro r s' ⟨rfl, rfl⟩
        rw [hd]
        simp only [↓AXq_nil,↓AXq_cons,pval,DX,Nat.reduceBEq,↓DN,UP,DF,Qa,Qb,Qc,Qd,Qe,Qf,Qg,Qh,reduceCtorEq,↓reduceIte,Na,Nb,Nc,Nk,Nf,Ng,Nh,Za,Zb,Zc,TT, int_eq_no (show (p.length : Int) ≠ 0 by omega), int_eq_no (show (p.length : Int) ≠ 32 by omega)]
        refine hK _ _ ?_;clear hK K
        refine awp_ret ?_
        simp only [retQ, AEnds, aresL, ares, List.toList_toArray, ↓upd_same]; try simp only [UP,DF,Nc,↓reduceIte,DT]
        rw [hr false ⟨fun h => by have := h.2.2; simp only at this; omega, fun h => by cases h⟩]
        exact ⟨_, _, AV.weak.refl _, AS.le.refl _, rfl, rfl⟩
  · have hd : (decide (2 ≤ (y : Int)) && decide ((y : Int) ≤ 2305843009213693949)) = false := by simp; omega
    refine wS fun K hK => ?_
    simp only [↓DN,UP,DF,Qa,Qb,Qc,Qd,Qe,Qf,Qg,Qh,reduceCtorEq,↓reduceIte,Na,Nb,Nc,Nk,Nf,Ng,Nh,Za,Zb,Zc,TT]
    refine acallk (powerRight_calls y s) ?_
    rintro r s' ⟨rfl, rfl⟩
    rw [hd]
    simp only [↓AXq_nil,↓AXq_cons,pval,DX,Nat.reduceBEq,↓DN,UP,DF,Qa,Qb,Qc,Qd,Qe,Qf,Qg,Qh,reduceCtorEq,↓reduceIte,Na,Nb,Nc,Nk,Nf,Ng,Nh,Za,Zb,Zc,TT]
    refine hK _ _ ?_;clear hK K
    refine awp_ret ?_
    simp only [retQ, AEnds, aresL, ares, List.toList_toArray, ↓upd_same]; try simp only [UP,DF,Nc,↓reduceIte,DT]
    rw [hr false ⟨fun h => by have := h.1; have := h.2.1; simp only at *; omega, fun h => by cases h⟩]
    exact ⟨_, _, AV.weak.refl _, AS.le.refl _, rfl, rfl⟩

theorem noughtN_weak : (AV.agg [.v (.int .i64 0), .v (.slice none 0 0), .v (.int .u64 0), .v (.slice none 0 0), .v (.slice none 0 0)]).weak (.agg NodeV.nought.cells) :=
  AV.weak_agg (.cons (AV.weak.refl _) (.cons AV.weak_nil (.cons (AV.weak.refl _) (.cons AV.weak_nil (.cons AV.weak_nil .nil)))))

set_option maxRecDepth 100000 in
set_option maxHeartbeats 2000000 in
theorem nodeRight_calls (N : NodeV) (hl : N.unm.length ≤ 2 ^ 61) (s : AS) : ACalls Tryz.prog Γ 56 [.agg N.cells] s (fun r s' => r = .v (.bool (decide N.right)) ∧ s' = s) := by
  refine acalls_body Tryz.func56 rfl Tryz.ntmps56 Tryz.results56 (by simp) ?_
  unfold NodeV.cells
  obtain ⟨k, m, y, p, u⟩ := N
  refine awp_reg_frz 1 (by simp [dsts]) ?_
  intro K hK
  simp only [↓AXq_nil,↓AXq_cons,pval,DX,Nat.reduceBEq,↓DN,UP,DF,Qa,Qb,Qc,Qd,Qe,Qf,Qg,Qh,reduceCtorEq,↓reduceIte,Na,Nb,Nc,Nk,Nf,Ng,Nh,Za,Zb,Zc,TT, intsV]
  intro o ho
  refine hK _ _ o _ (by simp only [upd, Nc, ↓reduceIte]) ho ?_
  clear hK K ho
  have hrt : ∀ b, (NodeV.right ⟨k, m, y, p, u⟩ ↔ b = true) → decide (NodeV.right ⟨k, m, y, p, u⟩) = b := by
    intro b h
    cases b
    · exact decide_eq_false (fun h2 => by have := h.1 h2; cases this)
    · exact decide_eq_true (h.2 rfl)
  refine wK fun K hK => ?_
  refine wS fun K hK => ?_
  simp only [↓DN,UP,DF,Qa,Qb,Qc,Qd,Qe,Qf,Qg,Qh,reduceCtorEq,↓reduceIte,Na,Nb,Nc,Nk,Nf,Ng,Nh,Za,Zb,Zc,TT]
  refine hK _ _ ?_;clear hK K
  refine awp_block ?_
  by_cases h0 : k = 0
  · refine wS fun K hK => ?_
    simp only [↓DN,UP,DF,Qa,Qb,Qc,Qd,Qe,Qf,Qg,Qh,reduceCtorEq,↓reduceIte,Na,Nb,Nc,Nk,Nf,Ng,Nh,Za,Zb,Zc,TT, int_eq_yes h0]
    refine hK _ _ ?_;clear hK K
    refine wC fun X Y hX hY => ?_
    simp only [↓DN,UP,DF,Qa,Qb,Qc,Qd,Qe,Qf,Qg,Qh,reduceCtorEq,↓reduceIte,Na,Nb,Nc,Nk,Nf,Ng,Nh,Za,Zb,Zc,TT, DB]
    refine hX ?_;clear hX hY X Y
    refine wS fun K hK => ?_
    simp only [↓DN,UP,DF,Qa,Qb,Qc,Qd,Qe,Qf,Qg,Qh,reduceCtorEq,↓reduceIte,Na,Nb,Nc,Nk,Nf,Ng,Nh,Za,Zb,Zc,TT, intsV]
    refine acallk (ACalls.weaks (.cons (AV.weak.refl _) (.cons noughtN_weak .nil)) (nodeSame_calls ⟨k, m, y, p, u⟩ NodeV.nought hl s)) ?_
    rintro r s' ⟨rfl, rfl⟩
    simp only [↓AXq_nil,↓AXq_cons,pval,DX,Nat.reduceBEq,↓DN,UP,DF,Qa,Qb,Qc,Qd,Qe,Qf,Qg,Qh,reduceCtorEq,↓reduceIte,Na,Nb,Nc,Nk,Nf,Ng,Nh,Za,Zb,Zc,TT]
    refine hK _ _ ?_;clear hK K
    refine awp_ret ?_
    simp only [thenQ, blockQ]
    simp only [retQ, AEnds, aresL, ares, List.toList_toArray, ↓upd_same]; try simp only [UP,DF,Nc,↓reduceIte,DT]
    refine ⟨_, _, AV.weak.refl _, AS.le.refl _, ?_, rfl⟩
    rw [hrt _ ((right_zero (N := ⟨k, m, y, p, u⟩) h0).trans decide_eq_true_iff.symm)]
  by_cases h1 : k = 1
  · have hri := right_one (N := ⟨k, m, y, p, u⟩) h1
    simp only at hri
    rcases ff4 (decide (1 ≤ (m.length : Int))) (decide ((m.length : Int) ≤ 16)) (decide (NodeV.held ⟨k, m, y, p, u⟩)) ((u.length : Int) == 0) with hd | hd | hd | hd | hd
    case inl | inr.inl =>
      refine wS fun K hK => ?_
      simp only [↓DN,UP,DF,Qa,Qb,Qc,Qd,Qe,Qf,Qg,Qh,reduceCtorEq,↓reduceIte,Na,Nb,Nc,Nk,Nf,Ng,Nh,Za,Zb,Zc,TT, int_eq_no h0]
      refine hK _ _ ?_;clear hK K
      refine wC fun X Y hX hY => ?_
      simp only [↓DN,UP,DF,Qa,Qb,Qc,Qd,Qe,Qf,Qg,Qh,reduceCtorEq,↓reduceIte,Na,Nb,Nc,Nk,Nf,Ng,Nh,Za,Zb,Zc,TT, DB]
      refine hY ?_;clear hX hY X Y
      refine wS fun K hK => ?_
      simp only [↓DN,UP,DF,Qa,Qb,Qc,Qd,Qe,Qf,Qg,Qh,reduceCtorEq,↓reduceIte,Na,Nb,Nc,Nk,Nf,Ng,Nh,Za,Zb,Zc,TT, int_eq_yes h1]
      refine hK _ _ ?_;clear hK K
      refine wC fun X Y hX hY => ?_
      simp only [↓DN,UP,DF,Qa,Qb,Qc,Qd,Qe,Qf,Qg,Qh,reduceCtorEq,↓reduceIte,Na,Nb,Nc,Nk,Nf,Ng,Nh,Za,Zb,Zc,TT, DB]
      refine hX ?_;clear hX hY X Y
      refine wS fun K hK => ?_
      simp only [↓DN,UP,DF,Qa,Qb,Qc,Qd,Qe,Qf,Qg,Qh,reduceCtorEq,↓reduceIte,Na,Nb,Nc,Nk,Nf,Ng,Nh,Za,Zb,Zc,TT, hd, intsV]
      refine hK _ _ ?_;clear hK K
      refine awp_ret ?_
      simp only [thenQ, blockQ]
      simp only [retQ, AEnds, aresL, ares, List.toList_toArray, ↓upd_same]; try simp only [UP,DF,Nc,↓reduceIte,DT]
      refine ⟨_, _, AV.weak.refl _, AS.le.refl _, ?_, rfl⟩
      simp only [decide_eq_true_eq, decide_eq_false_iff_not, beq_iff_eq] at hd
      rw [hrt false ⟨fun h => by have := hri.1 h; omega, fun h => by cases h⟩]
    all_goals
      refine wS fun K hK => ?_
      simp only [↓DN,UP,DF,Qa,Qb,Qc,Qd,Qe,Qf,Qg,Qh,reduceCtorEq,↓reduceIte,Na,Nb,Nc,Nk,Nf,Ng,Nh,Za,Zb,Zc,TT, int_eq_no h0]
      refine hK _ _ ?_;clear hK K
      refine wC fun X Y hX hY => ?_
      simp only [↓DN,UP,DF,Qa,Qb,Qc,Qd,Qe,Qf,Qg,Qh,reduceCtorEq,↓reduceIte,Na,Nb,Nc,Nk,Nf,Ng,Nh,Za,Zb,Zc,TT, DB]
      refine hY ?_;clear hX hY X Y
      refine wS fun K hK => ?_
      simp only [↓DN,UP,DF,Qa,Qb,Qc,Qd,Qe,Qf,Qg,Qh,reduceCtorEq,↓reduceIte,Na,Nb,Nc,Nk,Nf,Ng,Nh,Za,Zb,Zc,TT, int_eq_yes h1]
      refine hK _ _ ?_;clear hK K
      refine wC fun X Y hX hY => ?_
      simp only [↓DN,UP,DF,Qa,Qb,Qc,Qd,Qe,Qf,Qg,Qh,reduceCtorEq,↓reduceIte,Na,Nb,Nc,Nk,Nf,Ng,Nh,Za,Zb,Zc,TT, DB]
      refine hX ?_;clear hX hY X Y
      refine wS fun K hK => ?_
      simp only [↓DN,UP,DF,Qa,Qb,Qc,Qd,Qe,Qf,Qg,Qh,reduceCtorEq,↓reduceIte,Na,Nb,Nc,Nk,Nf,Ng,Nh,Za,Zb,Zc,TT, hd, intsV]
      refine acallk (held_calls ⟨k, m, y, p, u⟩ s) ?_
      rintro r s' ⟨rfl, rfl⟩
      simp only [↓AXq_nil,↓AXq_cons,pval,DX,Nat.reduceBEq,↓DN,UP,DF,Qa,Qb,Qc,Qd,Qe,Qf,Qg,Qh,reduceCtorEq,↓reduceIte,Na,Nb,Nc,Nk,Nf,Ng,Nh,Za,Zb,Zc,TT, hd, intsV]
      refine hK _ _ ?_;clear hK K
      refine awp_ret ?_
      simp only [thenQ, blockQ]
      simp only [retQ, AEnds, aresL, ares, List.toList_toArray, ↓upd_same]; try simp only [UP,DF,Nc,↓reduceIte,DT]
      refine ⟨_, _, AV.weak.refl _, AS.le.refl _, ?_, rfl⟩
      simp only [decide_eq_true_eq, decide_eq_false_iff_not, beq_iff_eq, beq_eq_false_iff_ne] at hd
    · rw [hrt false ⟨fun h => absurd (hri.1 h).2.2.1 hd.2.2, fun h => by cases h⟩]
    · rw [hrt false ⟨fun h => by have := (hri.1 h).2.2.2; omega, fun h => by cases h⟩]
    · rw [hrt true ⟨fun _ => rfl, fun _ => hri.2 ⟨by omega, by omega, hd.2.2.1, by omega⟩⟩]
  by_cases h2 : k = 2
  · have hri := right_two (N := ⟨k, m, y, p, u⟩) h2
    simp only at hri hl
    rcases ff3 ((m.length : Int) == 0) (decide (NodeV.held ⟨k, m, y, p, u⟩)) (decide (Rising u)) with hd | hd | hd | hd
    all_goals
      refine wS fun K hK => ?_
      simp only [↓DN,UP,DF,Qa,Qb,Qc,Qd,Qe,Qf,Qg,Qh,reduceCtorEq,↓reduceIte,Na,Nb,Nc,Nk,Nf,Ng,Nh,Za,Zb,Zc,TT, int_eq_no h0]
      refine hK _ _ ?_;clear hK K
      refine wC fun X Y hX hY => ?_
      simp only [↓DN,UP,DF,Qa,Qb,Qc,Qd,Qe,Qf,Qg,Qh,reduceCtorEq,↓reduceIte,Na,Nb,Nc,Nk,Nf,Ng,Nh,Za,Zb,Zc,TT, DB]
      refine hY ?_;clear hX hY X Y
      refine wS fun K hK => ?_
      simp only [↓DN,UP,DF,Qa,Qb,Qc,Qd,Qe,Qf,Qg,Qh,reduceCtorEq,↓reduceIte,Na,Nb,Nc,Nk,Nf,Ng,Nh,Za,Zb,Zc,TT, int_eq_no h1]
      refine hK _ _ ?_;clear hK K
      refine wC fun X Y hX hY => ?_
      simp only [↓DN,UP,DF,Qa,Qb,Qc,Qd,Qe,Qf,Qg,Qh,reduceCtorEq,↓reduceIte,Na,Nb,Nc,Nk,Nf,Ng,Nh,Za,Zb,Zc,TT, DB]
      refine hY ?_;clear hX hY X Y
      refine wS fun K hK => ?_
      simp only [↓DN,UP,DF,Qa,Qb,Qc,Qd,Qe,Qf,Qg,Qh,reduceCtorEq,↓reduceIte,Na,Nb,Nc,Nk,Nf,Ng,Nh,Za,Zb,Zc,TT, int_eq_yes h2]
      refine hK _ _ ?_;clear hK K
      refine wC fun X Y hX hY => ?_
      simp only [↓DN,UP,DF,Qa,Qb,Qc,Qd,Qe,Qf,Qg,Qh,reduceCtorEq,↓reduceIte,Na,Nb,Nc,Nk,Nf,Ng,Nh,Za,Zb,Zc,TT, DB]
      refine hX ?_;clear hX hY X Y
    · refine wS fun K hK => ?_
      simp only [↓DN,UP,DF,Qa,Qb,Qc,Qd,Qe,Qf,Qg,Qh,reduceCtorEq,↓reduceIte,Na,Nb,Nc,Nk,Nf,Ng,Nh,Za,Zb,Zc,TT, hd, intsV]
      refine hK _ _ ?_;clear hK K
      refine awp_ret ?_
      simp only [thenQ, blockQ]
      simp only [retQ, AEnds, aresL, ares, List.toList_toArray, ↓upd_same]; try simp only [UP,DF,Nc,↓reduceIte,DT]
      refine ⟨_, _, AV.weak.refl _, AS.le.refl _, ?_, rfl⟩
      simp only [beq_eq_false_iff_ne] at hd
      rw [hrt false ⟨fun h => by have := (hri.1 h).1; omega, fun h => by cases h⟩]
    · refine wS fun K hK => ?_
      simp only [↓DN,UP,DF,Qa,Qb,Qc,Qd,Qe,Qf,Qg,Qh,reduceCtorEq,↓reduceIte,Na,Nb,Nc,Nk,Nf,Ng,Nh,Za,Zb,Zc,TT, hd, intsV]
      refine acallk (held_calls ⟨k, m, y, p, u⟩ s) ?_
      rintro r s' ⟨rfl, rfl⟩
      simp only [↓AXq_nil,↓AXq_cons,pval,DX,Nat.reduceBEq,↓DN,UP,DF,Qa,Qb,Qc,Qd,Qe,Qf,Qg,Qh,reduceCtorEq,↓reduceIte,Na,Nb,Nc,Nk,Nf,Ng,Nh,Za,Zb,Zc,TT, hd, intsV]
      refine hK _ _ ?_;clear hK K
      refine awp_ret ?_
      simp only [thenQ, blockQ]
      simp only [retQ, AEnds, aresL, ares, List.toList_toArray, ↓upd_same]; try simp only [UP,DF,Nc,↓reduceIte,DT]
      refine ⟨_, _, AV.weak.refl _, AS.le.refl _, ?_, rfl⟩
      simp only [decide_eq_false_iff_not] at hd
      rw [hrt false ⟨fun h => absurd (hri.1 h).2.1 hd.2, fun h => by cases h⟩]
    all_goals
      refine wS fun K hK => ?_
      simp only [↓DN,UP,DF,Qa,Qb,Qc,Qd,Qe,Qf,Qg,Qh,reduceCtorEq,↓reduceIte,Na,Nb,Nc,Nk,Nf,Ng,Nh,Za,Zb,Zc,TT, hd, intsV]
      refine acallk (held_calls ⟨k, m, y, p, u⟩ s) ?_
      rintro r s' ⟨rfl, rfl⟩
      simp only [↓AXq_nil,↓AXq_cons,pval,DX,Nat.reduceBEq,↓DN,UP,DF,Qa,Qb,Qc,Qd,Qe,Qf,Qg,Qh,reduceCtorEq,↓reduceIte,Na,Nb,Nc,Nk,Nf,Ng,Nh,Za,Zb,Zc,TT, hd, intsV]
      refine acallk (rising_calls u hl _) ?_
      rintro r s' ⟨rfl, rfl⟩
      simp only [↓AXq_nil,↓AXq_cons,pval,DX,Nat.reduceBEq,↓DN,UP,DF,Qa,Qb,Qc,Qd,Qe,Qf,Qg,Qh,reduceCtorEq,↓reduceIte,Na,Nb,Nc,Nk,Nf,Ng,Nh,Za,Zb,Zc,TT, hd, intsV]
      refine hK _ _ ?_;clear hK K
      refine awp_ret ?_
      simp only [thenQ, blockQ]
      simp only [retQ, AEnds, aresL, ares, List.toList_toArray, ↓upd_same]; try simp only [UP,DF,Nc,↓reduceIte,DT]
      refine ⟨_, _, AV.weak.refl _, AS.le.refl _, ?_, rfl⟩
      simp only [decide_eq_true_eq, decide_eq_false_iff_not, beq_iff_eq] at hd
    · rw [hrt false ⟨fun h => absurd (hri.1 h).2.2 hd.2.2, fun h => by cases h⟩]
    · rw [hrt true ⟨fun _ => rfl, fun _ => hri.2 ⟨by omega, hd.2.1, hd.2.2⟩⟩]
  · refine wS fun K hK => ?_
    simp only [↓DN,UP,DF,Qa,Qb,Qc,Qd,Qe,Qf,Qg,Qh,reduceCtorEq,↓reduceIte,Na,Nb,Nc,Nk,Nf,Ng,Nh,Za,Zb,Zc,TT, int_eq_no h0]
    refine hK _ _ ?_;clear hK K
    refine wC fun X Y hX hY => ?_
    simp only [↓DN,UP,DF,Qa,Qb,Qc,Qd,Qe,Qf,Qg,Qh,reduceCtorEq,↓reduceIte,Na,Nb,Nc,Nk,Nf,Ng,Nh,Za,Zb,Zc,TT, DB]
    refine hY ?_;clear hX hY X Y
    refine wS fun K hK => ?_
    simp only [↓DN,UP,DF,Qa,Qb,Qc,Qd,Qe,Qf,Qg,Qh,reduceCtorEq,↓reduceIte,Na,Nb,Nc,Nk,Nf,Ng,Nh,Za,Zb,Zc,TT, int_eq_no h1]
    refine hK _ _ ?_;clear hK K
    refine wC fun X Y hX hY => ?_
    simp only [↓DN,UP,DF,Qa,Qb,Qc,Qd,Qe,Qf,Qg,Qh,reduceCtorEq,↓reduceIte,Na,Nb,Nc,Nk,Nf,Ng,Nh,Za,Zb,Zc,TT, DB]
    refine hY ?_;clear hX hY X Y
    refine wS fun K hK => ?_
    simp only [↓DN,UP,DF,Qa,Qb,Qc,Qd,Qe,Qf,Qg,Qh,reduceCtorEq,↓reduceIte,Na,Nb,Nc,Nk,Nf,Ng,Nh,Za,Zb,Zc,TT, int_eq_no h2]
    refine hK _ _ ?_;clear hK K
    refine wC fun X Y hX hY => ?_
    simp only [↓DN,UP,DF,Qa,Qb,Qc,Qd,Qe,Qf,Qg,Qh,reduceCtorEq,↓reduceIte,Na,Nb,Nc,Nk,Nf,Ng,Nh,Za,Zb,Zc,TT, DB]
    refine hY ?_;clear hX hY X Y
    refine awp_skip ?_
    simp only [blockQ, thenQ, if_true, if_false]
    refine hK _ _ ?_;clear hK K
    refine wS fun K hK => ?_
    simp only [↓DN,UP,DF,Qa,Qb,Qc,Qd,Qe,Qf,Qg,Qh,reduceCtorEq,↓reduceIte,Na,Nb,Nc,Nk,Nf,Ng,Nh,Za,Zb,Zc,TT]
    refine hK _ _ ?_;clear hK K
    refine awp_ret ?_
    simp only [retQ, AEnds, aresL, ares, List.toList_toArray, ↓upd_same]; try simp only [UP,DF,Nc,↓reduceIte,DT]
    refine ⟨_, _, AV.weak.refl _, AS.le.refl _, ?_, rfl⟩
    rw [hrt false ⟨fun h => absurd h (right_else (N := ⟨k, m, y, p, u⟩) h0 h1 h2), fun h => by cases h⟩]

end Go.Proofs.YtcnilmidfhpckaaGreatDoor


