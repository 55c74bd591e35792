/- Contracts of the program's functions, each walked once; the conditions stand in each theorem. -/
import Derived.Test.YtoagkleecgngdaaGreatDoorAMp6
import Derived.Test.YtoagkleecgngdaaGreatDoorW1
import Derived.Test.YtoagkleecgngdaaGreatDoorW6
import Derived.Test.YtoagkleecgngdaaGreatDoorW3
import Derived.Test.YtoagkleecgngdaaGreatDoorW2
import Derived.Test.YtoagkleecgngdaaGreatDoorW4
set_option linter.unusedSimpArgs false
set_option linter.unusedVariables false
open Nat renaming reduceLT → Na, reduceLeDiff → Nb, reduceEqDiff → Nc, reduceAdd → Nk, reduceMul → Nf, reducePow → Ng, reduceSub → Nh
open Int renaming reduceLT → Za, reduceLE → Zb, reduceToNat → Zc
open Go.AM renaming ashift → Qa, aconv → Qb, aindexAddr → Qc, aindex → Qd, aslice → Qe, abuiltin → Qf, awp_reg_seq → wS, awp_reg_end → wE, awp_seq_k → wK, awp_cond_k → wC
open Go.AM.AV renaming cells → Qg, one → Qh
set_option autoImplicit false
namespace Go.Proofs.YtoagkleecgngdaaGreatDoor
open Go Go.AM Go.Proofs


variable {Γ : Nat → List AV}



theorem or_xor_zero (c x y : UInt8) : c ||| (x ^^^ y) = 0 ↔ c = 0 ∧ x = y := by
  rw [UInt8.or_eq_zero_iff, UInt8.xor_eq_zero_iff]
theorem byte_or (a b : UInt8) : ior .u8 (a.toNat : Int) (b.toNat : Int) = (((a ||| b).toNat : Nat) : Int) := by
  rw [ior_u (k := .u8) rfl a.toNat b.toNat (by simpa [IntKind.bits] using a.toNat_lt) (by simpa [IntKind.bits] using b.toNat_lt), UInt8.toNat_or]
theorem byte_zero (c : UInt8) : (((c.toNat : Nat) : Int) == 0) = decide (c = 0) := by
  rw [Bool.eq_iff_iff, beq_iff_eq, decide_eq_true_iff, ← UInt8.toNat_inj]
  simp
theorem take_same (a b : List UInt8) (i : Nat) (ha : i < a.length) (hb : i < b.length) : a.take (i + 1) = b.take (i + 1) ↔ a.take i = b.take i ∧ a.getD i 0 = b.getD i 0 := by
  rw [List.take_succ_eq_append_getElem ha, List.take_succ_eq_append_getElem hb]
  have e1 : (a.take i).length = (b.take i).length := by simp; omega
  constructor
  · intro h
    have := List.append_inj h e1
    refine ⟨this.1, ?_⟩
    simp only [List.getD_eq_getElem?_getD, List.getElem?_eq_getElem ha, List.getElem?_eq_getElem hb, Option.getD_some]
    simpa using this.2
  · rintro ⟨h1, h2⟩
    simp only [List.getD_eq_getElem?_getD, List.getElem?_eq_getElem ha, List.getElem?_eq_getElem hb, Option.getD_some] at h2
    rw [h1, h2]

set_option maxHeartbeats 2000000 in
theorem same_calls (a b : List UInt8) (ha : a.length ≤ 2 ^ 40) (s : AS) :
    ACalls Tryz.prog Γ 233 [bytesV a .any, bytesV b .any] s (fun r s' => r = .v (.bool (decide (a = b))) ∧ s' = s) := by
  refine acalls_body Tryz.func233 rfl Tryz.ntmps233 Tryz.results233 (by simp) ?_
  refine wS fun K hK => ?_
  simp only [↓DN,UP,DF,Qa,Qb,Qc,Qd,Qe,Qf,Qg,Qh,reduceCtorEq,↓reduceIte,Na,Nb,Nc,Nk,Nf,Ng,Nh,Za,Zb,Zc,TT]
  refine hK _ _ ?_;clear hK K
  refine wK fun K hK => ?_
  by_cases hne : a.length = b.length
  · refine wS fun K hK => ?_
    simp only [↓DN,UP,DF,Qa,Qb,Qc,Qd,Qe,Qf,Qg,Qh,reduceCtorEq,↓reduceIte,Na,Nb,Nc,Nk,Nf,Ng,Nh,Za,Zb,Zc,TT, show ((a.length : Int) != (b.length : Int)) = false from by rw [hne]; simp]
    refine hK _ _ ?_;clear hK K
    refine wC fun X Y hX hY => ?_
    simp only [↓DN,UP,DF,Qa,Qb,Qc,Qd,Qe,Qf,Qg,Qh,reduceCtorEq,↓reduceIte,Na,Nb,Nc,Nk,Nf,Ng,Nh,Za,Zb,Zc,TT, DB]
    refine hY ?_;clear hX hY X Y
    refine awp_skip ?_
    refine hK _ _ ?_;clear hK K
    refine wS fun K hK => ?_
    simp only [↓DN,UP,DF,Qa,Qb,Qc,Qd,Qe,Qf,Qg,Qh,reduceCtorEq,↓reduceIte,Na,Nb,Nc,Nk,Nf,Ng,Nh,Za,Zb,Zc,TT]
    refine hK _ _ ?_;clear hK K
    refine wK fun K hK => ?_
    refine wS fun K hK => ?_
    simp only [↓DN,UP,DF,Qa,Qb,Qc,Qd,Qe,Qf,Qg,Qh,reduceCtorEq,↓reduceIte,Na,Nb,Nc,Nk,Nf,Ng,Nh,Za,Zb,Zc,TT]
    refine hK _ _ ?_;clear hK K
    refine awp_block ?_
    refine awp_loop (fun E s2 => ∃ (i : Nat) (c : UInt8), i ≤ a.length ∧ E 0 = .sl 1 a.length (a.map byteV) .any ∧ E 1 = .sl 1 b.length (b.map byteV) .any ∧ E 5 = .v (.int .u8 (c.toNat : Int)) ∧ E 13 = .v (.int .i64 a.length) ∧ E 14 = .v (.int .i64 i) ∧ (c = 0 ↔ a.take i = b.take i) ∧ s2 = s)
      (fun E _ => match E 14 with | .v (.int _ y) => a.length - y.toNat | _ => 0) ?_ ?_
    · exact ⟨0, 0, by omega, by simp only [upd, initE, Nc, ↓reduceIte, List.getD_cons_succ, List.getD_cons_zero, bytesV], by simp only [upd, initE, Nc, ↓reduceIte, List.getD_cons_succ, List.getD_cons_zero, bytesV], by simp only [upd, Nc, ↓reduceIte]; rfl, by simp only [upd, Nc, ↓reduceIte], by simp only [upd, ↓reduceIte]; rfl, by simp, rfl⟩
    · rintro E2 s2 ⟨i, c, hi, g0, g1, g5, g13, g14, hc, rfl⟩ -
      by_cases hi' : i < a.length
      · have hlt : (i : Int) < (a.length : Int) := by omega
        have hlt2 : (i : Int) < (b.length : Int) := by omega
        have hi0 : (0 : Int) ≤ (i : Int) := by omega
        have hga := bget' a i hi'
        have hgb := bget' b i (by omega)
        have hts := take_same a b i hi' (by omega)
        generalize a.getD i 0 = x at *
        generalize b.getD i 0 = y at *
        have hxor := Mac.byte_xor x y
        have hor := byte_or c (x ^^^ y)
        have hz := or_xor_zero c x y
        refine wS fun K hK => ?_
        simp only [↓DN,UP,DF,Qa,Qb,Qc,Qd,Qe,Qf,Qg,Qh,reduceCtorEq,↓reduceIte,Na,Nb,Nc,Nk,Nf,Ng,Nh,Za,Zb,Zc,TT, g13, g14, decide_eq_true hlt]
        refine hK _ _ ?_;clear hK K
        refine wK fun K2 hK2 => ?_
        refine wC fun X Y hX hY => ?_
        simp only [↓DN,UP,DF,Qa,Qb,Qc,Qd,Qe,Qf,Qg,Qh,reduceCtorEq,↓reduceIte,Na,Nb,Nc,Nk,Nf,Ng,Nh,Za,Zb,Zc,TT, DB]
        refine hX ?_;clear hX hY X Y
        refine awp_skip ?_
        refine hK2 _ _ ?_;clear hK2 K2
        refine wK fun K3 hK3 => ?_
        refine awp_block ?_
        refine wS fun K hK => ?_
        simp only [↓DN,UP,DF,Qa,Qb,Qc,Qd,Qe,Qf,Qg,Qh,reduceCtorEq,↓reduceIte,Na,Nb,Nc,Nk,Nf,Ng,Nh,Za,Zb,Zc,TT, g14]
        refine hK _ _ ?_;clear hK K
        refine awp_drw_end T.mixed [] (by kernel_rfl) ?_
        intro K hK
        simp only [↓AXq_nil,↓AXq_cons,pval,DX,Nat.reduceBEq,↓DN,UP,DF,Qa,Qb,Qc,Qd,Qe,Qf,Qg,Qh,reduceCtorEq,↓reduceIte,Na,Nb,Nc,Nk,Nf,Ng,Nh,Za,Zb,Zc,TT, g0, g1, g5, hi0, hlt, hlt2, hga, hgb, hxor, hor]
        refine hK _ _ ?_;clear hK K
        simp only [thenQ, blockQ, if_true, if_false]
        refine hK3 _ _ ?_;clear hK3 K3
        refine wE fun K hK => ?_
        simp only [↓DN,UP,DF,Qa,Qb,Qc,Qd,Qe,Qf,Qg,Qh,reduceCtorEq,↓reduceIte,Na,Nb,Nc,Nk,Nf,Ng,Nh,Za,Zb,Zc,TT, g14, w_succ i (by omega)]
        refine hK _ _ ?_;clear hK K
        refine ⟨⟨i + 1, c ||| (x ^^^ y), by omega, by simp only [upd, g0, Nc, ↓reduceIte], by simp only [upd, g1, Nc, ↓reduceIte], by simp only [upd, Nc, ↓reduceIte], by simp only [upd, g13, Nc, ↓reduceIte], by simp only [upd, ↓reduceIte], ?_, rfl⟩, ?_⟩
        · rw [hz, hc, hts]
        · simp only [g14, upd, ↓reduceIte]
          omega
      · have hlt : ¬ (i : Int) < (a.length : Int) := by omega
        obtain rfl : i = a.length := by omega
        refine wS fun K hK => ?_
        simp only [↓DN,UP,DF,Qa,Qb,Qc,Qd,Qe,Qf,Qg,Qh,reduceCtorEq,↓reduceIte,Na,Nb,Nc,Nk,Nf,Ng,Nh,Za,Zb,Zc,TT, g13, g14, decide_eq_false hlt]
        refine hK _ _ ?_;clear hK K
        refine wK fun K2 hK2 => ?_
        refine wC fun X Y hX hY => ?_
        simp only [↓DN,UP,DF,Qa,Qb,Qc,Qd,Qe,Qf,Qg,Qh,reduceCtorEq,↓reduceIte,Na,Nb,Nc,Nk,Nf,Ng,Nh,Za,Zb,Zc,TT, DB]
        refine hY ?_;clear hX hY X Y
        refine awp_exit ?_
        simp only [thenQ, blockQ, if_true]
        clear hK2 K2
        refine hK _ _ ?_;clear hK K
        rw [List.take_length, hne, List.take_length] at hc
        have hr : (((c.toNat : Nat) : Int) == 0) = decide (a = b) := by
          rw [byte_zero]
          exact decide_eq_decide.2 hc
        refine wS fun K hK => ?_
        simp only [↓DN,UP,DF,Qa,Qb,Qc,Qd,Qe,Qf,Qg,Qh,reduceCtorEq,↓reduceIte,Na,Nb,Nc,Nk,Nf,Ng,Nh,Za,Zb,Zc,TT, g5, hr]
        refine hK _ _ ?_;clear hK K
        refine awp_ret ?_
        simp only [retQ, AEnds, aresL, ares, List.toList_toArray, ↓upd_same]; try simp only [UP,DF,Nc,↓reduceIte,DT]
        exact ⟨_, _, AV.weak.refl _, AS.le.refl _, rfl, rfl⟩
  · refine wS fun K hK => ?_
    simp only [↓DN,UP,DF,Qa,Qb,Qc,Qd,Qe,Qf,Qg,Qh,reduceCtorEq,↓reduceIte,Na,Nb,Nc,Nk,Nf,Ng,Nh,Za,Zb,Zc,TT, show ((a.length : Int) != (b.length : Int)) = true from by rw [bne_iff_ne]; omega]
    refine hK _ _ ?_;clear hK K
    refine wC fun X Y hX hY => ?_
    simp only [↓DN,UP,DF,Qa,Qb,Qc,Qd,Qe,Qf,Qg,Qh,reduceCtorEq,↓reduceIte,Na,Nb,Nc,Nk,Nf,Ng,Nh,Za,Zb,Zc,TT, DB]
    refine hX ?_;clear hX hY X Y
    refine wS fun K hK => ?_
    simp only [↓DN,UP,DF,Qa,Qb,Qc,Qd,Qe,Qf,Qg,Qh,reduceCtorEq,↓reduceIte,Na,Nb,Nc,Nk,Nf,Ng,Nh,Za,Zb,Zc,TT]
    refine hK _ _ ?_;clear hK K
    refine awp_ret ?_
    simp only [retQ, AEnds, aresL, ares, List.toList_toArray, ↓upd_same]; try simp only [UP,DF,Nc,↓reduceIte,DT]
    exact ⟨.v (.bool false), _, AV.weak.refl _, AS.le.refl _, by rw [decide_eq_false (fun e => hne (by rw [e]))], rfl⟩

end Go.Proofs.YtoagkleecgngdaaGreatDoor


set_option autoImplicit false
namespace Go.Proofs.YtoagkleecgngdaaGreatDoor
open Go Go.AM Go.Proofs


variable {Γ : Nat → List AV}

theorem _root_.Go.AM.OutS.later {s s1 s2 : AS} {l : List UInt8} {r : AV} (h : OutS s l r s1) (hle : s1.le s2) : OutS s l r s2 := by
  refine ⟨AS.le.trans h.1 hle, ?_⟩
  rcases h.2 with h | ⟨t, e, h1, h2, h3⟩
  · exact .inl h
  · exact .inr ⟨t, e, h1, hle.own t e h2, h3⟩

/-- The last block: none, or a slice of one's own. -/
def LastS (l : List UInt8) (r : AV) : Prop := (l = [] ∧ r = .v (.slice none 0 0)) ∨ ∃ t e, r = .sl 1 l.length (l.map byteV) (.own t e)
theorem LastS.weak {l : List UInt8} {r : AV} (h : LastS l r) : r.weak (bytesV l .any) := by
  rcases h with ⟨rfl, rfl⟩ | ⟨t, e, rfl⟩
  · exact AV.weak_nil
  · exact AV.weak_any
theorem LastS.of {s s' : AS} {l : List UInt8} {r : AV} (h : OutS s l r s') : LastS l r := by
  rcases h.2 with ⟨h1, h2⟩ | ⟨t, e, _, _, h3⟩
  · exact .inl ⟨h1, h2⟩
  · exact .inr ⟨t, e, h3⟩
theorem LastS.cells {l : List UInt8} {r : AV} (h : LastS l r) : r.cells = [r] := by
  rcases h with ⟨_, rfl⟩ | ⟨t, e, rfl⟩ <;> rfl

theorem u8_succ (c : UInt8) : iadd .u8 (c.toNat : Int) 1 = (((c + 1).toNat : Nat) : Int) := by
  rw [show (1 : Int) = ((1 : Nat) : Int) from rfl, iadd_u (k := .u8) rfl]
  simp [IntKind.bits, UInt8.toNat_add]

set_option maxHeartbeats 2000000 in
set_option maxRecDepth 100000 in
theorem expand_calls (hG0 : Γ 0 = stC Sha.H0) (hG : Γ 1 = Sha.K.map wV) (secret info : List UInt8) (hk : secret.length ≤ 2 ^ 37) (hi : info.length ≤ 2 ^ 37) (n : Int) (s : AS) :
    ACalls Tryz.prog Γ 263 [bytesV secret .any, bytesV info .any, .v (.int .i64 n)] s (fun r s' => r = .tup [bytesV (Kdf.get secret info n) .any, .v (.bool (Kdf.ok n))] ∧ s' = s) := by
  refine acalls_body Tryz.func263 rfl Tryz.ntmps263 Tryz.results263 (by simp) ?_
  refine wS fun K hK => ?_
  simp only [↓DN,UP,DF,Qa,Qb,Qc,Qd,Qe,Qf,Qg,Qh,reduceCtorEq,↓reduceIte,Na,Nb,Nc,Nk,Nf,Ng,Nh,Za,Zb,Zc,TT]
  refine hK _ _ ?_;clear hK K
  refine wK fun K hK => ?_
  by_cases h0 : n < 0
  · have hok : Kdf.ok n = false := by simp [Kdf.ok]; omega
    refine wS fun K hK => ?_
    simp only [↓DN,UP,DF,Qa,Qb,Qc,Qd,Qe,Qf,Qg,Qh,reduceCtorEq,↓reduceIte,Na,Nb,Nc,Nk,Nf,Ng,Nh,Za,Zb,Zc,TT, decide_eq_true h0]
    refine hK _ _ ?_;clear hK K
    refine wC fun X Y hX hY => ?_
    simp only [↓DN,UP,DF,Qa,Qb,Qc,Qd,Qe,Qf,Qg,Qh,reduceCtorEq,↓reduceIte,Na,Nb,Nc,Nk,Nf,Ng,Nh,Za,Zb,Zc,TT, DB]
    refine hX ?_;clear hX hY X Y
    refine wS fun K hK => ?_
    simp only [↓DN,UP,DF,Qa,Qb,Qc,Qd,Qe,Qf,Qg,Qh,reduceCtorEq,↓reduceIte,Na,Nb,Nc,Nk,Nf,Ng,Nh,Za,Zb,Zc,TT]
    refine hK _ _ ?_;clear hK K
    refine awp_ret ?_
    simp only [retQ, AEnds, aresL, ares, List.toList_toArray, ↓upd_same]; try simp only [UP,DF,Nc,↓reduceIte,DT]
    exact ⟨_, _, AV.weak_tup2 AV.weak_nil (AV.weak.refl _), AS.le.refl _, by rw [Kdf.get, hok]; rfl, rfl⟩
  by_cases h1 : 8160 < n
  · have hok : Kdf.ok n = false := by simp [Kdf.ok]; omega
    refine wS fun K hK => ?_
    simp only [↓DN,UP,DF,Qa,Qb,Qc,Qd,Qe,Qf,Qg,Qh,reduceCtorEq,↓reduceIte,Na,Nb,Nc,Nk,Nf,Ng,Nh,Za,Zb,Zc,TT, decide_eq_false h0, decide_eq_true h1]
    refine hK _ _ ?_;clear hK K
    refine wC fun X Y hX hY => ?_
    simp only [↓DN,UP,DF,Qa,Qb,Qc,Qd,Qe,Qf,Qg,Qh,reduceCtorEq,↓reduceIte,Na,Nb,Nc,Nk,Nf,Ng,Nh,Za,Zb,Zc,TT, DB]
    refine hX ?_;clear hX hY X Y
    refine wS fun K hK => ?_
    simp only [↓DN,UP,DF,Qa,Qb,Qc,Qd,Qe,Qf,Qg,Qh,reduceCtorEq,↓reduceIte,Na,Nb,Nc,Nk,Nf,Ng,Nh,Za,Zb,Zc,TT]
    refine hK _ _ ?_;clear hK K
    refine awp_ret ?_
    simp only [retQ, AEnds, aresL, ares, List.toList_toArray, ↓upd_same]; try simp only [UP,DF,Nc,↓reduceIte,DT]
    exact ⟨_, _, AV.weak_tup2 AV.weak_nil (AV.weak.refl _), AS.le.refl _, by rw [Kdf.get, hok]; rfl, rfl⟩
  · have hok : Kdf.ok n = true := by simp [Kdf.ok]; omega
    obtain ⟨m, rfl⟩ : ∃ m : Nat, n = (m : Int) := ⟨n.toNat, by omega⟩
    have hm : m ≤ 8160 := by omega
    have hget : Kdf.get secret info (m : Int) = Kdf.expand secret info m := by rw [Kdf.get, hok]; rfl
    rw [hok, hget]
    refine wS fun K hK => ?_
    simp only [↓DN,UP,DF,Qa,Qb,Qc,Qd,Qe,Qf,Qg,Qh,reduceCtorEq,↓reduceIte,Na,Nb,Nc,Nk,Nf,Ng,Nh,Za,Zb,Zc,TT, decide_eq_false h0, decide_eq_false h1]
    refine hK _ _ ?_;clear hK K
    refine wC fun X Y hX hY => ?_
    simp only [↓DN,UP,DF,Qa,Qb,Qc,Qd,Qe,Qf,Qg,Qh,reduceCtorEq,↓reduceIte,Na,Nb,Nc,Nk,Nf,Ng,Nh,Za,Zb,Zc,TT, DB]
    refine hY ?_;clear hX hY X Y
    refine awp_skip ?_
    refine hK _ _ ?_;clear hK K
    refine wS fun K hK => ?_
    simp only [↓DN,UP,DF,Qa,Qb,Qc,Qd,Qe,Qf,Qg,Qh,reduceCtorEq,↓reduceIte,Na,Nb,Nc,Nk,Nf,Ng,Nh,Za,Zb,Zc,TT]
    refine hK _ _ ?_;clear hK K
    refine wK fun K hK => ?_
    refine wS fun K hK => ?_
    simp only [↓DN,UP,DF,Qa,Qb,Qc,Qd,Qe,Qf,Qg,Qh,reduceCtorEq,↓reduceIte,Na,Nb,Nc,Nk,Nf,Ng,Nh,Za,Zb,Zc,TT]
    refine hK _ _ ?_;clear hK K
    refine awp_block ?_
    have hmr : 32 * Kdf.rounds m ≤ 8191 := by unfold Kdf.rounds; omega
    refine awp_loop (fun E s1 => ∃ i : Nat, i ≤ Kdf.rounds m ∧ E 0 = .sl 1 secret.length (secret.map byteV) .any ∧ E 1 = .sl 1 info.length (info.map byteV) .any ∧ E 2 = .v (.int .i64 m) ∧ E 10 = .v (.int .u8 ((UInt8.ofNat (i + 1)).toNat : Int)) ∧ LastS (Kdf.blk secret info i) (E 9) ∧ OutS s (Kdf.row secret info i) (E 8) s1)
      (fun E _ => match E 8 with | .sl _ n _ _ => m - n | _ => m + 1) ?_ ?_
    · refine ⟨0, Nat.zero_le _, by simp only [upd, initE, Nc, ↓reduceIte, List.getD_cons_succ, List.getD_cons_zero, bytesV], by simp only [upd, initE, Nc, ↓reduceIte, List.getD_cons_succ, List.getD_cons_zero, bytesV], by simp only [upd, initE, Nc, ↓reduceIte, List.getD_cons_succ, List.getD_cons_zero], by simp only [upd, ↓reduceIte]; rfl, ?_, ?_⟩
      · simp only [upd, Nc, ↓reduceIte]; exact .inl ⟨rfl, rfl⟩
      · simp only [upd, Nc, ↓reduceIte]; exact OutS.nil s
    · rintro E2 s2 ⟨i, hir, g0, g1, g2, g10, hlast, hout⟩ -
      refine wK fun K2 hK2 => ?_
      have hrl := Kdf.row_len secret info i
      have hdue := Kdf.due m i
      have hmu : m - 32 * i ≤ (match E2 8 with | .sl _ n _ _ => m - n | _ => m + 1) := by
        rcases hout.2 with ⟨hr0, e8⟩ | ⟨t, e, _, _, e8⟩
        · rw [e8]
          simp only
          omega
        · rw [e8]
          simp only [hrl]
          exact Nat.le_refl _
      generalize hr8 : E2 8 = r8 at hout
      generalize hr9 : E2 9 = r9 at hlast
      by_cases hi' : i < Kdf.rounds m
      · have hlt : 32 * i < m := hdue.2 hi'
        have hgo : ∀ E3 : Env, E3 0 = .sl 1 secret.length (secret.map byteV) .any → E3 1 = .sl 1 info.length (info.map byteV) .any → E3 2 = .v (.int .i64 m) → E3 10 = .v (.int .u8 ((UInt8.ofNat (i + 1)).toNat : Int)) → E3 8 = r8 → E3 9 = r9 → K2 E3 s2 := by
          intro E3 f0 f1 f2 f10 f8 f9
          refine hK2 _ _ ?_;clear hK2 K2
          refine wK fun K3 hK3 => ?_
          refine awp_block ?_
          have hbl := Kdf.blk_len secret info i
          have hbk : Kdf.blk secret info (i + 1) = Mac.tag secret (Kdf.blk secret info i ++ info ++ [UInt8.ofNat (i + 1)]) := rfl
          have hrow : Kdf.row secret info (i + 1) = Kdf.row secret info i ++ Kdf.blk secret info (i + 1) := rfl
          have hbil : (Kdf.blk secret info i).length ≤ 32 := by
            cases i with
            | zero => simp [Kdf.blk]
            | succ j => rw [Kdf.blk_len]; exact Nat.le_refl _
          have rep3' : ∀ x : AV, List.replicate 3 x = [x, x, x] := fun _ => rfl
          have hw9 := hlast.weak
          have hcs := u8_succ (UInt8.ofNat (i + 1))
          have hc2 : UInt8.ofNat (i + 1) + 1 = UInt8.ofNat (i + 1 + 1) := by
            rw [← UInt8.toNat_inj, UInt8.toNat_add, UInt8.toNat_ofNat', UInt8.toNat_ofNat']
            simp
          rw [hc2] at hcs
          have hm0 := macTag_calls (Γ := Γ) hG0 hG secret [Kdf.blk secret info i, info, [UInt8.ofNat (i + 1)]] .new (by omega) (by simp) (by simp only [List.flatten_cons, List.flatten_nil, List.append_nil, List.length_append, List.length_cons, List.length_nil]; omega) s2
          rw [show [Kdf.blk secret info i, info, [UInt8.ofNat (i + 1)]].flatten = Kdf.blk secret info i ++ info ++ [UInt8.ofNat (i + 1)] from by simp, ← hbk] at hm0
          have hcall : ∀ r9' : AV, r9'.weak (bytesV (Kdf.blk secret info i) .any) → ACalls Tryz.prog Γ 265 [.sl 1 secret.length (secret.map byteV) .any, .sl 1 3 [r9', .sl 1 info.length (info.map byteV) .any, .sl 1 1 [.v (.int .u8 ((UInt8.ofNat (i + 1)).toNat : Int))] .new] .new] s2 (fun r s' => OutS s2 (Kdf.blk secret info (i + 1)) r s') := fun r9' hw =>
            ACalls.weaks (AVs.weak.cons (AV.weak.refl _) (AVs.weak.cons (AV.weak_slc (AVs.weak.cons hw (AVs.weak.cons (AV.weak.refl _) (AVs.weak.cons (AV.weak_any (sp := .new)) AVs.weak.nil)))) AVs.weak.nil)) hm0
          have hcall := hcall r9 hw9
          rcases hlast with ⟨_, rfl⟩ | ⟨t9, e9, rfl⟩
          all_goals
            refine wS fun K hK => ?_
            simp only [↓DN,UP,DF,Qa,Qb,Qc,Qd,Qe,Qf,Qg,Qh,reduceCtorEq,↓reduceIte,Na,Nb,Nc,Nk,Nf,Ng,Nh,Za,Zb,Zc,TT, f0, f1, f10, f9, List.replicate_one, rep3']
            refine acallk hcall ?_
            intro r s3 hr
            obtain ⟨t3, e3, rfl⟩ := outS_own hr (by rw [← List.length_pos_iff, hbl]; decide)
            have hout3 := hout.later hr.1
            have hl3 := LastS.of hr
            rw [hbl] at hl3
            simp only [↓AXq_nil,↓AXq_cons,pval,DX,Nat.reduceBEq,↓DN,UP,DF,Qa,Qb,Qc,Qd,Qe,Qf,Qg,Qh,reduceCtorEq,↓reduceIte,Na,Nb,Nc,Nk,Nf,Ng,Nh,Za,Zb,Zc,TT]
            refine hK _ _ ?_;clear hK K
            refine wE fun K hK => ?_
            simp only [↓DN,UP,DF,Qa,Qb,Qc,Qd,Qe,Qf,Qg,Qh,reduceCtorEq,↓reduceIte,Na,Nb,Nc,Nk,Nf,Ng,Nh,Za,Zb,Zc,TT, f8, hbl]
            refine aappend_out (ds := Kdf.blk secret info (i + 1)) hout3 hbl.symm rfl T.c5 T.b5 (by rw [hrl, hbl]; omega) ?_
            intro r2 s4 h4
            rw [← hrow] at h4
            obtain ⟨t4, e4, rfl⟩ := outS_own h4 (by rw [← List.length_pos_iff, Kdf.row_len]; omega)
            refine hK _ _ ?_
            clear hK
            simp only [thenQ, blockQ, if_true, if_false]
            refine hK3 _ _ ?_;clear hK3 K3
            refine wE fun K hK => ?_
            simp only [↓DN,UP,DF,Qa,Qb,Qc,Qd,Qe,Qf,Qg,Qh,reduceCtorEq,↓reduceIte,Na,Nb,Nc,Nk,Nf,Ng,Nh,Za,Zb,Zc,TT, f10, hcs]
            refine hK _ _ ?_;clear hK K
            refine ⟨⟨i + 1, by omega, by simp only [upd, f0, Nc, ↓reduceIte], by simp only [upd, f1, Nc, ↓reduceIte], by simp only [upd, f2, Nc, ↓reduceIte], by simp only [upd, ↓reduceIte], by simpa only [upd, Nc, ↓reduceIte] using hl3, by simpa only [upd, Nc, ↓reduceIte] using h4⟩, ?_⟩
            refine Nat.lt_of_lt_of_le ?_ hmu
            simp only [upd, Nc, ↓reduceIte, Kdf.row_len]
            omega
        rcases hout.2 with ⟨hr0, rfl⟩ | ⟨t, e, _, _, rfl⟩
        · have hi0 : 32 * i = 0 := by rw [← hrl, hr0]; rfl
          refine wS fun K hK => ?_
          simp only [↓DN,UP,DF,Qa,Qb,Qc,Qd,Qe,Qf,Qg,Qh,reduceCtorEq,↓reduceIte,Na,Nb,Nc,Nk,Nf,Ng,Nh,Za,Zb,Zc,TT, hr8, g2, decide_eq_true (show ((0 : Nat) : Int) < (m : Int) by omega)]
          refine hK _ _ ?_;clear hK K
          refine wC fun X Y hX hY => ?_
          simp only [↓DN,UP,DF,Qa,Qb,Qc,Qd,Qe,Qf,Qg,Qh,reduceCtorEq,↓reduceIte,Na,Nb,Nc,Nk,Nf,Ng,Nh,Za,Zb,Zc,TT, DB]
          refine hX ?_;clear hX hY X Y
          refine awp_skip ?_
          simp only [thenQ]
          refine hgo _ ?_ ?_ ?_ ?_ ?_ ?_
          · simp only [upd, g0, Nc, ↓reduceIte]
          · simp only [upd, g1, Nc, ↓reduceIte]
          · simp only [upd, g2, Nc, ↓reduceIte]
          · simp only [upd, g10, Nc, ↓reduceIte]
          · simp only [upd, hr8, Nc, ↓reduceIte]
          · simp only [upd, hr9, Nc, ↓reduceIte]
        · refine wS fun K hK => ?_
          simp only [↓DN,UP,DF,Qa,Qb,Qc,Qd,Qe,Qf,Qg,Qh,reduceCtorEq,↓reduceIte,Na,Nb,Nc,Nk,Nf,Ng,Nh,Za,Zb,Zc,TT, hr8, g2, hrl, decide_eq_true (show ((32 * i : Nat) : Int) < (m : Int) by omega)]
          refine hK _ _ ?_;clear hK K
          refine wC fun X Y hX hY => ?_
          simp only [↓DN,UP,DF,Qa,Qb,Qc,Qd,Qe,Qf,Qg,Qh,reduceCtorEq,↓reduceIte,Na,Nb,Nc,Nk,Nf,Ng,Nh,Za,Zb,Zc,TT, DB]
          refine hX ?_;clear hX hY X Y
          refine awp_skip ?_
          simp only [thenQ]
          refine hgo _ ?_ ?_ ?_ ?_ ?_ ?_
          · simp only [upd, g0, Nc, ↓reduceIte]
          · simp only [upd, g1, Nc, ↓reduceIte]
          · simp only [upd, g2, Nc, ↓reduceIte]
          · simp only [upd, g10, Nc, ↓reduceIte]
          · simp only [upd, hr8, hrl, Nc, ↓reduceIte]
          · simp only [upd, hr9, Nc, ↓reduceIte]
      · obtain rfl : i = Kdf.rounds m := by omega
        have hle := Kdf.rounds_le m
        have hs := hout.1
        have hm0 : (0 : Int) ≤ (m : Int) := by omega
        rcases hout.2 with ⟨hr0, rfl⟩ | ⟨t, e, _, _, rfl⟩
        · have hi0 : 32 * Kdf.rounds m = 0 := by rw [← hrl, hr0]; rfl
          obtain rfl : m = 0 := by omega
          refine wS fun K hK => ?_
          simp only [↓DN,UP,DF,Qa,Qb,Qc,Qd,Qe,Qf,Qg,Qh,reduceCtorEq,↓reduceIte,Na,Nb,Nc,Nk,Nf,Ng,Nh,Za,Zb,Zc,TT, hr8, g2, decide_eq_false (show ¬ ((0 : Nat) : Int) < ((0 : Nat) : Int) by decide)]
          refine hK _ _ ?_;clear hK K
          refine wC fun X Y hX hY => ?_
          simp only [↓DN,UP,DF,Qa,Qb,Qc,Qd,Qe,Qf,Qg,Qh,reduceCtorEq,↓reduceIte,Na,Nb,Nc,Nk,Nf,Ng,Nh,Za,Zb,Zc,TT, DB]
          refine hY ?_;clear hX hY X Y
          refine awp_exit ?_
          simp only [thenQ, blockQ, if_true]
          clear hK2 K2
          refine hK _ _ ?_;clear hK K
          refine wS fun K hK => ?_
          simp only [↓DN,UP,DF,Qa,Qb,Qc,Qd,Qe,Qf,Qg,Qh,reduceCtorEq,↓reduceIte,Na,Nb,Nc,Nk,Nf,Ng,Nh,Za,Zb,Zc,TT, hr8, g2, show ((0 : Nat) : Int) = 0 from rfl]
          refine hK _ _ ?_;clear hK K
          refine awp_ret ?_
          simp only [retQ, AEnds, aresL, ares, List.toList_toArray, ↓upd_same]; try simp only [UP,DF,Nc,↓reduceIte,DT]
          refine ⟨_, s, AV.weak_tup2 (AV.weak_nil (sz := 1)) (AV.weak.refl _), hs, ?_, rfl⟩
          have he : Kdf.expand secret info 0 = [] := List.eq_nil_of_length_eq_zero (Kdf.expand_len secret info 0)
          rw [hok, hget, he]
          rfl
        · refine wS fun K hK => ?_
          simp only [↓DN,UP,DF,Qa,Qb,Qc,Qd,Qe,Qf,Qg,Qh,reduceCtorEq,↓reduceIte,Na,Nb,Nc,Nk,Nf,Ng,Nh,Za,Zb,Zc,TT, hr8, g2, hrl, decide_eq_false (show ¬ ((32 * Kdf.rounds m : Nat) : Int) < (m : Int) by omega)]
          refine hK _ _ ?_;clear hK K
          refine wC fun X Y hX hY => ?_
          simp only [↓DN,UP,DF,Qa,Qb,Qc,Qd,Qe,Qf,Qg,Qh,reduceCtorEq,↓reduceIte,Na,Nb,Nc,Nk,Nf,Ng,Nh,Za,Zb,Zc,TT, DB]
          refine hY ?_;clear hX hY X Y
          refine awp_exit ?_
          simp only [thenQ, blockQ, if_true]
          clear hK2 K2
          refine hK _ _ ?_;clear hK K
          refine wS fun K hK => ?_
          simp only [↓DN,UP,DF,Qa,Qb,Qc,Qd,Qe,Qf,Qg,Qh,reduceCtorEq,↓reduceIte,Na,Nb,Nc,Nk,Nf,Ng,Nh,Za,Zb,Zc,TT, hr8, g2, hrl, hm0, show (m : Int) ≤ ((32 * Kdf.rounds m : Nat) : Int) by omega]
          refine hK _ _ ?_;clear hK K
          refine awp_ret ?_
          simp only [retQ, AEnds, aresL, ares, List.toList_toArray, ↓upd_same]; try simp only [UP,DF,Nc,↓reduceIte,DT]
          refine ⟨_, s, AV.weak_tup2 AV.weak_any (AV.weak.refl _), hs, ?_, rfl⟩
          rw [hok, hget, Kdf.expand_len, Nat.sub_zero]
          rfl

end Go.Proofs.YtoagkleecgngdaaGreatDoor


set_option autoImplicit false
namespace Go.Proofs.YtoagkleecgngdaaGreatDoor
open Go Go.AM Go.Proofs


variable {Γ : Nat → List AV}

theorem u8_of_i64 (i : Nat) : iconv .u8 (i : Int) = ((UInt8.ofNat i).toNat : Int) := by
  rw [iconv_u (k := .u8) rfl, UInt8.toNat_ofNat']
  simp only [IntKind.bits]

theorem is_byte (c : UInt8) : isByte (.v (.int .u8 (c.toNat : Int))) = true := by
  have := all_isByte_map [c]
  simpa [byteV] using this
theorem to_byte (c : UInt8) : toBytes [.v (.int .u8 (c.toNat : Int))] = ⟨[c].toArray⟩ := toBytes_map [c]

set_option maxHeartbeats 2000000 in
set_option maxRecDepth 100000 in
theorem refExpand_calls (secret info : List UInt8) (hk : secret.length ≤ 2 ^ 37) (hi : info.length ≤ 2 ^ 37) (m : Nat) (hm : m ≤ 8160) (s : AS) :
    ACalls Tryz.prog Γ 238 [.v (.string ⟨secret.toArray⟩), .v (.string ⟨info.toArray⟩), .v (.int .i64 m)] s (fun r s' => r = .v (.string ⟨(Kdf.expand secret info m).toArray⟩) ∧ s' = s) := by
  refine acalls_body Tryz.func238 rfl Tryz.ntmps238 Tryz.results238 (by simp) ?_
  have hmr : 32 * Kdf.rounds m ≤ 8191 := by unfold Kdf.rounds; omega
  refine wS fun K hK => ?_
  simp only [↓DN,UP,DF,Qa,Qb,Qc,Qd,Qe,Qf,Qg,Qh,reduceCtorEq,↓reduceIte,Na,Nb,Nc,Nk,Nf,Ng,Nh,Za,Zb,Zc,TT]
  refine hK _ _ ?_;clear hK K
  refine wS fun K hK => ?_
  simp only [↓DN,UP,DF,Qa,Qb,Qc,Qd,Qe,Qf,Qg,Qh,reduceCtorEq,↓reduceIte,Na,Nb,Nc,Nk,Nf,Ng,Nh,Za,Zb,Zc,TT]
  refine hK _ _ ?_;clear hK K
  refine wK fun K hK => ?_
  refine wS fun K hK => ?_
  simp only [↓DN,UP,DF,Qa,Qb,Qc,Qd,Qe,Qf,Qg,Qh,reduceCtorEq,↓reduceIte,Na,Nb,Nc,Nk,Nf,Ng,Nh,Za,Zb,Zc,TT]
  refine hK _ _ ?_;clear hK K
  refine awp_block ?_
  refine awp_loop (fun E s1 => ∃ i : Nat, i ≤ Kdf.rounds m ∧ E 0 = .v (.string ⟨secret.toArray⟩) ∧ E 1 = .v (.string ⟨info.toArray⟩) ∧ E 2 = .v (.int .i64 m) ∧ E 7 = .v (.string ⟨(Kdf.blk secret info i).toArray⟩) ∧ E 8 = .v (.string ⟨(Kdf.row secret info i).toArray⟩) ∧ E 9 = .v (.int .i64 ((i + 1 : Nat) : Int)) ∧ s1 = s)
    (fun E _ => match E 9 with | .v (.int _ x) => 300 - x.toNat | _ => 0) ?_ ?_
  · exact ⟨0, Nat.zero_le _, by simp only [upd, initE, Nc, ↓reduceIte, List.getD_cons_succ, List.getD_cons_zero], by simp only [upd, initE, Nc, ↓reduceIte, List.getD_cons_succ, List.getD_cons_zero], by simp only [upd, initE, Nc, ↓reduceIte, List.getD_cons_succ, List.getD_cons_zero], by simp only [upd, Nc, ↓reduceIte]; rfl, by simp only [upd, Nc, ↓reduceIte]; rfl, by simp only [upd, ↓reduceIte]; rfl, rfl⟩
  · rintro E2 s2 ⟨i, hir, g0, g1, g2, g7, g8, g9, rfl⟩ -
    refine wK fun K2 hK2 => ?_
    have hrl := Kdf.row_len secret info i
    have hdue := Kdf.due m i
    by_cases hi' : i < Kdf.rounds m
    · have hlt : 32 * i < m := hdue.2 hi'
      have hbl := Kdf.blk_len secret info i
      have hbk : Kdf.blk secret info (i + 1) = Mac.tag secret (Kdf.blk secret info i ++ info ++ [UInt8.ofNat (i + 1)]) := rfl
      have hrow : Kdf.row secret info (i + 1) = Kdf.row secret info i ++ Kdf.blk secret info (i + 1) := rfl
      have hbil : (Kdf.blk secret info i).length ≤ 32 := by
        cases i with
        | zero => simp [Kdf.blk]
        | succ j => rw [Kdf.blk_len]; exact Nat.le_refl _
      refine wS fun K hK => ?_
      simp only [↓DN,UP,DF,Qa,Qb,Qc,Qd,Qe,Qf,Qg,Qh,reduceCtorEq,↓reduceIte,Na,Nb,Nc,Nk,Nf,Ng,Nh,Za,Zb,Zc,TT, g2, g8, bs_size, hrl, decide_eq_true (show ((32 * i : Nat) : Int) < (m : Int) by omega)]
      refine hK _ _ ?_;clear hK K
      refine wC fun X Y hX hY => ?_
      simp only [↓DN,UP,DF,Qa,Qb,Qc,Qd,Qe,Qf,Qg,Qh,reduceCtorEq,↓reduceIte,Na,Nb,Nc,Nk,Nf,Ng,Nh,Za,Zb,Zc,TT, DB]
      refine hX ?_;clear hX hY X Y
      refine awp_skip ?_
      refine hK2 _ _ ?_;clear hK2 K2
      refine wK fun K3 hK3 => ?_
      refine awp_block ?_
      refine wS fun K hK => ?_
      simp only [↓DN,UP,DF,Qa,Qb,Qc,Qd,Qe,Qf,Qg,Qh,reduceCtorEq,↓reduceIte,Na,Nb,Nc,Nk,Nf,Ng,Nh,Za,Zb,Zc,TT, g0, g1, g7, g9, u8_of_i64, List.replicate_one, is_byte, to_byte, i64_room (show (Kdf.blk secret info i).length + info.length < 2 ^ 62 by omega), i64_room (show (Kdf.blk secret info i).length + info.length + 1 < 2 ^ 62 by omega)]
      refine acallk (refTag_calls secret (Kdf.blk secret info i ++ (info ++ [UInt8.ofNat (i + 1)])) (by omega) (by simp only [List.length_append, List.length_cons, List.length_nil]; omega) s2) ?_
      rintro r s3 ⟨rfl, rfl⟩
      rw [← List.append_assoc, ← hbk]
      simp only [↓AXq_nil,↓AXq_cons,pval,DX,Nat.reduceBEq,↓DN,UP,DF,Qa,Qb,Qc,Qd,Qe,Qf,Qg,Qh,reduceCtorEq,↓reduceIte,Na,Nb,Nc,Nk,Nf,Ng,Nh,Za,Zb,Zc,TT]
      refine hK _ _ ?_;clear hK K
      refine wE fun K hK => ?_
      simp only [↓DN,UP,DF,Qa,Qb,Qc,Qd,Qe,Qf,Qg,Qh,reduceCtorEq,↓reduceIte,Na,Nb,Nc,Nk,Nf,Ng,Nh,Za,Zb,Zc,TT, g8, i64_room (show (Kdf.row secret info i).length + (Kdf.blk secret info (i + 1)).length < 2 ^ 62 by omega)]
      rw [← hrow]
      refine hK _ _ ?_
      clear hK
      simp only [thenQ, blockQ, if_true, if_false]
      refine hK3 _ _ ?_;clear hK3 K3
      refine wE fun K hK => ?_
      simp only [↓DN,UP,DF,Qa,Qb,Qc,Qd,Qe,Qf,Qg,Qh,reduceCtorEq,↓reduceIte,Na,Nb,Nc,Nk,Nf,Ng,Nh,Za,Zb,Zc,TT, g9, w_succ (i + 1) (by omega)]
      refine hK _ _ ?_;clear hK K
      refine ⟨⟨i + 1, by omega, by simp only [upd, g0, Nc, ↓reduceIte], by simp only [upd, g1, Nc, ↓reduceIte], by simp only [upd, g2, Nc, ↓reduceIte], by simp only [upd, Nc, ↓reduceIte], by simp only [upd, Nc, ↓reduceIte], by simp only [upd, ↓reduceIte], rfl⟩, ?_⟩
      simp only [g9, upd, ↓reduceIte]
      omega
    · obtain rfl : i = Kdf.rounds m := by omega
      have hle := Kdf.rounds_le m
      have hm0 : (0 : Int) ≤ (m : Int) := by omega
      refine wS fun K hK => ?_
      simp only [↓DN,UP,DF,Qa,Qb,Qc,Qd,Qe,Qf,Qg,Qh,reduceCtorEq,↓reduceIte,Na,Nb,Nc,Nk,Nf,Ng,Nh,Za,Zb,Zc,TT, g2, g8, bs_size, hrl, decide_eq_false (show ¬ ((32 * Kdf.rounds m : Nat) : Int) < (m : Int) by omega)]
      refine hK _ _ ?_;clear hK K
      refine wC fun X Y hX hY => ?_
      simp only [↓DN,UP,DF,Qa,Qb,Qc,Qd,Qe,Qf,Qg,Qh,reduceCtorEq,↓reduceIte,Na,Nb,Nc,Nk,Nf,Ng,Nh,Za,Zb,Zc,TT, DB]
      refine hY ?_;clear hX hY X Y
      refine awp_exit ?_
      simp only [thenQ, blockQ, if_true]
      clear hK2 K2
      refine hK _ _ ?_;clear hK K
      refine wS fun K hK => ?_
      simp only [↓DN,UP,DF,Qa,Qb,Qc,Qd,Qe,Qf,Qg,Qh,reduceCtorEq,↓reduceIte,Na,Nb,Nc,Nk,Nf,Ng,Nh,Za,Zb,Zc,TT, g2, g8, bs_size, hrl, hm0, show (m : Int) ≤ ((32 * Kdf.rounds m : Nat) : Int) by omega]
      refine hK _ _ ?_;clear hK K
      refine awp_ret ?_
      simp only [retQ, AEnds, aresL, ares, List.toList_toArray, ↓upd_same]; try simp only [UP,DF,Nc,↓reduceIte,DT]
      exact ⟨_, _, AV.weak.refl _, AS.le.refl _, rfl, rfl⟩

end Go.Proofs.YtoagkleecgngdaaGreatDoor


set_option autoImplicit false
namespace Go.Proofs.YtoagkleecgngdaaGreatDoor
open Go Go.AM Go.Proofs


variable {Γ : Nat → List AV}



set_option maxHeartbeats 2000000 in
set_option maxRecDepth 100000 in
theorem label_calls (hG0 : Γ 0 = stC Sha.H0) (hG : Γ 1 = Sha.K.map wV) (secret l c : List UInt8) (n : Int) (hs : secret.length ≤ 2 ^ 36) (hl : l.length ≤ 2 ^ 36) (hc : c.length ≤ 2 ^ 36) (hn : -9223372036854775808 ≤ n ∧ n ≤ 9223372036854775807) (s : AS) :
    ACalls Tryz.prog Γ 231 [bytesV secret .any, .v (.string ⟨l.toArray⟩), bytesV c .any, .v (.int .i64 n)] s (fun r s' => r = .tup [bytesV (Kdf.label secret l c n) .any, .v (.bool (Kdf.fits l c n))] ∧ s' = s) := by
  refine acalls_body Tryz.func231 rfl Tryz.ntmps231 Tryz.results231 (by simp) ?_
  have hml : (Kdf.mls ++ l).length = 4 + l.length := by simp [Kdf.mls]; omega
  refine wS fun K hK => ?_
  simp only [↓DN,UP,DF,Qa,Qb,Qc,Qd,Qe,Qf,Qg,Qh,reduceCtorEq,↓reduceIte,Na,Nb,Nc,Nk,Nf,Ng,Nh,Za,Zb,Zc,TT]
  refine hK _ _ ?_;clear hK K
  refine wS fun K hK => ?_
  simp only [↓DN,UP,DF,Qa,Qb,Qc,Qd,Qe,Qf,Qg,Qh,reduceCtorEq,↓reduceIte,Na,Nb,Nc,Nk,Nf,Ng,Nh,Za,Zb,Zc,TT]
  refine acallk (new_calls s) ?_
  rintro r s1 ⟨p, rfl, h1⟩
  simp only [↓AXq_nil,↓AXq_cons,pval,DX,Nat.reduceBEq,↓DN,UP,DF,Qa,Qb,Qc,Qd,Qe,Qf,Qg,Qh,reduceCtorEq,↓reduceIte,Na,Nb,Nc,Nk,Nf,Ng,Nh,Za,Zb,Zc,TT]
  refine hK _ _ ?_;clear hK K
  refine wS fun K hK => ?_
  simp only [↓DN,UP,DF,Qa,Qb,Qc,Qd,Qe,Qf,Qg,Qh,reduceCtorEq,↓reduceIte,Na,Nb,Nc,Nk,Nf,Ng,Nh,Za,Zb,Zc,TT]
  refine acallk (penU16_calls s s1 p _ n hn (by simp) h1) ?_
  rintro r s2 ⟨rfl, h2⟩
  have hl2 := penSmall_len 2 n ([], false)
  generalize hst2 : penSmall 2 n ([], false) = st2 at *
  simp only [List.length_nil] at hl2
  simp only [↓AXq_nil,↓AXq_cons,pval,DX,Nat.reduceBEq,↓DN,UP,DF,Qa,Qb,Qc,Qd,Qe,Qf,Qg,Qh,reduceCtorEq,↓reduceIte,Na,Nb,Nc,Nk,Nf,Ng,Nh,Za,Zb,Zc,TT]
  refine hK _ _ ?_;clear hK K
  refine wS fun K hK => ?_
  simp only [↓DN,UP,DF,Qa,Qb,Qc,Qd,Qe,Qf,Qg,Qh,reduceCtorEq,↓reduceIte,Na,Nb,Nc,Nk,Nf,Ng,Nh,Za,Zb,Zc,TT, i64_room (show 4 + l.length < 2 ^ 62 by omega)]
  refine acallk (penShort_calls s s2 p st2 _ (Kdf.mls ++ l) (IsB.of (by rw [hml]; omega) rfl) (by rw [hml]; omega) h2) ?_
  rintro r s3 ⟨rfl, h3⟩
  have hl3 := Kdf.text_len 1 (Kdf.mls ++ l) st2
  generalize hst3 : penText 1 (Kdf.mls ++ l) st2 = st3 at *
  rw [hml] at hl3
  simp only [↓AXq_nil,↓AXq_cons,pval,DX,Nat.reduceBEq,↓DN,UP,DF,Qa,Qb,Qc,Qd,Qe,Qf,Qg,Qh,reduceCtorEq,↓reduceIte,Na,Nb,Nc,Nk,Nf,Ng,Nh,Za,Zb,Zc,TT]
  refine hK _ _ ?_;clear hK K
  refine wS fun K hK => ?_
  simp only [↓DN,UP,DF,Qa,Qb,Qc,Qd,Qe,Qf,Qg,Qh,reduceCtorEq,↓reduceIte,Na,Nb,Nc,Nk,Nf,Ng,Nh,Za,Zb,Zc,TT]
  refine acallk (penLong_calls s s3 p st3 _ c (IsB.any c) (by omega) h3) ?_
  rintro r s4 ⟨rfl, h4⟩
  have hl4 := Kdf.text_len 2 c st3
  have hpen : penText 2 c st3 = Kdf.pen l c n := by rw [Kdf.pen, hst2, hst3]
  rw [hpen] at h4 hl4
  simp only [↓AXq_nil,↓AXq_cons,pval,DX,Nat.reduceBEq,↓DN,UP,DF,Qa,Qb,Qc,Qd,Qe,Qf,Qg,Qh,reduceCtorEq,↓reduceIte,Na,Nb,Nc,Nk,Nf,Ng,Nh,Za,Zb,Zc,TT]
  refine hK _ _ ?_;clear hK K
  refine wS fun K hK => ?_
  simp only [↓DN,UP,DF,Qa,Qb,Qc,Qd,Qe,Qf,Qg,Qh,reduceCtorEq,↓reduceIte,Na,Nb,Nc,Nk,Nf,Ng,Nh,Za,Zb,Zc,TT]
  refine acallk (penBytes_calls s s4 p _ (by omega) h4) ?_
  rintro r s5 ⟨rfl, rfl⟩
  by_cases hgood : 0 ≤ n ∧ n ≤ 65535 ∧ l.length ≤ 251 ∧ c.length ≤ 65535
  · obtain ⟨q0, q1, q2, q3⟩ := hgood
    have hp := Kdf.pen_good l c n q0 q1 q2 q3
    have hf : Kdf.fits l c n = Kdf.ok n := by
      simp only [Kdf.fits, Kdf.ok, decide_eq_true q2, decide_eq_true q3, Bool.true_and]
    have hlab : Kdf.label secret l c n = Kdf.get secret (Kdf.text l c n.toNat) n := by
      rw [Kdf.label, Kdf.get, hf]
    have htl : (Kdf.text l c n.toNat).length ≤ 2 ^ 37 := by
      rw [hp] at hl4
      simp only at hl4
      omega
    rw [hp]
    simp only [↓AXq_nil,↓AXq_cons,pval,DX,Nat.reduceBEq,↓DN,UP,DF,Qa,Qb,Qc,Qd,Qe,Qf,Qg,Qh,reduceCtorEq,↓reduceIte,Na,Nb,Nc,Nk,Nf,Ng,Nh,Za,Zb,Zc,TT, Bool.false_eq_true]
    refine hK _ _ ?_;clear hK K
    refine wK fun K hK => ?_
    refine wS fun K hK => ?_
    simp only [↓DN,UP,DF,Qa,Qb,Qc,Qd,Qe,Qf,Qg,Qh,reduceCtorEq,↓reduceIte,Na,Nb,Nc,Nk,Nf,Ng,Nh,Za,Zb,Zc,TT]
    refine hK _ _ ?_;clear hK K
    refine wC fun X Y hX hY => ?_
    simp only [↓DN,UP,DF,Qa,Qb,Qc,Qd,Qe,Qf,Qg,Qh,reduceCtorEq,↓reduceIte,Na,Nb,Nc,Nk,Nf,Ng,Nh,Za,Zb,Zc,TT, DB]
    refine hY ?_;clear hX hY X Y
    refine awp_skip ?_
    refine hK _ _ ?_;clear hK K
    refine wS fun K hK => ?_
    simp only [↓DN,UP,DF,Qa,Qb,Qc,Qd,Qe,Qf,Qg,Qh,reduceCtorEq,↓reduceIte,Na,Nb,Nc,Nk,Nf,Ng,Nh,Za,Zb,Zc,TT]
    refine acallk (expand_calls hG0 hG secret (Kdf.text l c n.toNat) (by omega) htl n s5) ?_
    rintro r s6 ⟨rfl, rfl⟩
    simp only [↓AXq_nil,↓AXq_cons,pval,DX,Nat.reduceBEq,↓DN,UP,DF,Qa,Qb,Qc,Qd,Qe,Qf,Qg,Qh,reduceCtorEq,↓reduceIte,Na,Nb,Nc,Nk,Nf,Ng,Nh,Za,Zb,Zc,TT]
    refine hK _ _ ?_;clear hK K
    refine awp_ret ?_
    simp only [retQ, AEnds, aresL, ares, List.toList_toArray, ↓upd_same]; try simp only [UP,DF,Nc,↓reduceIte,DT]
    rw [hlab, hf]
    exact ⟨_, s, AV.weak.refl _, h4.le, rfl, rfl⟩
  · have hp := Kdf.pen_bad l c n hgood
    have hf : Kdf.fits l c n = false := by
      cases hf : Kdf.fits l c n with
      | false => rfl
      | true =>
        simp only [Kdf.fits, Bool.and_eq_true, decide_eq_true_eq] at hf
        exact absurd ⟨hf.1.2, by omega, hf.1.1.1, hf.1.1.2⟩ hgood
    have hlab : Kdf.label secret l c n = [] := by rw [Kdf.label, hf]; rfl
    rw [hp, if_pos rfl]
    simp only [↓AXq_nil,↓AXq_cons,pval,DX,Nat.reduceBEq,↓DN,UP,DF,Qa,Qb,Qc,Qd,Qe,Qf,Qg,Qh,reduceCtorEq,↓reduceIte,Na,Nb,Nc,Nk,Nf,Ng,Nh,Za,Zb,Zc,TT]
    refine hK _ _ ?_;clear hK K
    refine wK fun K hK => ?_
    refine wS fun K hK => ?_
    simp only [↓DN,UP,DF,Qa,Qb,Qc,Qd,Qe,Qf,Qg,Qh,reduceCtorEq,↓reduceIte,Na,Nb,Nc,Nk,Nf,Ng,Nh,Za,Zb,Zc,TT]
    refine hK _ _ ?_;clear hK K
    refine wC fun X Y hX hY => ?_
    simp only [↓DN,UP,DF,Qa,Qb,Qc,Qd,Qe,Qf,Qg,Qh,reduceCtorEq,↓reduceIte,Na,Nb,Nc,Nk,Nf,Ng,Nh,Za,Zb,Zc,TT, DB]
    refine hX ?_;clear hX hY X Y
    refine wS fun K hK => ?_
    simp only [↓DN,UP,DF,Qa,Qb,Qc,Qd,Qe,Qf,Qg,Qh,reduceCtorEq,↓reduceIte,Na,Nb,Nc,Nk,Nf,Ng,Nh,Za,Zb,Zc,TT]
    refine hK _ _ ?_;clear hK K
    refine awp_ret ?_
    simp only [retQ, AEnds, aresL, ares, List.toList_toArray, ↓upd_same]; try simp only [UP,DF,Nc,↓reduceIte,DT]
    rw [hlab, hf]
    exact ⟨_, s, AV.weak_tup2 AV.weak_nil (AV.weak.refl _), h4.le, rfl, rfl⟩

set_option maxHeartbeats 2000000 in
theorem refLabel_calls (secret l c : List UInt8) (n : Int) (hs : secret.length ≤ 2 ^ 36) (hf : Kdf.fits l c n = true) (s : AS) :
    ACalls Tryz.prog Γ 185 [.v (.string ⟨secret.toArray⟩), .v (.string ⟨l.toArray⟩), .v (.string ⟨c.toArray⟩), .v (.int .i64 n)] s (fun r s' => r = .v (.string ⟨(Kdf.label secret l c n).toArray⟩) ∧ s' = s) := by
  refine acalls_body Tryz.func185 rfl Tryz.ntmps185 Tryz.results185 (by simp) ?_
  have hlab : Kdf.label secret l c n = Kdf.expand secret (Kdf.text l c n.toNat) n.toNat := by rw [Kdf.label, hf]; rfl
  simp only [Kdf.fits, Bool.and_eq_true, decide_eq_true_eq] at hf
  obtain ⟨⟨⟨q1, q2⟩, q3⟩, q4⟩ := hf
  obtain ⟨m, rfl⟩ : ∃ m : Nat, n = (m : Int) := ⟨n.toNat, by omega⟩
  rw [hlab, Int.toNat_natCast]
  have hu : iconv .u64 (m : Int) = (m : Int) := u64_conv (by omega)
  have hml : (Kdf.mls ++ l).length = 4 + l.length := by simp [Kdf.mls]; omega
  have hbl : ∀ k n, (be k n).length = k := length_be
  refine wS fun K hK => ?_
  simp only [↓DN,UP,DF,Qa,Qb,Qc,Qd,Qe,Qf,Qg,Qh,reduceCtorEq,↓reduceIte,Na,Nb,Nc,Nk,Nf,Ng,Nh,Za,Zb,Zc,TT]
  refine hK _ _ ?_;clear hK K
  refine wS fun K hK => ?_
  simp only [↓DN,UP,DF,Qa,Qb,Qc,Qd,Qe,Qf,Qg,Qh,reduceCtorEq,↓reduceIte,Na,Nb,Nc,Nk,Nf,Ng,Nh,Za,Zb,Zc,TT, hu]
  refine acallk (refNumber_calls m 2 (by omega) (by omega) s) ?_
  rintro r s1 ⟨rfl, rfl⟩
  simp only [↓AXq_nil,↓AXq_cons,pval,DX,Nat.reduceBEq,↓DN,UP,DF,Qa,Qb,Qc,Qd,Qe,Qf,Qg,Qh,reduceCtorEq,↓reduceIte,Na,Nb,Nc,Nk,Nf,Ng,Nh,Za,Zb,Zc,TT, i64_room (show 4 + l.length < 2 ^ 62 by omega)]
  refine acallk (refText_calls (Kdf.mls ++ l) 1 (by rw [hml]; omega) (by omega) s1) ?_
  rintro r s2 ⟨rfl, rfl⟩
  have hm4 : Kdf.mls.length = 4 := rfl
  simp only [↓AXq_nil,↓AXq_cons,pval,DX,Nat.reduceBEq,↓DN,UP,DF,Qa,Qb,Qc,Qd,Qe,Qf,Qg,Qh,reduceCtorEq,↓reduceIte,Na,Nb,Nc,Nk,Nf,Ng,Nh,Za,Zb,Zc,TT, hm4, length_be, i64_room (show 2 + (1 + (4 + l.length)) < 2 ^ 62 by omega)]
  refine acallk (refText_calls c 2 (by omega) (by omega) s2) ?_
  rintro r s3 ⟨rfl, rfl⟩
  simp only [↓AXq_nil,↓AXq_cons,pval,DX,Nat.reduceBEq,↓DN,UP,DF,Qa,Qb,Qc,Qd,Qe,Qf,Qg,Qh,reduceCtorEq,↓reduceIte,Na,Nb,Nc,Nk,Nf,Ng,Nh,Za,Zb,Zc,TT, hm4, length_be, i64_room (show 2 + (1 + (4 + l.length)) + (2 + c.length) < 2 ^ 62 by omega)]
  have htx : be 2 m ++ (be 1 (4 + l.length) ++ (Kdf.mls ++ (l ++ (be 2 c.length ++ c)))) = Kdf.text l c m := by
    simp only [Kdf.text, hml, List.append_assoc]
  have htl : (Kdf.text l c m).length ≤ 2 ^ 37 := by
    rw [← htx]
    simp only [List.length_append, length_be, hm4]
    omega
  rw [htx]
  refine acallk (refExpand_calls secret (Kdf.text l c m) (by omega) htl m (by omega) s3) ?_
  rintro r s4 ⟨rfl, rfl⟩
  simp only [↓AXq_nil,↓AXq_cons,pval,DX,Nat.reduceBEq,↓DN,UP,DF,Qa,Qb,Qc,Qd,Qe,Qf,Qg,Qh,reduceCtorEq,↓reduceIte,Na,Nb,Nc,Nk,Nf,Ng,Nh,Za,Zb,Zc,TT]
  refine hK _ _ ?_;clear hK K
  refine awp_ret ?_
  simp only [retQ, AEnds, aresL, ares, List.toList_toArray, ↓upd_same]; try simp only [UP,DF,Nc,↓reduceIte,DT]
  exact ⟨_, _, AV.weak.refl _, AS.le.refl _, rfl, rfl⟩

end Go.Proofs.YtoagkleecgngdaaGreatDoor


set_option autoImplicit false
namespace Go.Proofs.YtoagkleecgngdaaGreatDoor
open Go Go.AM Go.Proofs


variable {Γ : Nat → List AV}

/-- An octet. -/
abbrev bV (x : UInt8) : AV := .v (.int .u8 (x.toNat : Int))
theorem u8_lt (x : UInt8) : x.toNat < 2 ^ IntKind.u8.bits := by simpa [IntKind.bits] using x.toNat_lt
theorem b_xor (a b : UInt8) : ixor .u8 (a.toNat : Int) (b.toNat : Int) = (((a ^^^ b).toNat : Nat) : Int) := by
  rw [ixor_u (k := .u8) rfl a.toNat b.toNat (u8_lt a) (u8_lt b), UInt8.toNat_xor]
theorem b_and (a b : UInt8) : iand .u8 (a.toNat : Int) (b.toNat : Int) = (((a &&& b).toNat : Nat) : Int) := by
  rw [iand_u (k := .u8) rfl a.toNat b.toNat (u8_lt a) (u8_lt b), UInt8.toNat_and]
theorem b_and27 (b : UInt8) : iand .u8 27 (b.toNat : Int) = ((((27 : UInt8) &&& b).toNat : Nat) : Int) := b_and 27 b
theorem b_and1 (b : UInt8) : iand .u8 (b.toNat : Int) 1 = (((b &&& (1 : UInt8)).toNat : Nat) : Int) := b_and b 1
theorem b_xor99 (b : UInt8) : ixor .u8 99 (b.toNat : Int) = ((((99 : UInt8) ^^^ b).toNat : Nat) : Int) := b_xor 99 b
theorem b_neg (a : UInt8) : ineg .u8 (a.toNat : Int) = ((((0 : UInt8) - a).toNat : Nat) : Int) := by
  have := a.toNat_lt
  rw [ineg, wrap_u rfl, UInt8.toNat_sub]
  simp only [IntKind.bits]
  rw [show (0 : UInt8).toNat = 0 from rfl]
  omega
theorem b_shl1 (a : UInt8) : ishl .u8 (a.toNat : Int) 1 = (((a <<< (1 : UInt8)).toNat : Nat) : Int) := by
  have := ishl_u (k := .u8) rfl a.toNat 1
  rw [show (1 : Int) = ((1 : Nat) : Int) from rfl, this, UInt8.toNat_shiftLeft]
  simp [IntKind.bits, Nat.shiftLeft_eq]
theorem b_shr1 (a : UInt8) : ishr .u8 (a.toNat : Int) 1 = (((a >>> (1 : UInt8)).toNat : Nat) : Int) := by
  have := ishr_u (k := .u8) a.toNat 1
  rw [show (1 : Int) = ((1 : Nat) : Int) from rfl, this, UInt8.toNat_shiftRight]
  simp [IntKind.bits, Nat.shiftRight_eq_div_pow]
theorem b_shr7 (a : UInt8) : ishr .u8 (a.toNat : Int) 7 = (((a >>> (7 : UInt8)).toNat : Nat) : Int) := by
  have := ishr_u (k := .u8) a.toNat 7
  rw [show (7 : Int) = ((7 : Nat) : Int) from rfl, this, UInt8.toNat_shiftRight]
  simp [IntKind.bits, Nat.shiftRight_eq_div_pow]
theorem shr1_half (b : UInt8) : (b >>> (1 : UInt8)).toNat = b.toNat / 2 := by
  rw [UInt8.toNat_shiftRight]
  simp [Nat.shiftRight_eq_div_pow]

set_option maxHeartbeats 400000 in
theorem double_calls (a : UInt8) (s : AS) : ACalls Tryz.prog Γ 306 [bV a] s (fun r s' => r = bV (Aes.dbl a) ∧ s' = s) := by
  refine acalls_body Tryz.func306 rfl Tryz.ntmps306 Tryz.results306 (by simp) ?_
  refine wS fun K hK => ?_
  simp only [↓DN,UP,DF,Qa,Qb,Qc,Qd,Qe,Qf,Qg,Qh,reduceCtorEq,↓reduceIte,Na,Nb,Nc,Nk,Nf,Ng,Nh,Za,Zb,Zc,TT]
  refine hK _ _ ?_;clear hK K
  refine wS fun K hK => ?_
  simp only [↓DN,UP,DF,Qa,Qb,Qc,Qd,Qe,Qf,Qg,Qh,reduceCtorEq,↓reduceIte,Na,Nb,Nc,Nk,Nf,Ng,Nh,Za,Zb,Zc,TT, b_shl1, b_shr7, b_neg, b_and27, b_xor]
  refine hK _ _ ?_;clear hK K
  refine awp_ret ?_
  simp only [retQ, AEnds, aresL, ares, List.toList_toArray, ↓upd_same]; try simp only [UP,DF,Nc,↓reduceIte,DT]
  exact ⟨_, _, AV.weak.refl _, AS.le.refl _, rfl, rfl⟩

set_option maxHeartbeats 1000000 in
theorem aesMul_calls (x y : UInt8) (s : AS) : ACalls Tryz.prog Γ 317 [bV x, bV y] s (fun r s' => r = bV (Aes.gm 8 0 x y) ∧ s' = s) := by
  refine acalls_body Tryz.func317 rfl Tryz.ntmps317 Tryz.results317 (by simp) ?_
  refine wS fun K hK => ?_
  simp only [↓DN,UP,DF,Qa,Qb,Qc,Qd,Qe,Qf,Qg,Qh,reduceCtorEq,↓reduceIte,Na,Nb,Nc,Nk,Nf,Ng,Nh,Za,Zb,Zc,TT]
  refine hK _ _ ?_;clear hK K
  refine wS fun K hK => ?_
  simp only [↓DN,UP,DF,Qa,Qb,Qc,Qd,Qe,Qf,Qg,Qh,reduceCtorEq,↓reduceIte,Na,Nb,Nc,Nk,Nf,Ng,Nh,Za,Zb,Zc,TT]
  refine hK _ _ ?_;clear hK K
  refine wK fun K hK => ?_
  refine awp_block ?_
  refine awp_loop (fun E s1 => ∃ (f : Nat) (o a b : UInt8), E 5 = bV o ∧ E 0 = bV a ∧ E 1 = bV b ∧ b.toNat < 2 ^ f ∧ Aes.gm f o a b = Aes.gm 8 0 x y ∧ s1 = s)
    (fun E _ => match E 1 with | .v (.int _ i) => i.toNat | _ => 0) ?_ ?_
  · exact ⟨8, 0, x, y, by simp [upd], by simp [upd, initE], by simp [upd, initE], y.toNat_lt, rfl, rfl⟩
  · rintro E1 s1 ⟨f, o, a, b, h5, h0, h1, hb, hinv, rfl⟩ -
    refine wK fun K2 hK2 => ?_
    by_cases hb0 : b.toNat = 0
    · refine wS fun K hK => ?_
      simp only [↓DN,UP,DF,Qa,Qb,Qc,Qd,Qe,Qf,Qg,Qh,reduceCtorEq,↓reduceIte,Na,Nb,Nc,Nk,Nf,Ng,Nh,Za,Zb,Zc,TT, h1, decide_eq_false (show ¬ (0 : Int) < (b.toNat : Int) by omega)]
      refine hK _ _ ?_;clear hK K
      refine wC fun X Y hX hY => ?_
      simp only [↓DN,UP,DF,Qa,Qb,Qc,Qd,Qe,Qf,Qg,Qh,reduceCtorEq,↓reduceIte,Na,Nb,Nc,Nk,Nf,Ng,Nh,Za,Zb,Zc,TT, DB]
      refine hY ?_;clear hX hY X Y
      refine awp_exit ?_
      simp only [thenQ, blockQ, if_true]
      refine hK _ _ ?_;clear hK hK2 K K2
      refine wS fun K hK => ?_
      simp only [↓DN,UP,DF,Qa,Qb,Qc,Qd,Qe,Qf,Qg,Qh,reduceCtorEq,↓reduceIte,Na,Nb,Nc,Nk,Nf,Ng,Nh,Za,Zb,Zc,TT, h5]
      refine hK _ _ ?_;clear hK K
      refine awp_ret ?_
      simp only [retQ, AEnds, aresL, ares, List.toList_toArray, ↓upd_same]; try simp only [UP,DF,Nc,↓reduceIte,DT]
      refine ⟨_, _, AV.weak.refl _, AS.le.refl _, ?_, rfl⟩
      have e : b = 0 := UInt8.toNat_inj.1 (by rw [hb0]; rfl)
      rw [← hinv, e, Aes.gm_zero]
    · refine wS fun K hK => ?_
      simp only [↓DN,UP,DF,Qa,Qb,Qc,Qd,Qe,Qf,Qg,Qh,reduceCtorEq,↓reduceIte,Na,Nb,Nc,Nk,Nf,Ng,Nh,Za,Zb,Zc,TT, h1, decide_eq_true (show (0 : Int) < (b.toNat : Int) by omega)]
      refine hK _ _ ?_;clear hK K
      refine wC fun X Y hX hY => ?_
      simp only [↓DN,UP,DF,Qa,Qb,Qc,Qd,Qe,Qf,Qg,Qh,reduceCtorEq,↓reduceIte,Na,Nb,Nc,Nk,Nf,Ng,Nh,Za,Zb,Zc,TT, DB]
      refine hX ?_;clear hX hY X Y
      refine awp_skip ?_
      refine hK2 _ _ ?_;clear hK2 K2
      refine wK fun K3 hK3 => ?_
      refine awp_block ?_
      refine wS fun K hK => ?_
      simp only [↓DN,UP,DF,Qa,Qb,Qc,Qd,Qe,Qf,Qg,Qh,reduceCtorEq,↓reduceIte,Na,Nb,Nc,Nk,Nf,Ng,Nh,Za,Zb,Zc,TT, h5, h0, h1, b_and1, b_neg, b_and, b_xor]
      refine hK _ _ ?_;clear hK K
      refine wE fun K hK => ?_
      simp only [↓DN,UP,DF,Qa,Qb,Qc,Qd,Qe,Qf,Qg,Qh,reduceCtorEq,↓reduceIte,Na,Nb,Nc,Nk,Nf,Ng,Nh,Za,Zb,Zc,TT, h0]
      refine acallk (double_calls a _) ?_
      rintro r s' ⟨rfl, rfl⟩
      simp only [↓AXq_nil,↓AXq_cons,pval,DX,Nat.reduceBEq,↓DN,UP,DF,Qa,Qb,Qc,Qd,Qe,Qf,Qg,Qh,reduceCtorEq,↓reduceIte,Na,Nb,Nc,Nk,Nf,Ng,Nh,Za,Zb,Zc,TT]
      refine hK _ _ ?_;clear hK K
      simp only [blockQ, thenQ, if_true, if_false]
      refine hK3 _ _ ?_;clear hK3 K3
      obtain ⟨g, rfl⟩ : ∃ g, f = g + 1 := ⟨f - 1, by
        cases f with
        | zero => simp at hb; omega
        | succ f => simp⟩
      refine wE fun K hK => ?_
      simp only [↓DN,UP,DF,Qa,Qb,Qc,Qd,Qe,Qf,Qg,Qh,reduceCtorEq,↓reduceIte,Na,Nb,Nc,Nk,Nf,Ng,Nh,Za,Zb,Zc,TT, h1, b_shr1]
      refine hK _ _ ?_;clear hK K
      refine ⟨⟨g, o ^^^ (a &&& ((0 : UInt8) - (b &&& 1))), Aes.dbl a, b >>> 1, by simp only [upd, Nc, ↓reduceIte], by simp only [upd, Nc, ↓reduceIte], by simp only [upd, ↓reduceIte], ?_, hinv, rfl⟩, ?_⟩
      · rw [shr1_half]
        rw [Nat.pow_succ] at hb
        omega
      · simp only [h1, upd, ↓reduceIte, shr1_half]
        omega

end Go.Proofs.YtoagkleecgngdaaGreatDoor


set_option autoImplicit false
namespace Go.Proofs.YtoagkleecgngdaaGreatDoor
open Go Go.AM Go.Proofs


variable {Γ : Nat → List AV}

theorem n_and1 : ∀ n : Nat, n < 256 → iand .i64 (n : Int) 1 = ((n % 2 : Nat) : Int) := by decide +kernel
theorem n_shr1 (n : Nat) : ishr .i64 (n : Int) 1 = ((n / 2 : Nat) : Int) := by
  have := ishr_u (k := .i64) n 1
  rw [show (1 : Int) = ((1 : Nat) : Int) from rfl, this]
  simp [IntKind.bits]
theorem one_beq : (((1 : Nat) : Int) == 1) = true := rfl
theorem zero_beq1 : (((0 : Nat) : Int) == 1) = false := rfl

set_option maxHeartbeats 1000000 in
theorem inverse_calls (x : UInt8) (s : AS) : ACalls Tryz.prog Γ 314 [bV x] s (fun r s' => r = bV (Aes.inv x) ∧ s' = s) := by
  refine acalls_body Tryz.func314 rfl Tryz.ntmps314 Tryz.results314 (by simp) ?_
  refine wS fun K hK => ?_
  simp only [↓DN,UP,DF,Qa,Qb,Qc,Qd,Qe,Qf,Qg,Qh,reduceCtorEq,↓reduceIte,Na,Nb,Nc,Nk,Nf,Ng,Nh,Za,Zb,Zc,TT]
  refine hK _ _ ?_;clear hK K
  refine wS fun K hK => ?_
  simp only [↓DN,UP,DF,Qa,Qb,Qc,Qd,Qe,Qf,Qg,Qh,reduceCtorEq,↓reduceIte,Na,Nb,Nc,Nk,Nf,Ng,Nh,Za,Zb,Zc,TT]
  refine hK _ _ ?_;clear hK K
  refine wK fun K hK => ?_
  refine wS fun K hK => ?_
  simp only [↓DN,UP,DF,Qa,Qb,Qc,Qd,Qe,Qf,Qg,Qh,reduceCtorEq,↓reduceIte,Na,Nb,Nc,Nk,Nf,Ng,Nh,Za,Zb,Zc,TT]
  refine hK _ _ ?_;clear hK K
  refine awp_block ?_
  refine awp_loop (fun E s1 => ∃ (f : Nat) (o a : UInt8) (n : Nat), E 3 = bV o ∧ E 0 = bV a ∧ E 4 = .v (.int .i64 n) ∧ n < 2 ^ f ∧ n < 256 ∧ Aes.pw f o a n = Aes.pw 8 1 x 254 ∧ s1 = s)
    (fun E _ => match E 4 with | .v (.int _ i) => i.toNat | _ => 0) ?_ ?_
  · exact ⟨8, 1, x, 254, by simp only [upd, Nc, ↓reduceIte]; rfl, by simp only [upd, initE, Nc, ↓reduceIte]; rfl, by simp only [upd, ↓reduceIte]; rfl, by decide, by decide, rfl, rfl⟩
  · rintro E1 s1 ⟨f, o, a, n, h3, h0, h4, hn, hn2, hinv, rfl⟩ -
    refine wK fun K2 hK2 => ?_
    by_cases hn0 : n = 0
    · refine wS fun K hK => ?_
      simp only [↓DN,UP,DF,Qa,Qb,Qc,Qd,Qe,Qf,Qg,Qh,reduceCtorEq,↓reduceIte,Na,Nb,Nc,Nk,Nf,Ng,Nh,Za,Zb,Zc,TT, h4, decide_eq_false (show ¬ (0 : Int) < (n : Int) by omega)]
      refine hK _ _ ?_;clear hK K
      refine wC fun X Y hX hY => ?_
      simp only [↓DN,UP,DF,Qa,Qb,Qc,Qd,Qe,Qf,Qg,Qh,reduceCtorEq,↓reduceIte,Na,Nb,Nc,Nk,Nf,Ng,Nh,Za,Zb,Zc,TT, DB]
      refine hY ?_;clear hX hY X Y
      refine awp_exit ?_
      simp only [thenQ, blockQ, if_true]
      refine hK _ _ ?_;clear hK hK2 K K2
      refine wS fun K hK => ?_
      simp only [↓DN,UP,DF,Qa,Qb,Qc,Qd,Qe,Qf,Qg,Qh,reduceCtorEq,↓reduceIte,Na,Nb,Nc,Nk,Nf,Ng,Nh,Za,Zb,Zc,TT, h3]
      refine hK _ _ ?_;clear hK K
      refine awp_ret ?_
      simp only [retQ, AEnds, aresL, ares, List.toList_toArray, ↓upd_same]; try simp only [UP,DF,Nc,↓reduceIte,DT]
      refine ⟨_, _, AV.weak.refl _, AS.le.refl _, ?_, rfl⟩
      rw [Aes.inv, ← hinv, hn0, Aes.pw_zero]
    · refine wS fun K hK => ?_
      simp only [↓DN,UP,DF,Qa,Qb,Qc,Qd,Qe,Qf,Qg,Qh,reduceCtorEq,↓reduceIte,Na,Nb,Nc,Nk,Nf,Ng,Nh,Za,Zb,Zc,TT, h4, decide_eq_true (show (0 : Int) < (n : Int) by omega)]
      refine hK _ _ ?_;clear hK K
      refine wC fun X Y hX hY => ?_
      simp only [↓DN,UP,DF,Qa,Qb,Qc,Qd,Qe,Qf,Qg,Qh,reduceCtorEq,↓reduceIte,Na,Nb,Nc,Nk,Nf,Ng,Nh,Za,Zb,Zc,TT, DB]
      refine hX ?_;clear hX hY X Y
      refine awp_skip ?_
      refine hK2 _ _ ?_;clear hK2 K2
      refine wK fun K3 hK3 => ?_
      refine awp_block ?_
      refine wK fun K4 hK4 => ?_
      obtain ⟨g, rfl⟩ : ∃ g, f = g + 1 := ⟨f - 1, by
        cases f with
        | zero => simp at hn; omega
        | succ f => simp⟩
      have hstep : Aes.pw (g + 1) o a n = Aes.pw g (if n % 2 = 1 then Aes.gm 8 0 o a else o) (Aes.gm 8 0 a a) (n / 2) := rfl
      have hgo : ∀ (E2 : Env) (o2 : UInt8), E2 3 = bV o2 → E2 0 = bV a → E2 4 = .v (.int .i64 n) → Aes.pw g o2 (Aes.gm 8 0 a a) (n / 2) = Aes.pw 8 1 x 254 → K4 E2 s1 := by
        intro E2 o2 e3 e0 e4 hinv2
        refine hK4 _ _ ?_;clear hK4 K4
        refine wE fun K hK => ?_
        simp only [↓DN,UP,DF,Qa,Qb,Qc,Qd,Qe,Qf,Qg,Qh,reduceCtorEq,↓reduceIte,Na,Nb,Nc,Nk,Nf,Ng,Nh,Za,Zb,Zc,TT, e0]
        refine acallk (aesMul_calls a a s1) ?_
        rintro r s' ⟨rfl, rfl⟩
        simp only [↓AXq_nil,↓AXq_cons,pval,DX,Nat.reduceBEq,↓DN,UP,DF,Qa,Qb,Qc,Qd,Qe,Qf,Qg,Qh,reduceCtorEq,↓reduceIte,Na,Nb,Nc,Nk,Nf,Ng,Nh,Za,Zb,Zc,TT]
        refine hK _ _ ?_;clear hK K
        simp only [blockQ, thenQ, if_true, if_false]
        refine hK3 _ _ ?_;clear hK3 K3
        refine wE fun K hK => ?_
        simp only [↓DN,UP,DF,Qa,Qb,Qc,Qd,Qe,Qf,Qg,Qh,reduceCtorEq,↓reduceIte,Na,Nb,Nc,Nk,Nf,Ng,Nh,Za,Zb,Zc,TT, e4, n_shr1]
        refine hK _ _ ?_;clear hK K
        refine ⟨⟨g, o2, Aes.gm 8 0 a a, n / 2, by simp only [upd, e3, Nc, ↓reduceIte], by simp only [upd, Nc, ↓reduceIte], by simp only [upd, ↓reduceIte], by rw [Nat.pow_succ] at hn; omega, by omega, hinv2, rfl⟩, ?_⟩
        simp only [h4, upd, ↓reduceIte]
        omega
      by_cases hodd : n % 2 = 1
      · refine wS fun K hK => ?_
        simp only [↓DN,UP,DF,Qa,Qb,Qc,Qd,Qe,Qf,Qg,Qh,reduceCtorEq,↓reduceIte,Na,Nb,Nc,Nk,Nf,Ng,Nh,Za,Zb,Zc,TT, h4, n_and1 n hn2, hodd, one_beq]
        refine hK _ _ ?_;clear hK K
        refine wC fun X Y hX hY => ?_
        simp only [↓DN,UP,DF,Qa,Qb,Qc,Qd,Qe,Qf,Qg,Qh,reduceCtorEq,↓reduceIte,Na,Nb,Nc,Nk,Nf,Ng,Nh,Za,Zb,Zc,TT, DB]
        refine hX ?_;clear hX hY X Y
        refine wE fun K hK => ?_
        simp only [↓DN,UP,DF,Qa,Qb,Qc,Qd,Qe,Qf,Qg,Qh,reduceCtorEq,↓reduceIte,Na,Nb,Nc,Nk,Nf,Ng,Nh,Za,Zb,Zc,TT, h3, h0]
        refine acallk (aesMul_calls o a s1) ?_
        rintro r s' ⟨rfl, rfl⟩
        simp only [↓AXq_nil,↓AXq_cons,pval,DX,Nat.reduceBEq,↓DN,UP,DF,Qa,Qb,Qc,Qd,Qe,Qf,Qg,Qh,reduceCtorEq,↓reduceIte,Na,Nb,Nc,Nk,Nf,Ng,Nh,Za,Zb,Zc,TT]
        refine hK _ _ ?_;clear hK K
        refine hgo _ (Aes.gm 8 0 o a) (by simp only [upd, ↓reduceIte]) (by simp only [upd, h0, Nc, ↓reduceIte]) (by simp only [upd, h4, Nc, ↓reduceIte]) ?_
        rw [← hinv, hstep, if_pos hodd]
      · have heven : n % 2 = 0 := by omega
        refine wS fun K hK => ?_
        simp only [↓DN,UP,DF,Qa,Qb,Qc,Qd,Qe,Qf,Qg,Qh,reduceCtorEq,↓reduceIte,Na,Nb,Nc,Nk,Nf,Ng,Nh,Za,Zb,Zc,TT, h4, n_and1 n hn2, heven, zero_beq1]
        refine hK _ _ ?_;clear hK K
        refine wC fun X Y hX hY => ?_
        simp only [↓DN,UP,DF,Qa,Qb,Qc,Qd,Qe,Qf,Qg,Qh,reduceCtorEq,↓reduceIte,Na,Nb,Nc,Nk,Nf,Ng,Nh,Za,Zb,Zc,TT, DB]
        refine hY ?_;clear hX hY X Y
        refine awp_skip ?_
        refine hgo _ o (by simp only [upd, h3, Nc, ↓reduceIte]) (by simp only [upd, h0, Nc, ↓reduceIte]) (by simp only [upd, h4, Nc, ↓reduceIte]) ?_
        rw [← hinv, hstep, if_neg hodd]

theorem rot8_count : ∀ k : Nat, k < 8 → iand .u64 (iconv .u64 (k : Int)) 7 = ((k : Nat) : Int) := by decide +kernel
theorem rot8_sub : ∀ k : Nat, k < 8 → isub .u64 8 ((k : Nat) : Int) = ((8 - k : Nat) : Int) := by decide +kernel
theorem rot8_val (x : UInt8) (k : Nat) (h0 : 0 < k) (h : k < 8) : ior .u8 (ishl .u8 (x.toNat : Int) ((k : Nat) : Int)) (ishr .u8 (x.toNat : Int) ((8 - k : Nat) : Int)) = (((Aes.rot x k).toNat : Nat) : Int) := by
  have hx := x.toNat_lt
  have hd : x.toNat / 2 ^ (8 - k) < 256 := Nat.lt_of_le_of_lt (Nat.div_le_self _ _) hx
  rw [ishl_u rfl, ishr_u]
  simp only [IntKind.bits]
  rw [Nat.min_eq_left (by omega), Nat.min_eq_left (by omega)]
  have e := ior_u (k := .u8) rfl (x.toNat * 2 ^ k % 2 ^ 8) (x.toNat / 2 ^ (8 - k)) (Nat.mod_lt _ (by decide)) hd
  rw [e]
  rw [Aes.rot, UInt8.toNat_or, UInt8.toNat_ofNat', UInt8.toNat_ofNat', Nat.mod_eq_of_lt hd]

set_option maxHeartbeats 1000000 in
theorem rotl8_calls (x : UInt8) (k : Nat) (h0 : 0 < k) (h : k < 8) (s : AS) :
    ACalls Tryz.prog Γ 315 [bV x, .v (.int .i64 (k : Int))] s (fun r s' => r = bV (Aes.rot x k) ∧ s' = s) := by
  refine acalls_body Tryz.func315 rfl Tryz.ntmps315 Tryz.results315 (by simp) ?_
  refine wS fun K hK => ?_
  simp only [↓DN,UP,DF,Qa,Qb,Qc,Qd,Qe,Qf,Qg,Qh,reduceCtorEq,↓reduceIte,Na,Nb,Nc,Nk,Nf,Ng,Nh,Za,Zb,Zc,TT]
  refine hK _ _ ?_;clear hK K
  refine wS fun K hK => ?_
  simp only [↓DN,UP,DF,Qa,Qb,Qc,Qd,Qe,Qf,Qg,Qh,reduceCtorEq,↓reduceIte,Na,Nb,Nc,Nk,Nf,Ng,Nh,Za,Zb,Zc,TT, rot8_count k h]
  refine hK _ _ ?_;clear hK K
  refine wS fun K hK => ?_
  simp only [↓DN,UP,DF,Qa,Qb,Qc,Qd,Qe,Qf,Qg,Qh,reduceCtorEq,↓reduceIte,Na,Nb,Nc,Nk,Nf,Ng,Nh,Za,Zb,Zc,TT, nat_not_neg, rot8_sub k h, rot8_val x k h0 h]
  refine hK _ _ ?_;clear hK K
  refine awp_ret ?_
  simp only [retQ, AEnds, aresL, ares, List.toList_toArray, ↓upd_same]; try simp only [UP,DF,Nc,↓reduceIte,DT]
  exact ⟨_, s, AV.weak.refl _, AS.le.refl s, rfl, rfl⟩

set_option maxHeartbeats 1000000 in
theorem aesBox_calls (x : UInt8) (s : AS) : ACalls Tryz.prog Γ 305 [bV x] s (fun r s' => r = bV (Aes.box x) ∧ s' = s) := by
  refine acalls_body Tryz.func305 rfl Tryz.ntmps305 Tryz.results305 (by simp) ?_
  have hbox : Aes.box x = Aes.boxP (Aes.inv x) 4 := rfl
  have hi := fun s => inverse_calls (Γ := Γ) x s
  rw [hbox]
  generalize Aes.inv x = y at *
  refine wS fun K hK => ?_
  simp only [↓DN,UP,DF,Qa,Qb,Qc,Qd,Qe,Qf,Qg,Qh,reduceCtorEq,↓reduceIte,Na,Nb,Nc,Nk,Nf,Ng,Nh,Za,Zb,Zc,TT]
  refine hK _ _ ?_;clear hK K
  refine wS fun K hK => ?_
  simp only [↓DN,UP,DF,Qa,Qb,Qc,Qd,Qe,Qf,Qg,Qh,reduceCtorEq,↓reduceIte,Na,Nb,Nc,Nk,Nf,Ng,Nh,Za,Zb,Zc,TT]
  refine acallk (hi _) ?_
  rintro r s1 ⟨rfl, rfl⟩
  simp only [↓AXq_nil,↓AXq_cons,pval,DX,Nat.reduceBEq,↓DN,UP,DF,Qa,Qb,Qc,Qd,Qe,Qf,Qg,Qh,reduceCtorEq,↓reduceIte,Na,Nb,Nc,Nk,Nf,Ng,Nh,Za,Zb,Zc,TT]
  refine hK _ _ ?_;clear hK K
  refine wS fun K hK => ?_
  simp only [↓DN,UP,DF,Qa,Qb,Qc,Qd,Qe,Qf,Qg,Qh,reduceCtorEq,↓reduceIte,Na,Nb,Nc,Nk,Nf,Ng,Nh,Za,Zb,Zc,TT, b_xor99]
  refine hK _ _ ?_;clear hK K
  refine wK fun K hK => ?_
  refine wS fun K hK => ?_
  simp only [↓DN,UP,DF,Qa,Qb,Qc,Qd,Qe,Qf,Qg,Qh,reduceCtorEq,↓reduceIte,Na,Nb,Nc,Nk,Nf,Ng,Nh,Za,Zb,Zc,TT]
  refine hK _ _ ?_;clear hK K
  refine awp_block ?_
  refine awp_loop (fun E s2 => ∃ i : Nat, i ≤ 4 ∧ E 3 = bV y ∧ E 4 = bV (Aes.boxP y i) ∧ E 5 = .v (.int .i64 ((i + 1 : Nat) : Int)) ∧ s2 = s1)
    (fun E _ => match E 5 with | .v (.int _ i) => 5 - i.toNat | _ => 0) ?_ ?_
  · exact ⟨0, by omega, by simp only [upd, Nc, ↓reduceIte], by simp only [upd, Nc, ↓reduceIte]; rfl, by simp only [upd, ↓reduceIte]; rfl, rfl⟩
  · rintro E1 s2 ⟨i, hi', h3, h4, h5, rfl⟩ -
    refine wK fun K2 hK2 => ?_
    by_cases hn : i < 4
    · refine wS fun K hK => ?_
      simp only [↓DN,UP,DF,Qa,Qb,Qc,Qd,Qe,Qf,Qg,Qh,reduceCtorEq,↓reduceIte,Na,Nb,Nc,Nk,Nf,Ng,Nh,Za,Zb,Zc,TT, h5, decide_eq_true (show ((i + 1 : Nat) : Int) < 5 by omega)]
      refine hK _ _ ?_;clear hK K
      refine wC fun X Y hX hY => ?_
      simp only [↓DN,UP,DF,Qa,Qb,Qc,Qd,Qe,Qf,Qg,Qh,reduceCtorEq,↓reduceIte,Na,Nb,Nc,Nk,Nf,Ng,Nh,Za,Zb,Zc,TT, DB]
      refine hX ?_;clear hX hY X Y
      refine awp_skip ?_
      refine hK2 _ _ ?_;clear hK2 K2
      refine wK fun K3 hK3 => ?_
      refine awp_block ?_
      have hnext : Aes.boxP y (i + 1) = Aes.boxP y i ^^^ Aes.rot y (i + 1) := rfl
      generalize Aes.boxP y i = o at *
      refine wE fun K hK => ?_
      simp only [↓DN,UP,DF,Qa,Qb,Qc,Qd,Qe,Qf,Qg,Qh,reduceCtorEq,↓reduceIte,Na,Nb,Nc,Nk,Nf,Ng,Nh,Za,Zb,Zc,TT, h3, h4, h5]
      refine acallk (rotl8_calls y (i + 1) (by omega) (by omega) _) ?_
      rintro r s3 ⟨rfl, rfl⟩
      simp only [↓AXq_nil,↓AXq_cons,pval,DX,Nat.reduceBEq,↓DN,UP,DF,Qa,Qb,Qc,Qd,Qe,Qf,Qg,Qh,reduceCtorEq,↓reduceIte,Na,Nb,Nc,Nk,Nf,Ng,Nh,Za,Zb,Zc,TT, h3, h4, h5, b_xor]
      refine hK _ _ ?_;clear hK K
      simp only [blockQ, thenQ, if_true, if_false]
      refine hK3 _ _ ?_;clear hK3 K3
      refine wE fun K hK => ?_
      simp only [↓DN,UP,DF,Qa,Qb,Qc,Qd,Qe,Qf,Qg,Qh,reduceCtorEq,↓reduceIte,Na,Nb,Nc,Nk,Nf,Ng,Nh,Za,Zb,Zc,TT, h5, w_succ (i + 1) (by omega)]
      refine hK _ _ ?_;clear hK K
      refine ⟨⟨i + 1, by omega, by simp only [upd, h3, Nc, ↓reduceIte], by simp only [upd, Nc, ↓reduceIte, hnext], by simp only [upd, ↓reduceIte], rfl⟩, ?_⟩
      simp only [h5, upd, ↓reduceIte]
      omega
    · obtain rfl : i = 4 := by omega
      refine wS fun K hK => ?_
      simp only [↓DN,UP,DF,Qa,Qb,Qc,Qd,Qe,Qf,Qg,Qh,reduceCtorEq,↓reduceIte,Na,Nb,Nc,Nk,Nf,Ng,Nh,Za,Zb,Zc,TT, h5, decide_eq_false (show ¬ ((4 + 1 : Nat) : Int) < 5 by decide)]
      refine hK _ _ ?_;clear hK K
      refine wC fun X Y hX hY => ?_
      simp only [↓DN,UP,DF,Qa,Qb,Qc,Qd,Qe,Qf,Qg,Qh,reduceCtorEq,↓reduceIte,Na,Nb,Nc,Nk,Nf,Ng,Nh,Za,Zb,Zc,TT, DB]
      refine hY ?_;clear hX hY X Y
      refine awp_exit ?_
      simp only [thenQ, blockQ, if_true]
      refine hK _ _ ?_;clear hK hK2 K K2
      refine wS fun K hK => ?_
      simp only [↓DN,UP,DF,Qa,Qb,Qc,Qd,Qe,Qf,Qg,Qh,reduceCtorEq,↓reduceIte,Na,Nb,Nc,Nk,Nf,Ng,Nh,Za,Zb,Zc,TT, h4]
      refine hK _ _ ?_;clear hK K
      refine awp_ret ?_
      simp only [retQ, AEnds, aresL, ares, List.toList_toArray, ↓upd_same]; try simp only [UP,DF,Nc,↓reduceIte,DT]
      exact ⟨_, _, AV.weak.refl _, AS.le.refl _, rfl, rfl⟩

end Go.Proofs.YtoagkleecgngdaaGreatDoor


set_option autoImplicit false
namespace Go.Proofs.YtoagkleecgngdaaGreatDoor
open Go Go.AM Go.Proofs


variable {Γ : Nat → List AV}

/-- A row of octets, the first i of them new. -/
def fillG (F G : Nat → UInt8) (N i : Nat) : List AV := (List.range N).map fun n => byteV (if n < i then F n else G n)
theorem fillG_len (F G : Nat → UInt8) (N i : Nat) : (fillG F G N i).length = N := by simp [fillG]
theorem fillG_set (F G : Nat → UInt8) (N i : Nat) (x : UInt8) (hx : x = F i) : (fillG F G N i).set i (bV x) = fillG F G N (i + 1) := by
  subst hx
  apply List.ext_getElem?
  intro k
  by_cases e : k = i
  · subst e
    by_cases hk : k < N
    · rw [List.getElem?_set_self (by rw [fillG_len]; exact hk)]
      simp [fillG, hk, byteV]
    · rw [List.getElem?_eq_none (by simp [fillG]; omega), List.getElem?_eq_none (by simp [fillG]; omega)]
  · rw [List.getElem?_set_ne (by omega)]
    by_cases hk : k < N
    · simp only [fillG, List.getElem?_map, List.getElem?_range hk, Option.map_some]
      by_cases h2 : k < i
      · rw [if_pos h2, if_pos (by omega)]
      · rw [if_neg h2, if_neg (by omega)]
    · rw [List.getElem?_eq_none (by simp [fillG]; omega), List.getElem?_eq_none (by simp [fillG]; omega)]
theorem fillG_full (F G : Nat → UInt8) (N : Nat) : fillG F G N N = ((List.range N).map F).map byteV := by
  rw [fillG, List.map_map]
  apply List.map_congr_left
  intro n hn
  rw [if_pos (List.mem_range.1 hn)]
  rfl
theorem fillG_none (F G : Nat → UInt8) (N : Nat) : fillG F G N 0 = ((List.range N).map G).map byteV := by
  rw [fillG, List.map_map]
  apply List.map_congr_left
  intro n hn
  rw [if_neg (by omega)]
  rfl
theorem fillG_nought (F : Nat → UInt8) (N : Nat) : fillG F (fun _ => 0) N 0 = List.replicate N (bV 0) := by
  rw [fillG_none]
  apply List.ext_getElem
  · simp
  · intro k h1 h2
    simp [byteV]
theorem range_list {l : List UInt8} {N : Nat} (h : l.length = N) : (List.range N).map (fun n => l.getD n 0) = l := by
  apply List.ext_getElem
  · simp [h]
  · intro k h1 h2
    simp [List.getElem?_eq_getElem h2]
theorem fillG_drop (F G : Nat → UInt8) (N i j : Nat) (hj : j < N) : List.drop j (fillG F G N i) = byteV (if j < i then F j else G j) :: List.drop (j + 1) (fillG F G N i) := by
  apply drop_cons
  simp [fillG, hj]
theorem bytes_drop {l : List UInt8} (j : Nat) (h : j < l.length) : List.drop j (l.map byteV) = byteV (l.getD j 0) :: List.drop (j + 1) (l.map byteV) := by
  apply drop_cons
  simp [List.getElem?_eq_getElem h]
theorem all_bytes (l : List UInt8) : (l.map byteV).all AV.one = true := all_one_map l
theorem b_conv (n : Nat) : iconv .u8 (n : Int) = (((UInt8.ofNat n).toNat : Nat) : Int) := by
  have := iconv_u8 n
  simp only [byteV, AV.v.injEq, Value.int.injEq, true_and] at this
  exact this.symm
theorem z165 : zcells Tryz.prog 303 = some (List.replicate 256 (bV 0)) := by kernel_rfl
theorem z157 : zcells Tryz.prog 290 = some (List.replicate 16 (bV 0)) := by kernel_rfl
theorem sb_range : (List.range 256).map (fun n => Aes.sb.getD n 0) = Aes.sb := range_list Aes.sb_len

set_option maxHeartbeats 2000000 in
set_option maxRecDepth 100000 in
theorem boxes_calls (s : AS) : ACalls Tryz.prog Γ 285 [] s (fun r s' => r = .agg (Aes.sb.map byteV) ∧ s' = s) := by
  refine acalls_body Tryz.func285 rfl Tryz.ntmps285 Tryz.results285 (by simp) ?_
  refine wS fun K hK => ?_
  simp only [↓DN,UP,DF,Qa,Qb,Qc,Qd,Qe,Qf,Qg,Qh,reduceCtorEq,↓reduceIte,Na,Nb,Nc,Nk,Nf,Ng,Nh,Za,Zb,Zc,TT, z165]
  intro o0 ho0
  refine hK _ _ ?_;clear hK K
  refine wS fun K hK => ?_
  simp only [↓DN,UP,DF,Qa,Qb,Qc,Qd,Qe,Qf,Qg,Qh,reduceCtorEq,↓reduceIte,Na,Nb,Nc,Nk,Nf,Ng,Nh,Za,Zb,Zc,TT, z165]
  intro o1 ho1
  obtain ⟨h10, ho1'⟩ := AS.fresh_set ho1
  refine hK _ _ ?_;clear hK K
  refine wK fun K hK => ?_
  refine wS fun K hK => ?_
  simp only [↓DN,UP,DF,Qa,Qb,Qc,Qd,Qe,Qf,Qg,Qh,reduceCtorEq,↓reduceIte,Na,Nb,Nc,Nk,Nf,Ng,Nh,Za,Zb,Zc,TT]
  refine hK _ _ ?_;clear hK K
  refine awp_block ?_
  rw [← fillG_nought (fun n => Aes.sb.getD n 0) 256]
  have hl0 := fillG_len (fun n => Aes.sb.getD n 0) (fun _ => 0) 256 0
  refine awp_loop (fun E s1 => ∃ i : Nat, i ≤ 256 ∧ E 0 = .ptr o0 0 ∧ E 1 = .ptr o1 0 ∧ E 3 = .v (.int .i64 i) ∧ s1 = (s.set o0 (fillG (fun n => Aes.sb.getD n 0) (fun _ => 0) 256 0)).set o1 (fillG (fun n => Aes.sb.getD n 0) (fun _ => 0) 256 i))
    (fun E _ => match E 3 with | .v (.int _ i) => 256 - i.toNat | _ => 0) ?_ ?_
  · exact ⟨0, by omega, by simp only [upd, Nc, ↓reduceIte], by simp only [upd, Nc, ↓reduceIte], by simp only [upd, ↓reduceIte]; rfl, rfl⟩
  · rintro E1 s1 ⟨i, hi, e0, e1, e3, rfl⟩ -
    by_cases hi' : i < 256
    · have hi2 : (i : Int) < 256 := by omega
      have hi3 : (i : Int) < ((256 : Nat) : Int) := by omega
      have hi0 : (0 : Int) ≤ (i : Int) := by omega
      refine wS fun K hK => ?_
      simp only [↓DN,UP,DF,Qa,Qb,Qc,Qd,Qe,Qf,Qg,Qh,reduceCtorEq,↓reduceIte,Na,Nb,Nc,Nk,Nf,Ng,Nh,Za,Zb,Zc,TT, e3, decide_eq_true hi2]
      refine hK _ _ ?_;clear hK K
      refine wK fun K2 hK2 => ?_
      refine wC fun X Y hX hY => ?_
      simp only [↓DN,UP,DF,Qa,Qb,Qc,Qd,Qe,Qf,Qg,Qh,reduceCtorEq,↓reduceIte,Na,Nb,Nc,Nk,Nf,Ng,Nh,Za,Zb,Zc,TT, DB]
      refine hX ?_;clear hX hY X Y
      refine awp_skip ?_
      refine hK2 _ _ ?_;clear hK2 K2
      refine wK fun K3 hK3 => ?_
      refine awp_block ?_
      refine wS fun K hK => ?_
      simp only [↓DN,UP,DF,Qa,Qb,Qc,Qd,Qe,Qf,Qg,Qh,reduceCtorEq,↓reduceIte,Na,Nb,Nc,Nk,Nf,Ng,Nh,Za,Zb,Zc,TT, e3]
      refine hK _ _ ?_;clear hK K
      have hset := fillG_set (fun n => Aes.sb.getD n 0) (fun _ => 0) 256 i (Aes.box (UInt8.ofNat i)) (Aes.sb_box i hi')
      have hlen := fillG_len (fun n => Aes.sb.getD n 0) (fun _ => 0) 256 i
      generalize fillG (fun n => Aes.sb.getD n 0) (fun _ => 0) 256 i = R at *
      generalize hR' : fillG (fun n => Aes.sb.getD n 0) (fun _ => 0) 256 (i + 1) = R' at *
      refine wE fun K hK => ?_
      simp only [↓DN,UP,DF,Qa,Qb,Qc,Qd,Qe,Qf,Qg,Qh,reduceCtorEq,↓reduceIte,Na,Nb,Nc,Nk,Nf,Ng,Nh,Za,Zb,Zc,TT, e1, b_conv]
      refine acallk (aesBox_calls (UInt8.ofNat i) _) ?_
      rintro r s2 ⟨rfl, rfl⟩
      simp only [↓AXq_nil,↓AXq_cons,pval,DX,Nat.reduceBEq,↓DN,UP,DF,Qa,Qb,Qc,Qd,Qe,Qf,Qg,Qh,reduceCtorEq,↓reduceIte,Na,Nb,Nc,Nk,Nf,Ng,Nh,Za,Zb,Zc,TT, e1, hi0, hi2, hi3, hset, hlen]
      refine ⟨by omega, hK _ _ ?_⟩
      clear hK K
      simp only [blockQ, thenQ, if_true, if_false]
      refine hK3 _ _ ?_;clear hK3 K3
      refine wE fun K hK => ?_
      simp only [↓DN,UP,DF,Qa,Qb,Qc,Qd,Qe,Qf,Qg,Qh,reduceCtorEq,↓reduceIte,Na,Nb,Nc,Nk,Nf,Ng,Nh,Za,Zb,Zc,TT, e3, w_succ i (by omega)]
      refine hK _ _ ?_;clear hK K
      refine ⟨⟨i + 1, by omega, by simp only [upd, e0, Nc, ↓reduceIte], by simp only [upd, e1, Nc, ↓reduceIte], by simp only [upd, ↓reduceIte], by rw [hR']⟩, ?_⟩
      simp only [e3, upd, ↓reduceIte]
      omega
    · have hi2 : ¬ (i : Int) < 256 := by omega
      obtain rfl : i = 256 := by omega
      refine wS fun K hK => ?_
      simp only [↓DN,UP,DF,Qa,Qb,Qc,Qd,Qe,Qf,Qg,Qh,reduceCtorEq,↓reduceIte,Na,Nb,Nc,Nk,Nf,Ng,Nh,Za,Zb,Zc,TT, e3, decide_eq_false hi2]
      refine hK _ _ ?_;clear hK K
      refine wK fun K2 hK2 => ?_
      refine wC fun X Y hX hY => ?_
      simp only [↓DN,UP,DF,Qa,Qb,Qc,Qd,Qe,Qf,Qg,Qh,reduceCtorEq,↓reduceIte,Na,Nb,Nc,Nk,Nf,Ng,Nh,Za,Zb,Zc,TT, DB]
      refine hY ?_;clear hX hY X Y
      refine awp_exit ?_
      simp only [thenQ, blockQ, if_true]
      clear hK2 K2
      refine hK _ _ ?_;clear hK K
      rw [fillG_full, sb_range]
      have hwl : (Aes.sb.map byteV).length = 256 := by rw [List.length_map, Aes.sb_len]
      have hall := all_bytes Aes.sb
      have htk : List.take 256 (Aes.sb.map byteV) = Aes.sb.map byteV := List.take_of_length_le (by omega)
      generalize Aes.sb.map byteV = X at *
      generalize fillG (fun n => Aes.sb.getD n 0) (fun _ => 0) 256 0 = R0 at *
      refine wS fun K hK => ?_
      simp only [↓DN,UP,DF,Qa,Qb,Qc,Qd,Qe,Qf,Qg,Qh,reduceCtorEq,↓reduceIte,Na,Nb,Nc,Nk,Nf,Ng,Nh,Za,Zb,Zc,TT, e0, e1, hwl, htk, hall, h10, h10.symm]
      rw [asetAll_whole R0 X (by omega)]
      refine ⟨by omega, hK _ _ ?_⟩
      clear hK K
      refine awp_ret ?_
      refine aends_cell (v := .agg X) (o := o0) (off := 0) (by simp only [upd, e0, Nc, ↓reduceIte]) (AS.set_objs_same _ _ _) (by rw [T.c303]; decide) (by simp only [↓DN,UP,DF,Qa,Qb,Qc,Qd,Qe,Qf,Qg,Qh,reduceCtorEq,↓reduceIte,Na,Nb,Nc,Nk,Nf,Ng,Nh,Za,Zb,Zc,TT, hwl, htk]) ?_
      exact ⟨_, s, AV.weak.refl _, AS.le_set (AS.le_set (AS.le_set (AS.le.refl s) ho0 _) ho1' _) ho0 _, rfl, rfl⟩

end Go.Proofs.YtoagkleecgngdaaGreatDoor


set_option autoImplicit false
namespace Go.Proofs.YtoagkleecgngdaaGreatDoor
open Go Go.AM Go.Proofs


variable {Γ : Nat → List AV}

theorem rem4 (a : Nat) : irem (a : Int) 4 = ((a % 4 : Nat) : Int) := irem_u a 4
theorem add_const (a c : Nat) (h : a < 1000) (hc : c < 1000) : iadd .i64 (a : Int) ((c : Nat) : Int) = ((a + c : Nat) : Int) := by
  rw [iadd_i64 (by omega)]
  rfl
theorem add_c1 (a : Nat) (h : a < 1000) : iadd .i64 (a : Int) 1 = ((a + 1 : Nat) : Int) := add_const a 1 h (by omega)
theorem add_c2 (a : Nat) (h : a < 1000) : iadd .i64 (a : Int) 2 = ((a + 2 : Nat) : Int) := add_const a 2 h (by omega)
theorem add_c3 (a : Nat) (h : a < 1000) : iadd .i64 (a : Int) 3 = ((a + 3 : Nat) : Int) := add_const a 3 h (by omega)

theorem fresh_two {s : AS} {o p q : Nat} {x y : List AV} (h : (if q = p then some x else if q = o then some y else s.objs q) = none) : q ≠ p ∧ q ≠ o ∧ s.objs q = none := by
  by_cases h1 : q = p
  · rw [if_pos h1] at h; cases h
  · rw [if_neg h1] at h
    by_cases h2 : q = o
    · rw [if_pos h2] at h; cases h
    · rw [if_neg h2] at h; exact ⟨h1, h2, h⟩

set_option maxHeartbeats 4000000 in
set_option maxRecDepth 100000 in
theorem aesAdd_calls (b k : List UInt8) (hb : b.length = 16) (hk : k.length = 16) (s : AS) :
    ACalls Tryz.prog Γ 287 [.agg (b.map byteV), .agg (k.map byteV)] s (fun r s' => r = .agg ((Aes.add b k).map byteV) ∧ s' = s) := by
  refine acalls_body Tryz.func287 rfl Tryz.ntmps287 Tryz.results287 (by simp) ?_
  have hF : (List.range 16).map (fun n => b.getD n 0 ^^^ k.getD n 0) = Aes.add b k := rfl
  have hR0 : fillG (fun n => b.getD n 0 ^^^ k.getD n 0) (fun n => b.getD n 0) 16 0 = b.map byteV := by rw [fillG_none, range_list hb]
  have hkl : (k.map byteV).length = 16 := by rw [List.length_map, hk]
  refine wS fun K hK => ?_
  simp only [↓DN,UP,DF,Qa,Qb,Qc,Qd,Qe,Qf,Qg,Qh,reduceCtorEq,↓reduceIte,Na,Nb,Nc,Nk,Nf,Ng,Nh,Za,Zb,Zc,TT, z157]
  intro o2 ho2 o3 ho3
  obtain ⟨h32, ho3'⟩ := AS.fresh_set ho3
  intro o4 ho4
  obtain ⟨h43, h42, ho4'⟩ := fresh_two ho4
  rw [show ([AV.v (.int .u8 0), AV.v (.int .u8 0), AV.v (.int .u8 0), AV.v (.int .u8 0), AV.v (.int .u8 0), AV.v (.int .u8 0), AV.v (.int .u8 0), AV.v (.int .u8 0), AV.v (.int .u8 0), AV.v (.int .u8 0), AV.v (.int .u8 0), AV.v (.int .u8 0), AV.v (.int .u8 0), AV.v (.int .u8 0), AV.v (.int .u8 0), AV.v (.int .u8 0)] : List AV) = List.replicate 16 (bV 0) from rfl]
  refine hK _ _ ?_;clear hK K
  rw [← hR0]
  have j2 : (((s.set o2 (fillG (fun n => b.getD n 0 ^^^ k.getD n 0) (fun n => b.getD n 0) 16 0)).set o3 (k.map byteV)).set o4 (List.replicate 16 (bV 0))).objs o2 = some (fillG (fun n => b.getD n 0 ^^^ k.getD n 0) (fun n => b.getD n 0) 16 0) := by
    rw [AS.set_objs_ne _ h42.symm, AS.set_objs_ne _ h32.symm, AS.set_objs_same]
  have j3 : (((s.set o2 (fillG (fun n => b.getD n 0 ^^^ k.getD n 0) (fun n => b.getD n 0) 16 0)).set o3 (k.map byteV)).set o4 (List.replicate 16 (bV 0))).objs o3 = some (k.map byteV) := by
    rw [AS.set_objs_ne _ h43.symm, AS.set_objs_same]
  have j4 : (((s.set o2 (fillG (fun n => b.getD n 0 ^^^ k.getD n 0) (fun n => b.getD n 0) 16 0)).set o3 (k.map byteV)).set o4 (List.replicate 16 (bV 0))).objs o4 = some (List.replicate 16 (bV 0)) := AS.set_objs_same _ _ _
  have hle : s.le (((s.set o2 (fillG (fun n => b.getD n 0 ^^^ k.getD n 0) (fun n => b.getD n 0) 16 0)).set o3 (k.map byteV)).set o4 (List.replicate 16 (bV 0))) := AS.le_set (AS.le_set (AS.le_set (AS.le.refl s) ho2 _) ho3' _) ho4' _
  generalize (((s.set o2 (fillG (fun n => b.getD n 0 ^^^ k.getD n 0) (fun n => b.getD n 0) 16 0)).set o3 (k.map byteV)).set o4 (List.replicate 16 (bV 0))) = s0 at *
  clear ho3 ho4 hR0
  have hzl : (List.replicate 16 (bV 0)).length = 16 := by simp
  generalize List.replicate 16 (bV 0) = Z at *
  refine wK fun K hK => ?_
  refine wS fun K hK => ?_
  simp only [↓DN,UP,DF,Qa,Qb,Qc,Qd,Qe,Qf,Qg,Qh,reduceCtorEq,↓reduceIte,Na,Nb,Nc,Nk,Nf,Ng,Nh,Za,Zb,Zc,TT]
  refine hK _ _ ?_;clear hK K
  refine awp_block ?_
  refine awp_loop (fun E s1 => ∃ i : Nat, i ≤ 16 ∧ E 2 = .ptr o2 0 ∧ E 3 = .ptr o3 0 ∧ E 4 = .ptr o4 0 ∧ E 6 = .v (.int .i64 i) ∧ s1.objs o2 = some (fillG (fun n => b.getD n 0 ^^^ k.getD n 0) (fun n => b.getD n 0) 16 i) ∧ s1.objs o3 = some (k.map byteV) ∧ s1.objs o4 = some Z ∧ s.le s1)
    (fun E _ => match E 6 with | .v (.int _ i) => 16 - i.toNat | _ => 0) ?_ ?_
  · exact ⟨0, by omega, by simp only [upd, Nc, ↓reduceIte], by simp only [upd, Nc, ↓reduceIte], by simp only [upd, Nc, ↓reduceIte], by simp only [upd, ↓reduceIte]; rfl, j2, j3, j4, hle⟩
  · clear j2 j3 j4 hle
    rintro E1 s1 ⟨i, hi, e2, e3, e4, e6, j2, j3, j4, hle⟩ -
    by_cases hi' : i < 16
    · have hi2 : (i : Int) < 16 := by omega
      have hi3 : (i : Int) < ((16 : Nat) : Int) := by omega
      have hi0 : (0 : Int) ≤ (i : Int) := by omega
      refine wS fun K hK => ?_
      simp only [↓DN,UP,DF,Qa,Qb,Qc,Qd,Qe,Qf,Qg,Qh,reduceCtorEq,↓reduceIte,Na,Nb,Nc,Nk,Nf,Ng,Nh,Za,Zb,Zc,TT, e6, decide_eq_true hi2]
      refine hK _ _ ?_;clear hK K
      refine wK fun K2 hK2 => ?_
      refine wC fun X Y hX hY => ?_
      simp only [↓DN,UP,DF,Qa,Qb,Qc,Qd,Qe,Qf,Qg,Qh,reduceCtorEq,↓reduceIte,Na,Nb,Nc,Nk,Nf,Ng,Nh,Za,Zb,Zc,TT, DB]
      refine hX ?_;clear hX hY X Y
      refine awp_skip ?_
      refine hK2 _ _ ?_;clear hK2 K2
      refine wK fun K3 hK3 => ?_
      refine awp_block ?_
      refine wS fun K hK => ?_
      simp only [↓DN,UP,DF,Qa,Qb,Qc,Qd,Qe,Qf,Qg,Qh,reduceCtorEq,↓reduceIte,Na,Nb,Nc,Nk,Nf,Ng,Nh,Za,Zb,Zc,TT, e6]
      refine hK _ _ ?_;clear hK K
      have d2 := fillG_drop (fun n => b.getD n 0 ^^^ k.getD n 0) (fun n => b.getD n 0) 16 i i hi'
      rw [if_neg (Nat.lt_irrefl i)] at d2
      have d3 := bytes_drop (l := k) i (by omega)
      have hset := fillG_set (fun n => b.getD n 0 ^^^ k.getD n 0) (fun n => b.getD n 0) 16 i _ rfl
      have hlen := fillG_len (fun n => b.getD n 0 ^^^ k.getD n 0) (fun n => b.getD n 0) 16 i
      generalize hR' : fillG (fun n => b.getD n 0 ^^^ k.getD n 0) (fun n => b.getD n 0) 16 (i + 1) = R' at *
      generalize fillG (fun n => b.getD n 0 ^^^ k.getD n 0) (fun n => b.getD n 0) 16 i = R at *
      generalize b.getD i 0 = x at *
      generalize k.getD i 0 = y at *
      generalize k.map byteV = Y at *
      refine awp_mrk_end T.mixed [(o2, R), (o3, Y)] [] [2, 5] [8] (by kernel_rfl) (by simp only [Pres_cons, Pres_nil, and_true]; simp [AS.set, upd, j2, j3]) ?_
      intro K hK
      simp only [↓AXr_nil, ↓AXr_cons, gval, lval, fzGet_cons, fzGet_nil, Pres_cons, Pres_nil, List.any_cons, List.any_nil, List.contains_cons, List.contains_nil, Nat.reduceBEq, Bool.or_false, Bool.or_true, Bool.or_self, Bool.false_or, ↓DN,UP,DF,Qa,Qb,Qc,Qd,Qe,Qf,Qg,Qh,reduceCtorEq,↓reduceIte,Na,Nb,Nc,Nk,Nf,Ng,Nh,Za,Zb,Zc,TT, e2, e3, e6, hi0, hi2, hi3, d2, d3, h32, h32.symm, j2, j3, byteV, b_xor, hset, hlen, hkl]
      refine ⟨by omega, hK _ _ ?_⟩
      clear hK K
      simp only [blockQ, thenQ, if_true, if_false]
      refine hK3 _ _ ?_;clear hK3 K3
      refine wE fun K hK => ?_
      simp only [↓DN,UP,DF,Qa,Qb,Qc,Qd,Qe,Qf,Qg,Qh,reduceCtorEq,↓reduceIte,Na,Nb,Nc,Nk,Nf,Ng,Nh,Za,Zb,Zc,TT, e6, w_succ i (by omega)]
      refine hK _ _ ?_;clear hK K
      refine ⟨⟨i + 1, by omega, by simp only [upd, e2, Nc, ↓reduceIte], by simp only [upd, e3, Nc, ↓reduceIte], by simp only [upd, e4, Nc, ↓reduceIte], by simp only [upd, ↓reduceIte], by rw [hR']; exact AS.set_objs_same _ _ _, by rw [AS.set_objs_ne _ h32]; exact j3, by rw [AS.set_objs_ne _ h42]; exact j4, AS.le_set hle ho2 _⟩, ?_⟩
      simp only [e6, upd, ↓reduceIte]
      omega
    · have hi2 : ¬ (i : Int) < 16 := by omega
      obtain rfl : i = 16 := by omega
      refine wS fun K hK => ?_
      simp only [↓DN,UP,DF,Qa,Qb,Qc,Qd,Qe,Qf,Qg,Qh,reduceCtorEq,↓reduceIte,Na,Nb,Nc,Nk,Nf,Ng,Nh,Za,Zb,Zc,TT, e6, decide_eq_false hi2]
      refine hK _ _ ?_;clear hK K
      refine wK fun K2 hK2 => ?_
      refine wC fun X Y hX hY => ?_
      simp only [↓DN,UP,DF,Qa,Qb,Qc,Qd,Qe,Qf,Qg,Qh,reduceCtorEq,↓reduceIte,Na,Nb,Nc,Nk,Nf,Ng,Nh,Za,Zb,Zc,TT, DB]
      refine hY ?_;clear hX hY X Y
      refine awp_exit ?_
      simp only [thenQ, blockQ, if_true]
      clear hK2 K2
      refine hK _ _ ?_;clear hK K
      rw [fillG_full, hF] at j2
      have hwl : ((Aes.add b k).map byteV).length = 16 := by rw [List.length_map, Aes.add_len]
      have hall := all_bytes (Aes.add b k)
      have htk : List.take 16 ((Aes.add b k).map byteV) = (Aes.add b k).map byteV := List.take_of_length_le (by omega)
      generalize (Aes.add b k).map byteV = X at *
      refine wS fun K hK => ?_
      simp only [↓DN,UP,DF,Qa,Qb,Qc,Qd,Qe,Qf,Qg,Qh,reduceCtorEq,↓reduceIte,Na,Nb,Nc,Nk,Nf,Ng,Nh,Za,Zb,Zc,TT, e2, e4, j2, j4, hwl, htk, hall, h42, h42.symm]
      rw [asetAll_whole Z X (by omega)]
      refine ⟨by omega, hK _ _ ?_⟩
      clear hK K
      refine awp_ret ?_
      refine aends_cell (v := .agg X) (o := o4) (off := 0) (by simp only [upd, e4, Nc, ↓reduceIte]) (AS.set_objs_same _ _ _) (by rw [T.c290]; decide) (by simp only [↓DN,UP,DF,Qa,Qb,Qc,Qd,Qe,Qf,Qg,Qh,reduceCtorEq,↓reduceIte,Na,Nb,Nc,Nk,Nf,Ng,Nh,Za,Zb,Zc,TT, hwl, htk]) ?_
      exact ⟨_, s, AV.weak.refl _, AS.le_set hle ho4' _, rfl, rfl⟩

end Go.Proofs.YtoagkleecgngdaaGreatDoor


set_option autoImplicit false
namespace Go.Proofs.YtoagkleecgngdaaGreatDoor
open Go Go.AM Go.Proofs


variable {Γ : Nat → List AV}

theorem four_ne : ¬ (4 : Int) = 0 := by decide
/-- A column, mixed. -/
def mixB (c : List UInt8) : List UInt8 := (List.range 4).map fun i => Aes.mx (fun j => c.getD j 0) i
theorem mixB_len (c : List UInt8) : (mixB c).length = 4 := by simp [mixB]

set_option maxHeartbeats 4000000 in
set_option maxRecDepth 100000 in
theorem aesMix_calls (c : List UInt8) (hc : c.length = 4) (s : AS) :
    ACalls Tryz.prog Γ 307 [.agg (c.map byteV)] s (fun r s' => r = .agg ((mixB c).map byteV) ∧ s' = s) := by
  refine acalls_body Tryz.func307 rfl Tryz.ntmps307 Tryz.results307 (by simp) ?_
  have hF : (List.range 4).map (fun i => Aes.mx (fun j => c.getD j 0) i) = mixB c := rfl
  have hcl : (c.map byteV).length = 4 := by rw [List.length_map, hc]
  have hz4 : ([.v (.int .u8 0), .v (.int .u8 0), .v (.int .u8 0), .v (.int .u8 0)] : List AV) = List.replicate 4 (bV 0) := rfl
  refine wS fun K hK => ?_
  simp only [↓DN,UP,DF,Qa,Qb,Qc,Qd,Qe,Qf,Qg,Qh,reduceCtorEq,↓reduceIte,Na,Nb,Nc,Nk,Nf,Ng,Nh,Za,Zb,Zc,TT]
  intro o1 ho1 o2 ho2
  obtain ⟨h21, ho2'⟩ := AS.fresh_set ho2
  rw [hz4]
  refine hK _ _ ?_;clear hK K
  refine wS fun K hK => ?_
  simp only [↓DN,UP,DF,Qa,Qb,Qc,Qd,Qe,Qf,Qg,Qh,reduceCtorEq,↓reduceIte,Na,Nb,Nc,Nk,Nf,Ng,Nh,Za,Zb,Zc,TT]
  intro o3 ho3
  obtain ⟨h32, h31, ho3'⟩ := fresh_two ho3
  rw [hz4]
  refine hK _ _ ?_;clear hK K
  generalize hs0 : ((s.set o1 (c.map byteV)).set o2 (List.replicate 4 (bV 0))).set o3 (List.replicate 4 (bV 0)) = s0 at *
  have j1 : s0.objs o1 = some (c.map byteV) := by rw [← hs0, AS.set_objs_ne _ h31.symm, AS.set_objs_ne _ h21.symm, AS.set_objs_same]
  have j2 : s0.objs o2 = some (List.replicate 4 (bV 0)) := by rw [← hs0, AS.set_objs_ne _ h32.symm, AS.set_objs_same]
  have j3 : s0.objs o3 = some (List.replicate 4 (bV 0)) := by rw [← hs0]; exact AS.set_objs_same _ _ _
  have hle : s.le s0 := by rw [← hs0]; exact AS.le_set (AS.le_set (AS.le_set (AS.le.refl s) ho1 _) ho2' _) ho3' _
  clear hs0 ho3 ho2
  have hzl : (List.replicate 4 (bV 0)).length = 4 := by simp
  rw [← fillG_nought (fun i => Aes.mx (fun j => c.getD j 0) i) 4] at j3
  generalize List.replicate 4 (bV 0) = Z at *
  refine wK fun K hK => ?_
  refine wS fun K hK => ?_
  simp only [↓DN,UP,DF,Qa,Qb,Qc,Qd,Qe,Qf,Qg,Qh,reduceCtorEq,↓reduceIte,Na,Nb,Nc,Nk,Nf,Ng,Nh,Za,Zb,Zc,TT]
  refine hK _ _ ?_;clear hK K
  refine awp_block ?_
  refine awp_loop (fun E s1 => ∃ i : Nat, i ≤ 4 ∧ E 1 = .ptr o1 0 ∧ E 2 = .ptr o2 0 ∧ E 3 = .ptr o3 0 ∧ E 5 = .v (.int .i64 i) ∧ s1.objs o3 = some (fillG (fun i => Aes.mx (fun j => c.getD j 0) i) (fun _ => 0) 4 i) ∧ s1.objs o1 = some (c.map byteV) ∧ s1.objs o2 = some Z ∧ s.le s1)
    (fun E _ => match E 5 with | .v (.int _ i) => 4 - i.toNat | _ => 0) ?_ ?_
  · exact ⟨0, by omega, by simp only [upd, Nc, ↓reduceIte], by simp only [upd, Nc, ↓reduceIte], by simp only [upd, Nc, ↓reduceIte], by simp only [upd, ↓reduceIte]; rfl, j3, j1, j2, hle⟩
  · clear j1 j2 j3 hle
    rintro E1 s1 ⟨i, hi, e1, e2, e3, e5, j3, j1, j2, hle⟩ -
    by_cases hi' : i < 4
    · have hi2 : (i : Int) < 4 := by omega
      have hi3 : (i : Int) < ((4 : Nat) : Int) := by omega
      have hi0 : (0 : Int) ≤ (i : Int) := by omega
      refine wS fun K hK => ?_
      simp only [↓DN,UP,DF,Qa,Qb,Qc,Qd,Qe,Qf,Qg,Qh,reduceCtorEq,↓reduceIte,Na,Nb,Nc,Nk,Nf,Ng,Nh,Za,Zb,Zc,TT, e5, decide_eq_true hi2]
      refine hK _ _ ?_;clear hK K
      refine wK fun K2 hK2 => ?_
      refine wC fun X Y hX hY => ?_
      simp only [↓DN,UP,DF,Qa,Qb,Qc,Qd,Qe,Qf,Qg,Qh,reduceCtorEq,↓reduceIte,Na,Nb,Nc,Nk,Nf,Ng,Nh,Za,Zb,Zc,TT, DB]
      refine hX ?_;clear hX hY X Y
      refine awp_skip ?_
      refine hK2 _ _ ?_;clear hK2 K2
      refine wK fun K3 hK3 => ?_
      refine awp_block ?_
      refine wS fun K hK => ?_
      simp only [↓DN,UP,DF,Qa,Qb,Qc,Qd,Qe,Qf,Qg,Qh,reduceCtorEq,↓reduceIte,Na,Nb,Nc,Nk,Nf,Ng,Nh,Za,Zb,Zc,TT, e5]
      refine hK _ _ ?_;clear hK K
      have hset := fillG_set (fun i => Aes.mx (fun j => c.getD j 0) i) (fun _ => 0) 4 i _ rfl
      have hlen := fillG_len (fun i => Aes.mx (fun j => c.getD j 0) i) (fun _ => 0) 4 i
      have hmx : Aes.mx (fun j => c.getD j 0) i = (((Aes.dbl (c.getD i 0) ^^^ Aes.dbl (c.getD ((i + 1) % 4) 0)) ^^^ c.getD ((i + 1) % 4) 0) ^^^ c.getD ((i + 2) % 4) 0) ^^^ c.getD ((i + 3) % 4) 0 := rfl
      rw [hmx] at hset
      have d0 := bytes_drop (l := c) i (by omega)
      have d1 := bytes_drop (l := c) ((i + 1) % 4) (by omega)
      have d2 := bytes_drop (l := c) ((i + 2) % 4) (by omega)
      have d3 := bytes_drop (l := c) ((i + 3) % 4) (by omega)
      have k1 : (0 : Int) ≤ (((i + 1) % 4 : Nat) : Int) := by omega
      have k2 : (0 : Int) ≤ (((i + 2) % 4 : Nat) : Int) := by omega
      have k3 : (0 : Int) ≤ (((i + 3) % 4 : Nat) : Int) := by omega
      have m1 : (((i + 1) % 4 : Nat) : Int) < ((4 : Nat) : Int) := by omega
      have m2 : (((i + 2) % 4 : Nat) : Int) < ((4 : Nat) : Int) := by omega
      have m3 : (((i + 3) % 4 : Nat) : Int) < ((4 : Nat) : Int) := by omega
      clear hmx
      generalize hR' : fillG (fun i => Aes.mx (fun j => c.getD j 0) i) (fun _ => 0) 4 (i + 1) = R' at *
      generalize fillG (fun i => Aes.mx (fun j => c.getD j 0) i) (fun _ => 0) 4 i = R at *
      generalize c.getD i 0 = x0 at *
      generalize c.getD ((i + 1) % 4) 0 = x1 at *
      generalize c.getD ((i + 2) % 4) 0 = x2 at *
      generalize c.getD ((i + 3) % 4) 0 = x3 at *
      generalize c.map byteV = Y at *
      have a1 := add_c1 i (by omega)
      have a2 := add_c2 i (by omega)
      have a3 := add_c3 i (by omega)
      refine awp_mrk_end T.mixed [(o1, Y), (o3, R)] [4, 10] [3, 9, 16, 22, 28] [31] (by kernel_rfl) (by simp only [Pres_cons, Pres_nil, and_true]; simp [AS.set, upd, j1, j3]) ?_
      intro K hK
      simp only [↓AXr_nil, ↓AXr_cons, gval, lval, fzGet_cons, fzGet_nil, Pres_cons, Pres_nil, List.any_cons, List.any_nil, List.contains_cons, List.contains_nil, Nat.reduceBEq, Bool.or_false, Bool.or_true, Bool.or_self, Bool.false_or, ↓DN,UP,DF,Qa,Qb,Qc,Qd,Qe,Qf,Qg,Qh,reduceCtorEq,↓reduceIte,Na,Nb,Nc,Nk,Nf,Ng,Nh,Za,Zb,Zc,TT, e1, e3, e5, hi0, hi2, hi3, k1, k2, k3, m1, m2, m3, d0, d1, d2, d3, a1, a2, a3, rem4, four_ne, h31, h31.symm, j1, j3, byteV, b_xor, hset, hlen, hcl]
      refine acallk (double_calls x0 _) ?_
      rintro r sa ⟨rfl, rfl⟩
      simp only [↓AXq_nil, ↓AXq_cons, pval, ↓AXr_nil, ↓AXr_cons, gval, lval, fzGet_cons, fzGet_nil, Pres_cons, Pres_nil, List.any_cons, List.any_nil, DX, Nat.reduceBEq, ↓DN,UP,DF,Qa,Qb,Qc,Qd,Qe,Qf,Qg,Qh,reduceCtorEq,↓reduceIte,Na,Nb,Nc,Nk,Nf,Ng,Nh,Za,Zb,Zc,TT, e1, e3, e5, hi0, hi2, hi3, k1, k2, k3, m1, m2, m3, d0, d1, d2, d3, a1, a2, a3, rem4, four_ne, h31, h31.symm, j1, j3, byteV, b_xor, hset, hlen, hcl]
      refine acallk (double_calls x1 _) ?_
      rintro r sb ⟨rfl, rfl⟩
      simp only [↓AXq_nil, ↓AXq_cons, pval, ↓AXr_nil, ↓AXr_cons, gval, lval, fzGet_cons, fzGet_nil, Pres_cons, Pres_nil, List.any_cons, List.any_nil, DX, Nat.reduceBEq, ↓DN,UP,DF,Qa,Qb,Qc,Qd,Qe,Qf,Qg,Qh,reduceCtorEq,↓reduceIte,Na,Nb,Nc,Nk,Nf,Ng,Nh,Za,Zb,Zc,TT, e1, e3, e5, hi0, hi2, hi3, k1, k2, k3, m1, m2, m3, d0, d1, d2, d3, a1, a2, a3, rem4, four_ne, h31, h31.symm, j1, j3, byteV, b_xor, hset, hlen, hcl]
      refine ⟨by omega, hK _ _ ?_⟩
      clear hK K
      simp only [blockQ, thenQ, if_true, if_false]
      refine hK3 _ _ ?_;clear hK3 K3
      refine wE fun K hK => ?_
      simp only [↓DN,UP,DF,Qa,Qb,Qc,Qd,Qe,Qf,Qg,Qh,reduceCtorEq,↓reduceIte,Na,Nb,Nc,Nk,Nf,Ng,Nh,Za,Zb,Zc,TT, e5, w_succ i (by omega)]
      refine hK _ _ ?_;clear hK K
      refine ⟨⟨i + 1, by omega, by simp only [upd, e1, Nc, ↓reduceIte], by simp only [upd, e2, Nc, ↓reduceIte], by simp only [upd, e3, Nc, ↓reduceIte], by simp only [upd, ↓reduceIte], by rw [hR']; exact AS.set_objs_same _ _ _, by rw [AS.set_objs_ne _ h31.symm]; exact j1, by rw [AS.set_objs_ne _ h32.symm]; exact j2, AS.le_set hle ho3' _⟩, ?_⟩
      simp only [e5, upd, ↓reduceIte]
      omega
    · have hi2 : ¬ (i : Int) < 4 := by omega
      obtain rfl : i = 4 := by omega
      refine wS fun K hK => ?_
      simp only [↓DN,UP,DF,Qa,Qb,Qc,Qd,Qe,Qf,Qg,Qh,reduceCtorEq,↓reduceIte,Na,Nb,Nc,Nk,Nf,Ng,Nh,Za,Zb,Zc,TT, e5, decide_eq_false hi2]
      refine hK _ _ ?_;clear hK K
      refine wK fun K2 hK2 => ?_
      refine wC fun X Y hX hY => ?_
      simp only [↓DN,UP,DF,Qa,Qb,Qc,Qd,Qe,Qf,Qg,Qh,reduceCtorEq,↓reduceIte,Na,Nb,Nc,Nk,Nf,Ng,Nh,Za,Zb,Zc,TT, DB]
      refine hY ?_;clear hX hY X Y
      refine awp_exit ?_
      simp only [thenQ, blockQ, if_true]
      clear hK2 K2
      refine hK _ _ ?_;clear hK K
      rw [fillG_full, hF] at j3
      have hwl : ((mixB c).map byteV).length = 4 := by rw [List.length_map, mixB_len]
      have hall := all_bytes (mixB c)
      have htk : List.take 4 ((mixB c).map byteV) = (mixB c).map byteV := List.take_of_length_le (by omega)
      generalize (mixB c).map byteV = X at *
      refine wS fun K hK => ?_
      simp only [↓DN,UP,DF,Qa,Qb,Qc,Qd,Qe,Qf,Qg,Qh,reduceCtorEq,↓reduceIte,Na,Nb,Nc,Nk,Nf,Ng,Nh,Za,Zb,Zc,TT, e2, e3, j2, j3, hwl, htk, hall, h32, h32.symm]
      rw [asetAll_whole Z X (by omega)]
      refine ⟨by omega, hK _ _ ?_⟩
      clear hK K
      refine awp_ret ?_
      refine aends_cell (v := .agg X) (o := o2) (off := 0) (by simp only [upd, e2, Nc, ↓reduceIte]) (AS.set_objs_same _ _ _) (by rw [T.c321]; decide) (by simp only [↓DN,UP,DF,Qa,Qb,Qc,Qd,Qe,Qf,Qg,Qh,reduceCtorEq,↓reduceIte,Na,Nb,Nc,Nk,Nf,Ng,Nh,Za,Zb,Zc,TT, hwl, htk]) ?_
      exact ⟨_, s, AV.weak.refl _, AS.le_set hle ho2' _, rfl, rfl⟩

end Go.Proofs.YtoagkleecgngdaaGreatDoor


