/- Contracts of the program's functions, each walked once; the conditions stand in each theorem. -/
import Derived.Test.YtoagkleecgngdaaGreatDoorAMp6
import Derived.Test.YtoagkleecgngdaaGreatDoorW1
import Derived.Test.YtoagkleecgngdaaGreatDoorW9
import Derived.Test.YtoagkleecgngdaaGreatDoorAMp3
set_option linter.unusedSimpArgs false
set_option linter.unusedVariables false
open Nat renaming reduceLT → Na, reduceLeDiff → Nb, reduceEqDiff → Nc, reduceAdd → Nk, reduceMul → Nf, reducePow → Ng, reduceSub → Nh
open Int renaming reduceLT → Za, reduceLE → Zb, reduceToNat → Zc
open Go.AM renaming ashift → Qa, aconv → Qb, aindexAddr → Qc, aindex → Qd, aslice → Qe, abuiltin → Qf, awp_reg_seq → wS, awp_reg_end → wE, awp_seq_k → wK, awp_cond_k → wC
open Go.AM.AV renaming cells → Qg, one → Qh
set_option autoImplicit false
namespace Go.Proofs.YtoagkleecgngdaaGreatDoor
open Go Go.AM Go.Proofs


variable {Γ : Nat → List AV}

def shL (b : List UInt8) : List UInt8 := (List.range 16).map (Aes.sh b)
theorem rep4n : ∀ x : AV, List.replicate 4 x = [x, x, x, x] := fun _ => rfl
theorem imul16 (i : Nat) (h : i < 1000) : imul .i64 16 (i : Int) = ((16 * i : Nat) : Int) := by
  rw [imul_i64 (by omega)]
  omega
theorem keys_drop (key : List UInt8) (n : Nat) (h : n < 176) : List.drop n (intL (keysL key)) = nV (Aes.ak key n).toNat :: List.drop (n + 1) (intL (keysL key)) := by
  have := intL_drop (l := keysL key) n (by rw [keysL_len]; exact h)
  rwa [keys_get key n h] at this
def mm (x : UInt8) (j : Nat) : UInt8 := if j = 0 then Aes.dbl x else if j = 1 then Aes.dbl x ^^^ x else x
def mN (j : Nat) : Nat := if j = 0 then 2 else if j = 1 then 3 else 1
theorem mN_lt (j : Nat) : mN j < 256 := by unfold mN; split; decide; split <;> decide
theorem mm_mul (x : UInt8) (j : Nat) : Aes.rmul x.toNat (mN j) = (mm x j).toNat := by
  have hx := x.toNat_lt
  unfold mN mm
  split
  · exact rmul2_at x
  · split
    · have := Aes.rmul3 x.toNat hx
      rwa [UInt8.ofNat_toNat] at this
    · exact Aes.rmul1 x.toNat hx
theorem mN_drop (j : Nat) (h : j < 4) : List.drop j [nV 2, nV 3, nV 1, nV 1] = nV (mN j) :: List.drop (j + 1) [nV 2, nV 3, nV 1, nV 1] := by
  rcases (show j = 0 ∨ j = 1 ∨ j = 2 ∨ j = 3 by omega) with rfl | rfl | rfl | rfl <;> rfl
def acc (c : Nat → UInt8) (row : Nat) : Nat → UInt8
  | 0 => 0
  | k + 1 => acc c row k ^^^ mm (c k) ((k + 4 - row) % 4)
theorem acc_mx (c : Nat → UInt8) (row : Nat) (h : row < 4) : acc c row 4 = Aes.mx c row := by
  rcases (show row = 0 ∨ row = 1 ∨ row = 2 ∨ row = 3 by omega) with rfl | rfl | rfl | rfl
  all_goals
    simp [acc, mm, Aes.mx]
    try ac_rfl
theorem idx_walk (k row : Nat) (hk : k < 4) (hr : row < 4) : irem (iadd .i64 (isub .i64 (k : Int) (row : Int)) 4) 4 = (((k + 4 - row) % 4 : Nat) : Int) := by
  rw [isub_i64 (by omega), iadd_i64 (by omega), show (k : Int) - (row : Int) + 4 = ((k + 4 - row : Nat) : Int) by omega]
  exact irem_u (k + 4 - row) 4
theorem state0_at (key b : List UInt8) (n : Nat) (h : n < 16) : b.getD n 0 ^^^ Aes.ak key n = (Aes.state key b 0).getD n 0 := by
  rw [Aes.state, Aes.add_get _ _ _ h, Aes.ak, Nat.div_eq_of_lt h, Nat.mod_eq_of_lt h]
theorem state_next (key b : List UInt8) (q n : Nat) (h : n < 16) : rndB (Aes.state key b q) (q + 1 == 10) n ^^^ Aes.ak key (16 * (q + 1) + n) = (Aes.state key b (q + 1)).getD n 0 := by
  rw [Aes.state, Aes.add_get _ _ _ h, rndB, Aes.ak, show (16 * (q + 1) + n) / 16 = q + 1 by omega, show (16 * (q + 1) + n) % 16 = n by omega]
theorem state_range (key b : List UInt8) (q : Nat) : (List.range 16).map (fun n => (Aes.state key b q).getD n 0) = Aes.state key b q := range_list (Aes.state_len key b q)
theorem state_intL (key b : List UInt8) (q : Nat) (F : Nat → UInt8) : fillI F (fun n => (Aes.state key b q).getD n 0) 16 0 = intL (Aes.state key b q) := by
  conv => rhs; rw [← state_range key b q]
  rw [fillI, intL, List.map_map]
  apply List.map_congr_left
  intro n hn
  rw [if_neg (by omega)]
  rfl

set_option maxHeartbeats 16000000 in
set_option maxRecDepth 100000 in
theorem refBlock_calls (key b : List UInt8) (hk : key.length = 16) (hb : b.length = 16) (s : AS) :
    ACalls Tryz.prog Γ 272 [.sl 1 176 (intL (keysL key)) .any, .sl 1 256 (intL Aes.sb) .any, .sl 1 16 (intL b) .any] s (fun r s' => r = .sl 1 16 (intL (Aes.block key b)) .no ∧ s' = s) := by
  refine gcalls_body Tryz.func272 rfl Tryz.ntmps272 Tryz.results272 (by simp) ?_
  refine gwp_seq_k ?_
  intro K1 hK1
  refine wE fun K hK => ?_
  simp only [↓DN,UP,DF,Qa,Qb,Qc,Qd,Qe,Qf,Qg,Qh,reduceCtorEq,↓reduceIte,Na,Nb,Nc,Nk,Nf,Ng,Nh,Za,Zb,Zc,TT]
  refine hK _ _ ?_;clear hK K
  simp only [thenQ]
  refine hK1 _ _ ?_;clear hK1 K1
  refine gwp_seq_k ?_
  intro K1 hK1
  refine wE fun K hK => ?_
  simp only [↓DN,UP,DF,Qa,Qb,Qc,Qd,Qe,Qf,Qg,Qh,reduceCtorEq,↓reduceIte,Na,Nb,Nc,Nk,Nf,Ng,Nh,Za,Zb,Zc,TT]
  refine ⟨by decide, by decide, fun o7 ho7 => ?_⟩
  refine hK _ _ ?_;clear hK K
  simp only [thenQ]
  refine hK1 _ _ ?_;clear hK1 K1
  rw [show List.replicate 16 (AV.v (.int .i64 0)) = List.replicate 16 (nV 0) from rfl, ← fillI_nought (fun n => (Aes.state key b 0).getD n 0) 16]
  generalize hs1 : s.set o7 (fillI (fun n => (Aes.state key b 0).getD n 0) (fun _ => 0) 16 0) = s1 at *
  have j7 : s1.objs o7 = some (fillI (fun n => (Aes.state key b 0).getD n 0) (fun _ => 0) 16 0) := by rw [← hs1]; exact AS.set_objs_same _ _ _
  have hle : s.le s1 := by rw [← hs1]; exact AS.le_set (AS.le.refl s) ho7 _
  clear hs1
  refine gwp_seq_k ?_
  intro K1 hK1
  refine wS fun K hK => ?_
  simp only [↓DN,UP,DF,Qa,Qb,Qc,Qd,Qe,Qf,Qg,Qh,reduceCtorEq,↓reduceIte,Na,Nb,Nc,Nk,Nf,Ng,Nh,Za,Zb,Zc,TT]
  refine hK _ _ ?_;clear hK K
  refine awp_block ?_
  refine awp_loop (fun E s2 => ∃ i : Nat, i ≤ 16 ∧ E 0 = .sl 1 176 (intL (keysL key)) .any ∧ E 1 = .sl 1 256 (intL Aes.sb) .any ∧ E 2 = .sl 1 16 (intL b) .any ∧ E 7 = .osl o7 0 1 16 16 ∧ E 8 = nV i ∧ s2.objs o7 = some (fillI (fun n => (Aes.state key b 0).getD n 0) (fun _ => 0) 16 i) ∧ s.le s2)
    (fun E _ => match E 8 with | .v (.int _ i) => 16 - i.toNat | _ => 0) ?_ ?_
  · exact ⟨0, by omega, by simp only [upd, initE, Nc, ↓reduceIte]; rfl, by simp only [upd, initE, Nc, ↓reduceIte]; rfl, by simp only [upd, initE, Nc, ↓reduceIte]; rfl, by simp only [upd, Nc, ↓reduceIte], by simp only [upd, ↓reduceIte]; rfl, j7, hle⟩
  · clear j7 hle
    rintro E1 s2 ⟨i, hi, e0, e1, e2, e7, e8, j7, hle⟩ -
    refine wK fun K2 hK2 => ?_
    by_cases hi' : i < 16
    · refine wS fun K hK => ?_
      simp only [↓DN,UP,DF,Qa,Qb,Qc,Qd,Qe,Qf,Qg,Qh,reduceCtorEq,↓reduceIte,Na,Nb,Nc,Nk,Nf,Ng,Nh,Za,Zb,Zc,TT, e8, decide_eq_true (show (i : Int) < 16 by omega)]
      refine hK _ _ ?_;clear hK K
      refine wC fun X Y hX hY => ?_
      simp only [↓DN,UP,DF,Qa,Qb,Qc,Qd,Qe,Qf,Qg,Qh,reduceCtorEq,↓reduceIte,Na,Nb,Nc,Nk,Nf,Ng,Nh,Za,Zb,Zc,TT, DB]
      refine hX ?_;clear hX hY X Y
      refine awp_skip ?_
      refine hK2 _ _ ?_;clear hK2 K2
      refine wK fun K3 hK3 => ?_
      refine awp_block ?_
      have hst := state0_at key b i hi'
      have hset := fillI_set (fun n => (Aes.state key b 0).getD n 0) (fun _ => 0) 16 i _ (by rw [← hst])
      have hlen := fillI_len (fun n => (Aes.state key b 0).getD n 0) (fun _ => 0) 16 i
      have db := intL_drop (l := b) i (by omega)
      have dk := keys_drop key i (by omega)
      generalize hR' : fillI (fun n => (Aes.state key b 0).getD n 0) (fun _ => 0) 16 (i + 1) = R' at *
      generalize fillI (fun n => (Aes.state key b 0).getD n 0) (fun _ => 0) 16 i = R at *
      generalize b.getD i 0 = x at *
      generalize Aes.ak key i = y at *
      generalize hKS : intL (keysL key) = KS at *
      generalize hBB : intL b = BB at *
      have m0 : (0 : Int) ≤ (i : Int) := by omega
      have m1 : (i : Int) < ((16 : Nat) : Int) := by omega
      have m2 : (i : Int) < ((176 : Nat) : Int) := by omega
      have m3 : i + 1 ≤ 16 := by omega
      refine awp_mrk_end T.mixed [(o7, R)] [] [] [12] (by kernel_rfl) (by simp only [Pres_cons, Pres_nil, and_true]; simp [AS.set, upd, j7]) ?_
      intro K hK
      simp only [↓AXr_nil, ↓AXr_cons, gval, lval, fzGet_cons, fzGet_nil, Pres_cons, Pres_nil, List.any_cons, List.any_nil, List.contains_cons, List.contains_nil, Nat.reduceBEq, Bool.or_false, Bool.or_true, Bool.or_self, Bool.false_or, ↓DN,UP,DF,Qa,Qb,Qc,Qd,Qe,Qf,Qg,Qh,reduceCtorEq,↓reduceIte,Na,Nb,Nc,Nk,Nf,Ng,Nh,Za,Zb,Zc,TT, e0, e2, e7, e8, m0, m1, m2, m3, hi', j7, db, dk, nb_xor, hset, hlen]
      first
        | refine hK _ _ ?_
        | refine ⟨by omega, hK _ _ ?_⟩
      clear hK K
      simp only [blockQ, thenQ, if_true, if_false]
      refine hK3 _ _ ?_;clear hK3 K3
      refine wE fun K hK => ?_
      simp only [↓DN,UP,DF,Qa,Qb,Qc,Qd,Qe,Qf,Qg,Qh,reduceCtorEq,↓reduceIte,Na,Nb,Nc,Nk,Nf,Ng,Nh,Za,Zb,Zc,TT, e8, w_succ i (by omega)]
      refine hK _ _ ?_;clear hK K
      refine ⟨⟨i + 1, by omega, by simp only [upd, e0, Nc, ↓reduceIte], by simp only [upd, e1, Nc, ↓reduceIte], by simp only [upd, e2, Nc, ↓reduceIte], by simp only [upd, e7, Nc, ↓reduceIte], by simp only [upd, ↓reduceIte], by rw [hR']; exact AS.set_objs_same _ _ _, AS.le_set hle ho7 _⟩, ?_⟩
      simp only [e8, upd, ↓reduceIte]
      omega
    · obtain rfl : i = 16 := by omega
      refine wS fun K hK => ?_
      simp only [↓DN,UP,DF,Qa,Qb,Qc,Qd,Qe,Qf,Qg,Qh,reduceCtorEq,↓reduceIte,Na,Nb,Nc,Nk,Nf,Ng,Nh,Za,Zb,Zc,TT, e8, decide_eq_false (show ¬ ((16 : Nat) : Int) < 16 by decide)]
      refine hK _ _ ?_;clear hK K
      refine wC fun X Y hX hY => ?_
      simp only [↓DN,UP,DF,Qa,Qb,Qc,Qd,Qe,Qf,Qg,Qh,reduceCtorEq,↓reduceIte,Na,Nb,Nc,Nk,Nf,Ng,Nh,Za,Zb,Zc,TT, DB]
      refine hY ?_;clear hX hY X Y
      refine awp_exit ?_
      simp only [thenQ, blockQ, if_true]
      clear hK2 K2
      refine hK1 _ _ ?_;clear hK1 K1
      rw [fillI_full, state_range] at j7
      refine gwp_seq_k ?_
      intro K1 hK1
      refine wE fun K hK => ?_
      simp only [↓DN,UP,DF,Qa,Qb,Qc,Qd,Qe,Qf,Qg,Qh,reduceCtorEq,↓reduceIte,Na,Nb,Nc,Nk,Nf,Ng,Nh,Za,Zb,Zc,TT, rep4n]
      refine hK _ _ ?_;clear hK K
      simp only [thenQ]
      refine hK1 _ _ ?_;clear hK1 K1
      refine gwp_seq_k ?_
      intro K1 hK1
      refine wS fun K hK => ?_
      simp only [↓DN,UP,DF,Qa,Qb,Qc,Qd,Qe,Qf,Qg,Qh,reduceCtorEq,↓reduceIte,Na,Nb,Nc,Nk,Nf,Ng,Nh,Za,Zb,Zc,TT]
      refine hK _ _ ?_;clear hK K
      refine awp_block ?_
      refine awp_loop (fun E s3 => ∃ q : Nat, q ≤ 10 ∧ E 0 = .sl 1 176 (intL (keysL key)) .any ∧ E 1 = .sl 1 256 (intL Aes.sb) .any ∧ E 7 = .osl o7 0 1 16 16 ∧ E 9 = .sl 1 4 [nV 2, nV 3, nV 1, nV 1] .new ∧ E 10 = nV (q + 1) ∧ s3.objs o7 = some (intL (Aes.state key b q)) ∧ s.le s3)
        (fun E _ => match E 10 with | .v (.int _ i) => 11 - i.toNat | _ => 0) ?_ ?_
      · exact ⟨0, by omega, by simp only [upd, e0, Nc, ↓reduceIte], by simp only [upd, e1, Nc, ↓reduceIte], by simp only [upd, e7, Nc, ↓reduceIte], by simp only [upd, Nc, ↓reduceIte]; rfl, by simp only [upd, ↓reduceIte]; rfl, j7, hle⟩
      · clear j7 hle e0 e1 e2 e7 e8
        rintro E2 s3 ⟨q, hq, e0, e1, e7, e9, e10, j7, hle⟩ -
        refine wK fun K2 hK2 => ?_
        by_cases hq' : q < 10
        · refine wS fun K hK => ?_
          simp only [↓DN,UP,DF,Qa,Qb,Qc,Qd,Qe,Qf,Qg,Qh,reduceCtorEq,↓reduceIte,Na,Nb,Nc,Nk,Nf,Ng,Nh,Za,Zb,Zc,TT, e10, decide_eq_true (show ((q + 1 : Nat) : Int) ≤ 10 by omega)]
          refine hK _ _ ?_;clear hK K
          refine wC fun X Y hX hY => ?_
          simp only [↓DN,UP,DF,Qa,Qb,Qc,Qd,Qe,Qf,Qg,Qh,reduceCtorEq,↓reduceIte,Na,Nb,Nc,Nk,Nf,Ng,Nh,Za,Zb,Zc,TT, DB]
          refine hX ?_;clear hX hY X Y
          refine awp_skip ?_
          refine hK2 _ _ ?_;clear hK2 K2
          refine wK fun K3 hK3 => ?_
          refine awp_block ?_
          refine wS fun K hK => ?_
          simp only [↓DN,UP,DF,Qa,Qb,Qc,Qd,Qe,Qf,Qg,Qh,reduceCtorEq,↓reduceIte,Na,Nb,Nc,Nk,Nf,Ng,Nh,Za,Zb,Zc,TT]
          refine ⟨by decide, by decide, fun o11 ho11 => ?_⟩
          refine hK _ _ ?_;clear hK K
          rw [show List.replicate 16 (AV.v (.int .i64 0)) = List.replicate 16 (nV 0) from rfl, ← fillI_nought (Aes.sh (Aes.state key b q)) 16]
          have n117 : o11 ≠ o7 := fun e => by rw [e, j7] at ho11; cases ho11
          have hs11 : s.objs o11 = none := by
            cases h : s.objs o11 with
            | none => rfl
            | some cs => rw [hle.objs _ _ h] at ho11; cases ho11
          generalize hs4 : s3.set o11 (fillI (Aes.sh (Aes.state key b q)) (fun _ => 0) 16 0) = s4 at *
          have q7 : s4.objs o7 = some (intL (Aes.state key b q)) := by rw [← hs4, AS.set_objs_ne _ n117.symm]; exact j7
          have q11 : s4.objs o11 = some (fillI (Aes.sh (Aes.state key b q)) (fun _ => 0) 16 0) := by rw [← hs4]; exact AS.set_objs_same _ _ _
          have hle4 : s.le s4 := by rw [← hs4]; exact AS.le_set hle hs11 _
          clear hs4 j7 ho11 hle
          have hBl := Aes.state_len key b q
          refine wK fun K4 hK4 => ?_
          refine wS fun K hK => ?_
          simp only [↓DN,UP,DF,Qa,Qb,Qc,Qd,Qe,Qf,Qg,Qh,reduceCtorEq,↓reduceIte,Na,Nb,Nc,Nk,Nf,Ng,Nh,Za,Zb,Zc,TT]
          refine hK _ _ ?_;clear hK K
          refine awp_block ?_
          refine awp_loop (fun E s5 => ∃ c : Nat, c ≤ 4 ∧ E 0 = .sl 1 176 (intL (keysL key)) .any ∧ E 1 = .sl 1 256 (intL Aes.sb) .any ∧ E 7 = .osl o7 0 1 16 16 ∧ E 9 = .sl 1 4 [nV 2, nV 3, nV 1, nV 1] .new ∧ E 10 = nV (q + 1) ∧ E 11 = .osl o11 0 1 16 16 ∧ E 12 = nV c ∧ s5.objs o7 = some (intL (Aes.state key b q)) ∧ s5.objs o11 = some (fillI (Aes.sh (Aes.state key b q)) (fun _ => 0) 16 (4 * c)) ∧ s.le s5)
            (fun E _ => match E 12 with | .v (.int _ i) => 4 - i.toNat | _ => 0) ?_ ?_
          · exact ⟨0, by omega, by simp only [upd, e0, Nc, ↓reduceIte], by simp only [upd, e1, Nc, ↓reduceIte], by simp only [upd, e7, Nc, ↓reduceIte], by simp only [upd, e9, Nc, ↓reduceIte], by simp only [upd, e10, Nc, ↓reduceIte], by simp only [upd, Nc, ↓reduceIte], by simp only [upd, ↓reduceIte]; rfl, q7, q11, hle4⟩
          · clear q7 q11 hle4
            rintro E3 s5 ⟨c, hc, f0, f1, f7, f9, f10, f11, g12, q7, q11, hle4⟩ -
            refine wK fun K5 hK5 => ?_
            by_cases hc' : c < 4
            · refine wS fun K hK => ?_
              simp only [↓DN,UP,DF,Qa,Qb,Qc,Qd,Qe,Qf,Qg,Qh,reduceCtorEq,↓reduceIte,Na,Nb,Nc,Nk,Nf,Ng,Nh,Za,Zb,Zc,TT, g12, decide_eq_true (show (c : Int) < 4 by omega)]
              refine hK _ _ ?_;clear hK K
              refine wC fun X Y hX hY => ?_
              simp only [↓DN,UP,DF,Qa,Qb,Qc,Qd,Qe,Qf,Qg,Qh,reduceCtorEq,↓reduceIte,Na,Nb,Nc,Nk,Nf,Ng,Nh,Za,Zb,Zc,TT, DB]
              refine hX ?_;clear hX hY X Y
              refine awp_skip ?_
              refine hK5 _ _ ?_;clear hK5 K5
              refine wK fun K6 hK6 => ?_
              refine awp_block ?_
              refine wS fun K hK => ?_
              simp only [↓DN,UP,DF,Qa,Qb,Qc,Qd,Qe,Qf,Qg,Qh,reduceCtorEq,↓reduceIte,Na,Nb,Nc,Nk,Nf,Ng,Nh,Za,Zb,Zc,TT]
              refine hK _ _ ?_;clear hK K
              refine awp_block ?_
              refine awp_loop (fun E s6 => ∃ r : Nat, r ≤ 4 ∧ E 0 = .sl 1 176 (intL (keysL key)) .any ∧ E 1 = .sl 1 256 (intL Aes.sb) .any ∧ E 7 = .osl o7 0 1 16 16 ∧ E 9 = .sl 1 4 [nV 2, nV 3, nV 1, nV 1] .new ∧ E 10 = nV (q + 1) ∧ E 11 = .osl o11 0 1 16 16 ∧ E 12 = nV c ∧ E 13 = nV r ∧ s6.objs o7 = some (intL (Aes.state key b q)) ∧ s6.objs o11 = some (fillI (Aes.sh (Aes.state key b q)) (fun _ => 0) 16 (4 * c + r)) ∧ s.le s6)
                (fun E _ => match E 13 with | .v (.int _ i) => 4 - i.toNat | _ => 0) ?_ ?_
              · exact ⟨0, by omega, by simp only [upd, f0, Nc, ↓reduceIte], by simp only [upd, f1, Nc, ↓reduceIte], by simp only [upd, f7, Nc, ↓reduceIte], by simp only [upd, f9, Nc, ↓reduceIte], by simp only [upd, f10, Nc, ↓reduceIte], by simp only [upd, f11, Nc, ↓reduceIte], by simp only [upd, g12, Nc, ↓reduceIte], by simp only [upd, ↓reduceIte]; rfl, q7, q11, hle4⟩
              · clear q7 q11 hle4 f0 f1 f7 f9 f10 f11
                rintro E4 s6 ⟨r, hr, f0, f1, f7, f9, f10, f11, f12, f13, q7, q11, hle4⟩ -
                refine wK fun K7 hK7 => ?_
                by_cases hr' : r < 4
                · refine wS fun K hK => ?_
                  simp only [↓DN,UP,DF,Qa,Qb,Qc,Qd,Qe,Qf,Qg,Qh,reduceCtorEq,↓reduceIte,Na,Nb,Nc,Nk,Nf,Ng,Nh,Za,Zb,Zc,TT, f13, decide_eq_true (show (r : Int) < 4 by omega)]
                  refine hK _ _ ?_;clear hK K
                  refine wC fun X Y hX hY => ?_
                  simp only [↓DN,UP,DF,Qa,Qb,Qc,Qd,Qe,Qf,Qg,Qh,reduceCtorEq,↓reduceIte,Na,Nb,Nc,Nk,Nf,Ng,Nh,Za,Zb,Zc,TT, DB]
                  refine hX ?_;clear hX hY X Y
                  refine awp_skip ?_
                  refine hK7 _ _ ?_;clear hK7 K7
                  refine wK fun K8 hK8 => ?_
                  refine awp_block ?_
                  have hset := fillI_set (Aes.sh (Aes.state key b q)) (fun _ => 0) 16 (4 * c + r) _ rfl
                  have hsh : Aes.sh (Aes.state key b q) (4 * c + r) = Aes.S ((Aes.state key b q).getD (4 * ((c + r) % 4) + r) 0) := by
                    rw [Aes.sh, show (4 * c + r) / 4 = c by omega, show (4 * c + r) % 4 = r by omega]
                  rw [hsh] at hset
                  have hlen := fillI_len (Aes.sh (Aes.state key b q)) (fun _ => 0) 16 (4 * c + r)
                  have a0 := i64_mul4n c (by omega)
                  have a1 := i64_add (4 * c) r (by omega)
                  have a2 := i64_add c r (by omega)
                  have a3 := rem4 (c + r)
                  have a4 := i64_mul4n ((c + r) % 4) (by omega)
                  have a5 := i64_add (4 * ((c + r) % 4)) r (by omega)
                  have hml : 4 * ((c + r) % 4) + r < 16 := by omega
                  have db := intL_drop (l := Aes.state key b q) (4 * ((c + r) % 4) + r) (by omega)
                  clear hsh
                  generalize 4 * ((c + r) % 4) + r = m at *
                  generalize (Aes.state key b q).getD m 0 = x at *
                  have ds := intL_drop (l := Aes.sb) x.toNat (by rw [Aes.sb_len]; have := x.toNat_lt; omega)
                  rw [S_at] at ds
                  have hx := x.toNat_lt
                  have hBB : (intL (Aes.state key b q)).length = 16 := by rw [intL_len]; exact hBl
                  generalize hR' : fillI (Aes.sh (Aes.state key b q)) (fun _ => 0) 16 (4 * c + r + 1) = R' at *
                  generalize fillI (Aes.sh (Aes.state key b q)) (fun _ => 0) 16 (4 * c + r) = R at *
                  generalize hB : intL (Aes.state key b q) = BQ at *
                  generalize hY : intL Aes.sb = YY at *
                  have m0 : (0 : Int) ≤ (m : Int) := by omega
                  have m1 : (m : Int) < ((16 : Nat) : Int) := by omega
                  have m2 : (0 : Int) ≤ ((x.toNat : Nat) : Int) := by omega
                  have m3 : ((x.toNat : Nat) : Int) < ((256 : Nat) : Int) := by omega
                  have m4 : (0 : Int) ≤ ((4 * c + r : Nat) : Int) := by omega
                  have m5 : ((4 * c + r : Nat) : Int) < ((16 : Nat) : Int) := by omega
                  have m6 : 4 * c + r + 1 ≤ 16 := by omega
                  have m7 : 4 * c + r < 16 := by omega
                  refine wE fun K hK => ?_
                  simp only [↓DN,UP,DF,Qa,Qb,Qc,Qd,Qe,Qf,Qg,Qh,reduceCtorEq,↓reduceIte,Na,Nb,Nc,Nk,Nf,Ng,Nh,Za,Zb,Zc,TT, f1, f7, f11, f12, f13, a0, a1, a2, a3, a4, a5, m0, m1, m2, m3, m4, m5, m6, m7, hml, q7, q11, db, ds, hset, hlen, hBB, four_ne]
                  first
                    | refine hK _ _ ?_
                    | refine ⟨by omega, hK _ _ ?_⟩
                  clear hK K
                  simp only [blockQ, thenQ, if_true, if_false]
                  refine hK8 _ _ ?_;clear hK8 K8
                  refine wE fun K hK => ?_
                  simp only [↓DN,UP,DF,Qa,Qb,Qc,Qd,Qe,Qf,Qg,Qh,reduceCtorEq,↓reduceIte,Na,Nb,Nc,Nk,Nf,Ng,Nh,Za,Zb,Zc,TT, f13, w_succ r (by omega)]
                  refine hK _ _ ?_;clear hK K
                  refine ⟨⟨r + 1, by omega, by simp only [upd, f0, Nc, ↓reduceIte], by simp only [upd, f1, Nc, ↓reduceIte], by simp only [upd, f7, Nc, ↓reduceIte], by simp only [upd, f9, Nc, ↓reduceIte], by simp only [upd, f10, Nc, ↓reduceIte], by simp only [upd, f11, Nc, ↓reduceIte], by simp only [upd, f12, Nc, ↓reduceIte], by simp only [upd, ↓reduceIte], by rw [AS.set_objs_ne _ n117.symm, q7], by rw [show 4 * c + (r + 1) = 4 * c + r + 1 from rfl, hR']; exact AS.set_objs_same _ _ _, AS.le_set hle4 hs11 _⟩, ?_⟩
                  simp only [f13, upd, ↓reduceIte]
                  omega
                · obtain rfl : r = 4 := by omega
                  refine wS fun K hK => ?_
                  simp only [↓DN,UP,DF,Qa,Qb,Qc,Qd,Qe,Qf,Qg,Qh,reduceCtorEq,↓reduceIte,Na,Nb,Nc,Nk,Nf,Ng,Nh,Za,Zb,Zc,TT, f13, decide_eq_false (show ¬ ((4 : Nat) : Int) < 4 by decide)]
                  refine hK _ _ ?_;clear hK K
                  refine wC fun X Y hX hY => ?_
                  simp only [↓DN,UP,DF,Qa,Qb,Qc,Qd,Qe,Qf,Qg,Qh,reduceCtorEq,↓reduceIte,Na,Nb,Nc,Nk,Nf,Ng,Nh,Za,Zb,Zc,TT, DB]
                  refine hY ?_;clear hX hY X Y
                  refine awp_exit ?_
                  simp only [thenQ, blockQ, if_true, if_false]
                  clear hK7 K7
                  refine hK6 _ _ ?_;clear hK6 K6
                  refine wE fun K hK => ?_
                  simp only [↓DN,UP,DF,Qa,Qb,Qc,Qd,Qe,Qf,Qg,Qh,reduceCtorEq,↓reduceIte,Na,Nb,Nc,Nk,Nf,Ng,Nh,Za,Zb,Zc,TT, f12, w_succ c (by omega)]
                  refine hK _ _ ?_;clear hK K
                  refine ⟨⟨c + 1, by omega, by simp only [upd, f0, Nc, ↓reduceIte], by simp only [upd, f1, Nc, ↓reduceIte], by simp only [upd, f7, Nc, ↓reduceIte], by simp only [upd, f9, Nc, ↓reduceIte], by simp only [upd, f10, Nc, ↓reduceIte], by simp only [upd, f11, Nc, ↓reduceIte], by simp only [upd, ↓reduceIte], q7, by rw [show 4 * (c + 1) = 4 * c + 4 from rfl]; exact q11, hle4⟩, ?_⟩
                  simp only [g12, upd, ↓reduceIte]
                  omega
            · obtain rfl : c = 4 := by omega
              refine wS fun K hK => ?_
              simp only [↓DN,UP,DF,Qa,Qb,Qc,Qd,Qe,Qf,Qg,Qh,reduceCtorEq,↓reduceIte,Na,Nb,Nc,Nk,Nf,Ng,Nh,Za,Zb,Zc,TT, g12, decide_eq_false (show ¬ ((4 : Nat) : Int) < 4 by decide)]
              refine hK _ _ ?_;clear hK K
              refine wC fun X Y hX hY => ?_
              simp only [↓DN,UP,DF,Qa,Qb,Qc,Qd,Qe,Qf,Qg,Qh,reduceCtorEq,↓reduceIte,Na,Nb,Nc,Nk,Nf,Ng,Nh,Za,Zb,Zc,TT, DB]
              refine hY ?_;clear hX hY X Y
              refine awp_exit ?_
              simp only [thenQ, blockQ, if_true]
              clear hK5 K5
              refine hK4 _ _ ?_;clear hK4 K4
              rw [show 4 * 4 = 16 from rfl, fillI_full, show (List.range 16).map (Aes.sh (Aes.state key b q)) = shL (Aes.state key b q) from rfl] at q11
              rw [← state_intL key b q (fun n => (Aes.state key b (q + 1)).getD n 0)] at q7
              have hSl : (intL (shL (Aes.state key b q))).length = 16 := by rw [intL_len, shL]; simp
              have hSd : ∀ n, n < 16 → List.drop n (intL (shL (Aes.state key b q))) = nV (Aes.sh (Aes.state key b q) n).toNat :: List.drop (n + 1) (intL (shL (Aes.state key b q))) := by
                intro n hn
                have := intL_drop (l := shL (Aes.state key b q)) n (by rw [shL]; simp; omega)
                rwa [show (shL (Aes.state key b q)).getD n 0 = Aes.sh (Aes.state key b q) n from Aes.range_get _ _ _ _ hn] at this
              generalize hSS : intL (shL (Aes.state key b q)) = SS at *
              refine wS fun K hK => ?_
              simp only [↓DN,UP,DF,Qa,Qb,Qc,Qd,Qe,Qf,Qg,Qh,reduceCtorEq,↓reduceIte,Na,Nb,Nc,Nk,Nf,Ng,Nh,Za,Zb,Zc,TT]
              refine hK _ _ ?_;clear hK K
              refine awp_block ?_
              refine awp_loop (fun E s6 => ∃ c : Nat, c ≤ 4 ∧ E 0 = .sl 1 176 (intL (keysL key)) .any ∧ E 1 = .sl 1 256 (intL Aes.sb) .any ∧ E 7 = .osl o7 0 1 16 16 ∧ E 9 = .sl 1 4 [nV 2, nV 3, nV 1, nV 1] .new ∧ E 10 = nV (q + 1) ∧ E 11 = .osl o11 0 1 16 16 ∧ E 14 = nV c ∧ s6.objs o7 = some (fillI (fun n => (Aes.state key b (q + 1)).getD n 0) (fun n => (Aes.state key b q).getD n 0) 16 (4 * c)) ∧ s6.objs o11 = some SS ∧ s.le s6)
                (fun E _ => match E 14 with | .v (.int _ i) => 4 - i.toNat | _ => 0) ?_ ?_
              · exact ⟨0, by omega, by simp only [upd, f0, Nc, ↓reduceIte], by simp only [upd, f1, Nc, ↓reduceIte], by simp only [upd, f7, Nc, ↓reduceIte], by simp only [upd, f9, Nc, ↓reduceIte], by simp only [upd, f10, Nc, ↓reduceIte], by simp only [upd, f11, Nc, ↓reduceIte], by simp only [upd, ↓reduceIte]; rfl, q7, q11, hle4⟩
              · clear q7 q11 hle4 f0 f1 f7 f9 f10 f11 g12
                rintro E5 s6 ⟨c, hc, f0, f1, f7, f9, f10, f11, g14, q7, q11, hle4⟩ -
                refine wK fun K5 hK5 => ?_
                by_cases hc' : c < 4
                · refine wS fun K hK => ?_
                  simp only [↓DN,UP,DF,Qa,Qb,Qc,Qd,Qe,Qf,Qg,Qh,reduceCtorEq,↓reduceIte,Na,Nb,Nc,Nk,Nf,Ng,Nh,Za,Zb,Zc,TT, g14, decide_eq_true (show (c : Int) < 4 by omega)]
                  refine hK _ _ ?_;clear hK K
                  refine wC fun X Y hX hY => ?_
                  simp only [↓DN,UP,DF,Qa,Qb,Qc,Qd,Qe,Qf,Qg,Qh,reduceCtorEq,↓reduceIte,Na,Nb,Nc,Nk,Nf,Ng,Nh,Za,Zb,Zc,TT, DB]
                  refine hX ?_;clear hX hY X Y
                  refine awp_skip ?_
                  refine hK5 _ _ ?_;clear hK5 K5
                  refine wK fun K6 hK6 => ?_
                  refine awp_block ?_
                  refine wS fun K hK => ?_
                  simp only [↓DN,UP,DF,Qa,Qb,Qc,Qd,Qe,Qf,Qg,Qh,reduceCtorEq,↓reduceIte,Na,Nb,Nc,Nk,Nf,Ng,Nh,Za,Zb,Zc,TT]
                  refine hK _ _ ?_;clear hK K
                  refine awp_block ?_
                  refine awp_loop (fun E s7 => ∃ r : Nat, r ≤ 4 ∧ E 0 = .sl 1 176 (intL (keysL key)) .any ∧ E 1 = .sl 1 256 (intL Aes.sb) .any ∧ E 7 = .osl o7 0 1 16 16 ∧ E 9 = .sl 1 4 [nV 2, nV 3, nV 1, nV 1] .new ∧ E 10 = nV (q + 1) ∧ E 11 = .osl o11 0 1 16 16 ∧ E 14 = nV c ∧ E 15 = nV r ∧ s7.objs o7 = some (fillI (fun n => (Aes.state key b (q + 1)).getD n 0) (fun n => (Aes.state key b q).getD n 0) 16 (4 * c + r)) ∧ s7.objs o11 = some SS ∧ s.le s7)
                    (fun E _ => match E 15 with | .v (.int _ i) => 4 - i.toNat | _ => 0) ?_ ?_
                  · exact ⟨0, by omega, by simp only [upd, f0, Nc, ↓reduceIte], by simp only [upd, f1, Nc, ↓reduceIte], by simp only [upd, f7, Nc, ↓reduceIte], by simp only [upd, f9, Nc, ↓reduceIte], by simp only [upd, f10, Nc, ↓reduceIte], by simp only [upd, f11, Nc, ↓reduceIte], by simp only [upd, g14, Nc, ↓reduceIte], by simp only [upd, ↓reduceIte]; rfl, q7, q11, hle4⟩
                  · clear q7 q11 hle4 f0 f1 f7 f9 f10 f11
                    rintro E6 s7 ⟨r, hr, f0, f1, f7, f9, f10, f11, f14, f15, q7, q11, hle4⟩ -
                    refine wK fun K7 hK7 => ?_
                    by_cases hr' : r < 4
                    · refine wS fun K hK => ?_
                      simp only [↓DN,UP,DF,Qa,Qb,Qc,Qd,Qe,Qf,Qg,Qh,reduceCtorEq,↓reduceIte,Na,Nb,Nc,Nk,Nf,Ng,Nh,Za,Zb,Zc,TT, f15, decide_eq_true (show (r : Int) < 4 by omega)]
                      refine hK _ _ ?_;clear hK K
                      refine wC fun X Y hX hY => ?_
                      simp only [↓DN,UP,DF,Qa,Qb,Qc,Qd,Qe,Qf,Qg,Qh,reduceCtorEq,↓reduceIte,Na,Nb,Nc,Nk,Nf,Ng,Nh,Za,Zb,Zc,TT, DB]
                      refine hX ?_;clear hX hY X Y
                      refine awp_skip ?_
                      refine hK7 _ _ ?_;clear hK7 K7
                      refine wK fun K8 hK8 => ?_
                      refine awp_block ?_
                      have a0 := i64_mul4n c (by omega)
                      have a1 := i64_add (4 * c) r (by omega)
                      have hd := hSd (4 * c + r) (by omega)
                      have m4 : (0 : Int) ≤ ((4 * c + r : Nat) : Int) := by omega
                      have m5 : ((4 * c + r : Nat) : Int) < ((16 : Nat) : Int) := by omega
                      have m6 : 4 * c + r + 1 ≤ 16 := by omega
                      have m7 : 4 * c + r < 16 := by omega
                      refine wS fun K hK => ?_
                      simp only [↓DN,UP,DF,Qa,Qb,Qc,Qd,Qe,Qf,Qg,Qh,reduceCtorEq,↓reduceIte,Na,Nb,Nc,Nk,Nf,Ng,Nh,Za,Zb,Zc,TT, f11, f14, f15, a0, a1, m4, m5, m6, m7, q11, hd, hSl]
                      refine hK _ _ ?_;clear hK K
                      refine wK fun K9 hK9 => ?_
                      have hnext := state_next key b q (4 * c + r) m7
                      have hrnd : rndB (Aes.state key b q) (q + 1 == 10) (4 * c + r) = if (q + 1 == 10) = true then Aes.sh (Aes.state key b q) (4 * c + r) else Aes.mx (fun i => Aes.sh (Aes.state key b q) (4 * c + i)) r := by
                        rw [rndB, Aes.rnd_get _ _ _ m7, show (4 * c + r) / 4 = c by omega, show (4 * c + r) % 4 = r by omega]
                      have hgo : ∀ (E7 : Env), E7 0 = .sl 1 176 (intL (keysL key)) .any → E7 1 = .sl 1 256 (intL Aes.sb) .any → E7 7 = .osl o7 0 1 16 16 → E7 9 = .sl 1 4 [nV 2, nV 3, nV 1, nV 1] .new → E7 10 = nV (q + 1) → E7 11 = .osl o11 0 1 16 16 → E7 14 = nV c → E7 15 = nV r → E7 16 = nV (rndB (Aes.state key b q) (q + 1 == 10) (4 * c + r)).toNat → K9 E7 s7 := by
                        intro E7 g0 g1 g7 g9 g10 g11 h14 g15 g16
                        refine hK9 _ _ ?_;clear hK9 K9
                        have hset := fillI_set (fun n => (Aes.state key b (q + 1)).getD n 0) (fun n => (Aes.state key b q).getD n 0) 16 (4 * c + r) _ (by rw [← hnext])
                        have hlen := fillI_len (fun n => (Aes.state key b (q + 1)).getD n 0) (fun n => (Aes.state key b q).getD n 0) 16 (4 * c + r)
                        have dk := keys_drop key (16 * (q + 1) + (4 * c + r)) (by omega)
                        have a2 := imul16 (q + 1) (by omega)
                        have a3 := i64_add (16 * (q + 1)) (4 * c) (by omega)
                        have a4 := i64_add (16 * (q + 1) + 4 * c) r (by omega)
                        rw [Nat.add_assoc (16 * (q + 1)) (4 * c) r] at a4
                        have hKl : (intL (keysL key)).length = 176 := by rw [intL_len, keysL_len]
                        generalize hR' : fillI (fun n => (Aes.state key b (q + 1)).getD n 0) (fun n => (Aes.state key b q).getD n 0) 16 (4 * c + r + 1) = R' at *
                        generalize fillI (fun n => (Aes.state key b (q + 1)).getD n 0) (fun n => (Aes.state key b q).getD n 0) 16 (4 * c + r) = R at *
                        generalize rndB (Aes.state key b q) (q + 1 == 10) (4 * c + r) = x at *
                        generalize Aes.ak key (16 * (q + 1) + (4 * c + r)) = y at *
                        generalize hKS : intL (keysL key) = KS at *
                        have u0 : (0 : Int) ≤ ((16 * (q + 1) + (4 * c + r) : Nat) : Int) := by omega
                        have u1 : ((16 * (q + 1) + (4 * c + r) : Nat) : Int) < ((176 : Nat) : Int) := by omega
                        refine wE fun K hK => ?_
                        simp only [↓DN,UP,DF,Qa,Qb,Qc,Qd,Qe,Qf,Qg,Qh,reduceCtorEq,↓reduceIte,Na,Nb,Nc,Nk,Nf,Ng,Nh,Za,Zb,Zc,TT, g0, g7, g10, h14, g15, g16, a0, a1, a2, a3, a4, m4, m5, m6, m7, u0, u1, dk, nb_xor, q7, hset, hlen, hKl]
                        refine hK _ _ ?_;clear hK K
                        simp only [blockQ, thenQ, if_true, if_false]
                        refine hK8 _ _ ?_;clear hK8 K8
                        refine wE fun K hK => ?_
                        simp only [↓DN,UP,DF,Qa,Qb,Qc,Qd,Qe,Qf,Qg,Qh,reduceCtorEq,↓reduceIte,Na,Nb,Nc,Nk,Nf,Ng,Nh,Za,Zb,Zc,TT, g15, w_succ r (by omega)]
                        refine hK _ _ ?_;clear hK K
                        refine ⟨⟨r + 1, by omega, by simp only [upd, g0, Nc, ↓reduceIte], by simp only [upd, g1, Nc, ↓reduceIte], by simp only [upd, g7, Nc, ↓reduceIte], by simp only [upd, g9, Nc, ↓reduceIte], by simp only [upd, g10, Nc, ↓reduceIte], by simp only [upd, g11, Nc, ↓reduceIte], by simp only [upd, h14, Nc, ↓reduceIte], by simp only [upd, ↓reduceIte], by rw [show 4 * c + (r + 1) = 4 * c + r + 1 from rfl, hR']; exact AS.set_objs_same _ _ _, by rw [AS.set_objs_ne _ n117]; exact q11, AS.le_set hle4 ho7 _⟩, ?_⟩
                        simp only [f15, upd, ↓reduceIte]
                        omega
                      clear hK8 hK9
                      by_cases hlast : q + 1 = 10
                      · rw [if_pos (by simpa using hlast)] at hrnd
                        rw [← hrnd] at hd
                        refine wS fun K hK => ?_
                        simp only [↓DN,UP,DF,Qa,Qb,Qc,Qd,Qe,Qf,Qg,Qh,reduceCtorEq,↓reduceIte,Na,Nb,Nc,Nk,Nf,Ng,Nh,Za,Zb,Zc,TT, f10, decide_eq_false (show ¬ ((q + 1 : Nat) : Int) < 10 by omega)]
                        refine hK _ _ ?_;clear hK K
                        refine wC fun X Y hX hY => ?_
                        simp only [↓DN,UP,DF,Qa,Qb,Qc,Qd,Qe,Qf,Qg,Qh,reduceCtorEq,↓reduceIte,Na,Nb,Nc,Nk,Nf,Ng,Nh,Za,Zb,Zc,TT, DB]
                        refine hY ?_;clear hX hY X Y
                        refine awp_skip ?_
                        exact hgo _ (by simp only [upd, f0, Nc, ↓reduceIte]) (by simp only [upd, f1, Nc, ↓reduceIte]) (by simp only [upd, f7, Nc, ↓reduceIte]) (by simp only [upd, f9, Nc, ↓reduceIte]) (by simp only [upd, f10, Nc, ↓reduceIte]) (by simp only [upd, f11, Nc, ↓reduceIte]) (by simp only [upd, f14, Nc, ↓reduceIte]) (by simp only [upd, f15, Nc, ↓reduceIte]) (by simp only [upd, Nc, ↓reduceIte]; rw [hrnd])
                      · rw [if_neg (by simpa using hlast)] at hrnd
                        refine wS fun K hK => ?_
                        simp only [↓DN,UP,DF,Qa,Qb,Qc,Qd,Qe,Qf,Qg,Qh,reduceCtorEq,↓reduceIte,Na,Nb,Nc,Nk,Nf,Ng,Nh,Za,Zb,Zc,TT, f10, decide_eq_true (show ((q + 1 : Nat) : Int) < 10 by omega)]
                        refine hK _ _ ?_;clear hK K
                        refine wC fun X Y hX hY => ?_
                        simp only [↓DN,UP,DF,Qa,Qb,Qc,Qd,Qe,Qf,Qg,Qh,reduceCtorEq,↓reduceIte,Na,Nb,Nc,Nk,Nf,Ng,Nh,Za,Zb,Zc,TT, DB]
                        refine hX ?_;clear hX hY X Y
                        refine wS fun K hK => ?_
                        simp only [↓DN,UP,DF,Qa,Qb,Qc,Qd,Qe,Qf,Qg,Qh,reduceCtorEq,↓reduceIte,Na,Nb,Nc,Nk,Nf,Ng,Nh,Za,Zb,Zc,TT]
                        refine hK _ _ ?_;clear hK K
                        refine wS fun K hK => ?_
                        simp only [↓DN,UP,DF,Qa,Qb,Qc,Qd,Qe,Qf,Qg,Qh,reduceCtorEq,↓reduceIte,Na,Nb,Nc,Nk,Nf,Ng,Nh,Za,Zb,Zc,TT]
                        refine hK _ _ ?_;clear hK K
                        refine awp_block ?_
                        refine awp_loop (fun E s8 => ∃ k : Nat, k ≤ 4 ∧ E 0 = .sl 1 176 (intL (keysL key)) .any ∧ E 1 = .sl 1 256 (intL Aes.sb) .any ∧ E 7 = .osl o7 0 1 16 16 ∧ E 9 = .sl 1 4 [nV 2, nV 3, nV 1, nV 1] .new ∧ E 10 = nV (q + 1) ∧ E 11 = .osl o11 0 1 16 16 ∧ E 14 = nV c ∧ E 15 = nV r ∧ E 16 = nV (acc (fun i => Aes.sh (Aes.state key b q) (4 * c + i)) r k).toNat ∧ E 17 = nV k ∧ s8 = s7)
                          (fun E _ => match E 17 with | .v (.int _ i) => 4 - i.toNat | _ => 0) ?_ ?_
                        · exact ⟨0, by omega, by simp only [upd, f0, Nc, ↓reduceIte], by simp only [upd, f1, Nc, ↓reduceIte], by simp only [upd, f7, Nc, ↓reduceIte], by simp only [upd, f9, Nc, ↓reduceIte], by simp only [upd, f10, Nc, ↓reduceIte], by simp only [upd, f11, Nc, ↓reduceIte], by simp only [upd, f14, Nc, ↓reduceIte], by simp only [upd, f15, Nc, ↓reduceIte], by simp only [upd, Nc, ↓reduceIte]; rfl, by simp only [upd, ↓reduceIte]; rfl, rfl⟩
                        · rintro E7 s8 ⟨k, hk4, g0, g1, g7, g9, g10, g11, h14, g15, g16, g17, rfl⟩ -
                          refine wK fun K10 hK10 => ?_
                          by_cases hk' : k < 4
                          · refine wS fun K hK => ?_
                            simp only [↓DN,UP,DF,Qa,Qb,Qc,Qd,Qe,Qf,Qg,Qh,reduceCtorEq,↓reduceIte,Na,Nb,Nc,Nk,Nf,Ng,Nh,Za,Zb,Zc,TT, g17, decide_eq_true (show (k : Int) < 4 by omega)]
                            refine hK _ _ ?_;clear hK K
                            refine wC fun X Y hX hY => ?_
                            simp only [↓DN,UP,DF,Qa,Qb,Qc,Qd,Qe,Qf,Qg,Qh,reduceCtorEq,↓reduceIte,Na,Nb,Nc,Nk,Nf,Ng,Nh,Za,Zb,Zc,TT, DB]
                            refine hX ?_;clear hX hY X Y
                            refine awp_skip ?_
                            refine hK10 _ _ ?_;clear hK10 K10
                            refine wK fun K11 hK11 => ?_
                            refine awp_block ?_
                            have hacc : acc (fun i => Aes.sh (Aes.state key b q) (4 * c + i)) r (k + 1) = acc (fun i => Aes.sh (Aes.state key b q) (4 * c + i)) r k ^^^ mm (Aes.sh (Aes.state key b q) (4 * c + k)) ((k + 4 - r) % 4) := rfl
                            have b1 := i64_add (4 * c) k (by omega)
                            have b2 := idx_walk k r hk' hr'
                            have hdk := hSd (4 * c + k) (by omega)
                            have hdm := mN_drop ((k + 4 - r) % 4) (by omega)
                            have hmu := fun s => refMul05_calls (Γ := Γ) (Aes.sh (Aes.state key b q) (4 * c + k)).toNat (mN ((k + 4 - r) % 4)) (Aes.sh (Aes.state key b q) (4 * c + k)).toNat_lt (mN_lt _) s
                            rw [mm_mul] at hmu
                            generalize hAcc' : acc (fun i => Aes.sh (Aes.state key b q) (4 * c + i)) r (k + 1) = A' at *
                            generalize acc (fun i => Aes.sh (Aes.state key b q) (4 * c + i)) r k = A0 at *
                            have v0 : (0 : Int) ≤ ((4 * c + k : Nat) : Int) := by omega
                            have v1 : ((4 * c + k : Nat) : Int) < ((16 : Nat) : Int) := by omega
                            have v2 : (0 : Int) ≤ (((k + 4 - r) % 4 : Nat) : Int) := by omega
                            have v3 : (((k + 4 - r) % 4 : Nat) : Int) < ((4 : Nat) : Int) := by omega
                            have v4 : 4 * c + k < 16 := by omega
                            have v5 : 4 * c + k + 1 ≤ 16 := by omega
                            generalize (k + 4 - r) % 4 = m at *
                            generalize mm (Aes.sh (Aes.state key b q) (4 * c + k)) m = mv at *
                            generalize Aes.sh (Aes.state key b q) (4 * c + k) = x at *
                            generalize hMM : [nV 2, nV 3, nV 1, nV 1] = MM at *
                            refine awp_mrk_end T.mixed [(o11, SS)] [16] [7] [] (by kernel_rfl) (by simp only [Pres_cons, Pres_nil, and_true]; simp [AS.set, upd, q11]) ?_
                            intro K hK
                            simp only [↓AXr_nil, ↓AXr_cons, gval, lval, fzGet_cons, fzGet_nil, Pres_cons, Pres_nil, List.any_cons, List.any_nil, List.contains_cons, List.contains_nil, Nat.reduceBEq, Bool.or_false, Bool.or_true, Bool.or_self, Bool.false_or, ↓DN,UP,DF,Qa,Qb,Qc,Qd,Qe,Qf,Qg,Qh,reduceCtorEq,↓reduceIte,Na,Nb,Nc,Nk,Nf,Ng,Nh,Za,Zb,Zc,TT, g9, g11, h14, g15, g16, g17, a0, b1, b2, v0, v1, v2, v3, v4, v5, hdk, hdm, q11, hSl, four_ne]
                            refine acallk (hmu _) ?_
                            rintro r9 s9 ⟨rfl, rfl⟩
                            simp only [↓AXq_nil, ↓AXq_cons, pval, ↓AXr_nil, ↓AXr_cons, gval, lval, fzGet_cons, fzGet_nil, Pres_cons, Pres_nil, List.any_cons, List.any_nil, DX, Nat.reduceBEq, ↓DN,UP,DF,Qa,Qb,Qc,Qd,Qe,Qf,Qg,Qh,reduceCtorEq,↓reduceIte,Na,Nb,Nc,Nk,Nf,Ng,Nh,Za,Zb,Zc,TT, g9, g11, h14, g15, g16, g17, a0, b1, b2, v0, v1, v2, v3, v4, v5, hdk, hdm, q11, hSl, four_ne, nb_xor]
                            refine hK _ _ ?_;clear hK K
                            simp only [blockQ, thenQ, if_true, if_false]
                            refine hK11 _ _ ?_;clear hK11 K11
                            refine wE fun K hK => ?_
                            simp only [↓DN,UP,DF,Qa,Qb,Qc,Qd,Qe,Qf,Qg,Qh,reduceCtorEq,↓reduceIte,Na,Nb,Nc,Nk,Nf,Ng,Nh,Za,Zb,Zc,TT, g17, w_succ k (by omega)]
                            refine hK _ _ ?_;clear hK K
                            refine ⟨⟨k + 1, by omega, by simp only [upd, g0, Nc, ↓reduceIte], by simp only [upd, g1, Nc, ↓reduceIte], by simp only [upd, g7, Nc, ↓reduceIte], by simp only [upd, g9, Nc, ↓reduceIte], by simp only [upd, g10, Nc, ↓reduceIte], by simp only [upd, g11, Nc, ↓reduceIte], by simp only [upd, h14, Nc, ↓reduceIte], by simp only [upd, g15, Nc, ↓reduceIte], by simp only [upd, Nc, ↓reduceIte]; rw [hAcc', hacc], by simp only [upd, ↓reduceIte], rfl⟩, ?_⟩
                            simp only [g17, upd, ↓reduceIte]
                            omega
                          · obtain rfl : k = 4 := by omega
                            rw [acc_mx _ _ hr', ← hrnd] at g16
                            refine wS fun K hK => ?_
                            simp only [↓DN,UP,DF,Qa,Qb,Qc,Qd,Qe,Qf,Qg,Qh,reduceCtorEq,↓reduceIte,Na,Nb,Nc,Nk,Nf,Ng,Nh,Za,Zb,Zc,TT, g17, decide_eq_false (show ¬ ((4 : Nat) : Int) < 4 by decide)]
                            refine hK _ _ ?_;clear hK K
                            refine wC fun X Y hX hY => ?_
                            simp only [↓DN,UP,DF,Qa,Qb,Qc,Qd,Qe,Qf,Qg,Qh,reduceCtorEq,↓reduceIte,Na,Nb,Nc,Nk,Nf,Ng,Nh,Za,Zb,Zc,TT, DB]
                            refine hY ?_;clear hX hY X Y
                            refine awp_exit ?_
                            simp only [thenQ, blockQ, if_true, if_false]
                            exact hgo _ (by simp only [upd, g0, Nc, ↓reduceIte]) (by simp only [upd, g1, Nc, ↓reduceIte]) (by simp only [upd, g7, Nc, ↓reduceIte]) (by simp only [upd, g9, Nc, ↓reduceIte]) (by simp only [upd, g10, Nc, ↓reduceIte]) (by simp only [upd, g11, Nc, ↓reduceIte]) (by simp only [upd, h14, Nc, ↓reduceIte]) (by simp only [upd, g15, Nc, ↓reduceIte]) (by simp only [upd, g16, Nc, ↓reduceIte])
                    · obtain rfl : r = 4 := by omega
                      refine wS fun K hK => ?_
                      simp only [↓DN,UP,DF,Qa,Qb,Qc,Qd,Qe,Qf,Qg,Qh,reduceCtorEq,↓reduceIte,Na,Nb,Nc,Nk,Nf,Ng,Nh,Za,Zb,Zc,TT, f15, decide_eq_false (show ¬ ((4 : Nat) : Int) < 4 by decide)]
                      refine hK _ _ ?_;clear hK K
                      refine wC fun X Y hX hY => ?_
                      simp only [↓DN,UP,DF,Qa,Qb,Qc,Qd,Qe,Qf,Qg,Qh,reduceCtorEq,↓reduceIte,Na,Nb,Nc,Nk,Nf,Ng,Nh,Za,Zb,Zc,TT, DB]
                      refine hY ?_;clear hX hY X Y
                      refine awp_exit ?_
                      simp only [thenQ, blockQ, if_true, if_false]
                      clear hK7 K7
                      refine hK6 _ _ ?_;clear hK6 K6
                      refine wE fun K hK => ?_
                      simp only [↓DN,UP,DF,Qa,Qb,Qc,Qd,Qe,Qf,Qg,Qh,reduceCtorEq,↓reduceIte,Na,Nb,Nc,Nk,Nf,Ng,Nh,Za,Zb,Zc,TT, f14, w_succ c (by omega)]
                      refine hK _ _ ?_;clear hK K
                      refine ⟨⟨c + 1, by omega, by simp only [upd, f0, Nc, ↓reduceIte], by simp only [upd, f1, Nc, ↓reduceIte], by simp only [upd, f7, Nc, ↓reduceIte], by simp only [upd, f9, Nc, ↓reduceIte], by simp only [upd, f10, Nc, ↓reduceIte], by simp only [upd, f11, Nc, ↓reduceIte], by simp only [upd, ↓reduceIte], by rw [show 4 * (c + 1) = 4 * c + 4 from rfl]; exact q7, q11, hle4⟩, ?_⟩
                      simp only [g14, upd, ↓reduceIte]
                      omega
                · obtain rfl : c = 4 := by omega
                  refine wS fun K hK => ?_
                  simp only [↓DN,UP,DF,Qa,Qb,Qc,Qd,Qe,Qf,Qg,Qh,reduceCtorEq,↓reduceIte,Na,Nb,Nc,Nk,Nf,Ng,Nh,Za,Zb,Zc,TT, g14, decide_eq_false (show ¬ ((4 : Nat) : Int) < 4 by decide)]
                  refine hK _ _ ?_;clear hK K
                  refine wC fun X Y hX hY => ?_
                  simp only [↓DN,UP,DF,Qa,Qb,Qc,Qd,Qe,Qf,Qg,Qh,reduceCtorEq,↓reduceIte,Na,Nb,Nc,Nk,Nf,Ng,Nh,Za,Zb,Zc,TT, DB]
                  refine hY ?_;clear hX hY X Y
                  refine awp_exit ?_
                  simp only [thenQ, blockQ, if_true, if_false]
                  clear hK5 K5
                  refine hK3 _ _ ?_;clear hK3 K3
                  rw [show 4 * 4 = 16 from rfl, fillI_full, state_range] at q7
                  refine wE fun K hK => ?_
                  simp only [↓DN,UP,DF,Qa,Qb,Qc,Qd,Qe,Qf,Qg,Qh,reduceCtorEq,↓reduceIte,Na,Nb,Nc,Nk,Nf,Ng,Nh,Za,Zb,Zc,TT, f10, w_succ (q + 1) (by omega)]
                  refine hK _ _ ?_;clear hK K
                  refine ⟨⟨q + 1, by omega, by simp only [upd, f0, Nc, ↓reduceIte], by simp only [upd, f1, Nc, ↓reduceIte], by simp only [upd, f7, Nc, ↓reduceIte], by simp only [upd, f9, Nc, ↓reduceIte], by simp only [upd, ↓reduceIte], q7, hle4⟩, ?_⟩
                  simp only [e10, upd, ↓reduceIte]
                  omega
        · obtain rfl : q = 10 := by omega
          refine wS fun K hK => ?_
          simp only [↓DN,UP,DF,Qa,Qb,Qc,Qd,Qe,Qf,Qg,Qh,reduceCtorEq,↓reduceIte,Na,Nb,Nc,Nk,Nf,Ng,Nh,Za,Zb,Zc,TT, e10, decide_eq_false (show ¬ ((10 + 1 : Nat) : Int) ≤ 10 by decide)]
          refine hK _ _ ?_;clear hK K
          refine wC fun X Y hX hY => ?_
          simp only [↓DN,UP,DF,Qa,Qb,Qc,Qd,Qe,Qf,Qg,Qh,reduceCtorEq,↓reduceIte,Na,Nb,Nc,Nk,Nf,Ng,Nh,Za,Zb,Zc,TT, DB]
          refine hY ?_;clear hX hY X Y
          refine awp_exit ?_
          simp only [thenQ, blockQ, if_true]
          clear hK2 K2
          refine hK1 _ _ ?_;clear hK1 K1
          rw [show Aes.state key b 10 = Aes.block key b from rfl] at j7
          have hl5 : (intL (Aes.block key b)).length = 16 := by rw [intL_len, Aes.block_len]
          refine gwp_ghost (Ghost.freeze (d := 7) (o := o7) (off := 0) (sz := 1) (n := 16) (cap := 16) (by simp only [upd, Nc, ↓reduceIte]; exact e7) j7 (by omega)) (AWp.g ?_)
          have hle3 : s.le (s3.drop o7) := AS.le_drop hle ho7
          generalize s3.drop o7 = s4 at *
          rw [show ((intL (Aes.block key b)).drop 0).take (16 * 1) = intL (Aes.block key b) from by rw [List.drop_zero, List.take_of_length_le (by omega)]]
          generalize intL (Aes.block key b) = X at *
          refine wS fun K hK => ?_
          simp only [↓DN,UP,DF,Qa,Qb,Qc,Qd,Qe,Qf,Qg,Qh,reduceCtorEq,↓reduceIte,Na,Nb,Nc,Nk,Nf,Ng,Nh,Za,Zb,Zc,TT]
          refine hK _ _ ?_;clear hK K
          refine awp_ret ?_
          simp only [retQ, AEnds, aresL, ares, List.toList_toArray, ↓upd_same]; try simp only [UP,DF,Nc,↓reduceIte,DT]
          exact ⟨_, s, AV.weak.refl _, hle3, rfl, rfl⟩

end Go.Proofs.YtoagkleecgngdaaGreatDoor


set_option autoImplicit false
namespace Go.AM

/-! ### The prime's arithmetic -/
theorem u64_add (a b : Nat) (h : a + b < 2 ^ 64) : iadd .u64 (a : Int) b = ((a + b : Nat) : Int) := by
  rw [iadd_u rfl]; simp only [IntKind.bits]; rw [Nat.mod_eq_of_lt h]
end Go.AM


set_option autoImplicit false
namespace Go.Proofs.YtoagkleecgngdaaGreatDoor
open Go Go.AM Go.Proofs


variable {Γ : Nat → List AV}

theorem first_lt (nonce : List UInt8) (h : nonce.length = 16) : Aes.first nonce < 4294967296 := by
  have key : ∀ (l : List UInt8) (x : Nat), l.foldl (fun x b => x * 256 + b.toNat) x < (x + 1) * 256 ^ l.length := by
    intro l
    induction l with
    | nil => intro x; simp
    | cons b l ih =>
      intro x
      rw [List.foldl_cons]
      have h1 := ih (x * 256 + b.toNat)
      have hb := b.toNat_lt
      have h2 : (x * 256 + b.toNat + 1) * 256 ^ l.length ≤ ((x + 1) * 256) * 256 ^ l.length := Nat.mul_le_mul_right _ (by omega)
      rw [List.length_cons, Nat.pow_succ, Nat.mul_comm (256 ^ l.length), ← Nat.mul_assoc]
      omega
  have := key (nonce.drop 12) 0
  rw [List.length_drop, h] at this
  exact this
theorem ctr_len (nonce : List UInt8) (h : nonce.length = 16) (i : Nat) : (Aes.ctr nonce i).length = 16 := by simp [Aes.ctr, h]
theorem mask_succ (key nonce text : List UInt8) (n : Nat) (h : n < text.length) : (Aes.mask key nonce text).take (n + 1) = (Aes.mask key nonce text).take n ++ [text.getD n 0 ^^^ Aes.maskB key nonce n] := by
  have hl : n < (Aes.mask key nonce text).length := by rw [Aes.mask_len]; exact h
  have e := Aes.mask_get key nonce text n h
  rw [List.getD_eq_getElem?_getD, List.getElem?_eq_getElem hl] at e
  simp only [Option.getD_some] at e
  rw [List.take_succ_eq_append_getElem hl, e]
theorem mask_takeM (key nonce text : List UInt8) (n : Nat) (h : text.length ≤ n) : (Aes.mask key nonce text).take n = Aes.mask key nonce text := List.take_of_length_le (by rw [Aes.mask_len]; exact h)
theorem quo16 (j : Nat) (h : j < 2 ^ 50) : iquo .i64 ((16 * j : Nat) : Int) 16 = ((j : Nat) : Int) := by
  have : iquo .i64 ((16 * j : Nat) : Int) ((16 : Nat) : Int) = ((j : Nat) : Int) := by
    rw [iquo]
    have e : Int.tdiv ((16 * j : Nat) : Int) ((16 : Nat) : Int) = ((16 * j / 16 : Nat) : Int) := (Int.ofNat_tdiv _ 16).symm
    rw [e, Nat.mul_div_cancel_left _ (by decide), IntWalk.i64_in _ (by omega)]
  exact this
theorem b_self (x : UInt8) : iconv .u8 (x.toNat : Int) = ((x.toNat : Nat) : Int) := by
  rw [b_conv, UInt8.ofNat_toNat]
theorem rem32 (n : Nat) : irem (n : Int) 4294967296 = ((n % 4294967296 : Nat) : Int) := irem_u n 4294967296

set_option maxHeartbeats 8000000 in
set_option maxRecDepth 100000 in
theorem refMask_calls (key nonce text : List UInt8) (hk : key.length = 48) (hn : nonce.length = 16) (ht : text.length ≤ 2 ^ 30) (s : AS) :
    ACalls Tryz.prog Γ 237 [.v (.string ⟨key.toArray⟩), .v (.string ⟨nonce.toArray⟩), .v (.string ⟨text.toArray⟩)] s (fun r s' => r = .v (.string ⟨(Aes.mask key nonce text).toArray⟩) ∧ s' = s) := by
  refine acalls_body Tryz.func237 rfl Tryz.ntmps237 Tryz.results237 (by simp) ?_
  have hk16 : (key.take 16).length = 16 := by simp [hk]
  have hIl : (intL (key.take 16)).length = 16 := by rw [intL_len, hk16]
  have hint := fun s => refInts05_calls (Γ := Γ) (key.take 16) (by omega) s
  have hkeys := fun s => refKeys_calls (Γ := Γ) (key.take 16) hk16 s
  have hblk := fun j s => refBlock_calls (Γ := Γ) (key.take 16) (Aes.ctr nonce j) hk16 (ctr_len nonce hn j) s
  have hfl := first_lt nonce hn
  have hval := fun s => value_calls (Γ := Γ) (nonce.drop 12) (by simp [hn]) s
  rw [show beNat (nonce.drop 12) = Aes.first nonce from rfl] at hval
  have hmB : ∀ j k, k < 16 → Aes.maskB key nonce (16 * j + k) = (Aes.block (key.take 16) (Aes.ctr nonce j)).getD k 0 := by
    intro j k hk
    rw [Aes.maskB, show (16 * j + k) / 16 = j by omega, show (16 * j + k) % 16 = k by omega]
  refine wS fun K hK => ?_
  simp only [↓DN,UP,DF,Qa,Qb,Qc,Qd,Qe,Qf,Qg,Qh,reduceCtorEq,↓reduceIte,Na,Nb,Nc,Nk,Nf,Ng,Nh,Za,Zb,Zc,TT]
  refine hK _ _ ?_;clear hK K
  refine wS fun K hK => ?_
  simp only [↓DN,UP,DF,Qa,Qb,Qc,Qd,Qe,Qf,Qg,Qh,reduceCtorEq,↓reduceIte,Na,Nb,Nc,Nk,Nf,Ng,Nh,Za,Zb,Zc,TT]
  refine acallk (refBoxes_calls _) ?_
  rintro r s1 ⟨rfl, rfl⟩
  simp only [↓AXq_nil,↓AXq_cons,pval,DX,Nat.reduceBEq,↓DN,UP,DF,Qa,Qb,Qc,Qd,Qe,Qf,Qg,Qh,reduceCtorEq,↓reduceIte,Na,Nb,Nc,Nk,Nf,Ng,Nh,Za,Zb,Zc,TT]
  refine hK _ _ ?_;clear hK K
  refine wS fun K hK => ?_
  simp only [↓DN,UP,DF,Qa,Qb,Qc,Qd,Qe,Qf,Qg,Qh,reduceCtorEq,↓reduceIte,Na,Nb,Nc,Nk,Nf,Ng,Nh,Za,Zb,Zc,TT, hk, show (0 : Int) ≤ 16 from by decide, show (16 : Int) ≤ ((48 : Nat) : Int) from by decide]
  refine acallk (hint _) ?_
  intro r s2 hout
  have hle2 := hout.1
  have hio : ∃ t e, r = .sl 1 16 (intL (key.take 16)) (.own t e) := by
    rcases hout.2 with ⟨h, _⟩ | ⟨t, e, _, _, rfl⟩
    · rw [h] at hIl; cases hIl
    · exact ⟨t, e, by rw [hIl]⟩
  obtain ⟨t, e, rfl⟩ := hio
  clear hout
  simp only [↓AXq_nil,↓AXq_cons,pval,DX,Nat.reduceBEq,↓DN,UP,DF,Qa,Qb,Qc,Qd,Qe,Qf,Qg,Qh,reduceCtorEq,↓reduceIte,Na,Nb,Nc,Nk,Nf,Ng,Nh,Za,Zb,Zc,TT]
  refine acallk (ACalls.weaks (AVs.weak.cons AV.weak_any (AVs.weak.cons AV.weak_any AVs.weak.nil)) (hkeys _)) ?_
  rintro r s3 ⟨rfl, rfl⟩
  simp only [↓AXq_nil,↓AXq_cons,pval,DX,Nat.reduceBEq,↓DN,UP,DF,Qa,Qb,Qc,Qd,Qe,Qf,Qg,Qh,reduceCtorEq,↓reduceIte,Na,Nb,Nc,Nk,Nf,Ng,Nh,Za,Zb,Zc,TT]
  refine hK _ _ ?_;clear hK K
  have htn : List.take 16 nonce = nonce := List.take_of_length_le (by omega)
  refine wS fun K hK => ?_
  simp only [↓DN,UP,DF,Qa,Qb,Qc,Qd,Qe,Qf,Qg,Qh,reduceCtorEq,↓reduceIte,Na,Nb,Nc,Nk,Nf,Ng,Nh,Za,Zb,Zc,TT, hn, htn, show (0 : Int) ≤ 12 from by decide, show (12 : Int) ≤ ((16 : Nat) : Int) from by decide, show ((16 : Nat) : Int) ≤ ((16 : Nat) : Int) from by decide]
  refine acallk (hval _) ?_
  rintro r s4 ⟨rfl, rfl⟩
  simp only [↓AXq_nil,↓AXq_cons,pval,DX,Nat.reduceBEq,↓DN,UP,DF,Qa,Qb,Qc,Qd,Qe,Qf,Qg,Qh,reduceCtorEq,↓reduceIte,Na,Nb,Nc,Nk,Nf,Ng,Nh,Za,Zb,Zc,TT]
  refine hK _ _ ?_;clear hK K
  refine wS fun K hK => ?_
  simp only [↓DN,UP,DF,Qa,Qb,Qc,Qd,Qe,Qf,Qg,Qh,reduceCtorEq,↓reduceIte,Na,Nb,Nc,Nk,Nf,Ng,Nh,Za,Zb,Zc,TT]
  refine hK _ _ ?_;clear hK K
  refine wK fun K hK => ?_
  refine wS fun K hK => ?_
  simp only [↓DN,UP,DF,Qa,Qb,Qc,Qd,Qe,Qf,Qg,Qh,reduceCtorEq,↓reduceIte,Na,Nb,Nc,Nk,Nf,Ng,Nh,Za,Zb,Zc,TT]
  refine hK _ _ ?_;clear hK K
  refine awp_block ?_
  clear hint hkeys hval
  refine awp_loop (fun E s5 => ∃ j : Nat, 16 * j < text.length + 16 ∧ E 1 = .v (.string ⟨nonce.toArray⟩) ∧ E 2 = .v (.string ⟨text.toArray⟩) ∧ E 7 = .sl 1 256 (intL Aes.sb) .no ∧ E 8 = .sl 1 176 (intL (keysL (List.take 16 key))) .any ∧ E 9 = .v (.int .u64 (Aes.first nonce : Nat)) ∧ E 11 = nV (16 * j) ∧ OutS s4 ((Aes.mask key nonce text).take (16 * j)) (E 10) s5)
    (fun E _ => match E 11 with | .v (.int _ i) => text.length + 16 - i.toNat | _ => 0) ?_ ?_
  · exact ⟨0, by omega, by simp only [upd, initE, Nc, ↓reduceIte]; rfl, by simp only [upd, initE, Nc, ↓reduceIte]; rfl, by simp only [upd, Nc, ↓reduceIte], by simp only [upd, Nc, ↓reduceIte], by simp only [upd, Nc, ↓reduceIte], by simp only [upd, ↓reduceIte]; rfl, by simp only [upd, Nc, ↓reduceIte]; exact OutS.nil s4⟩
  · rintro E1 s5 ⟨j, hj, e1, e2, e7, e8, e9, e11, hout⟩ -
    refine wK fun K2 hK2 => ?_
    by_cases hj' : 16 * j < text.length
    · refine wS fun K hK => ?_
      simp only [↓DN,UP,DF,Qa,Qb,Qc,Qd,Qe,Qf,Qg,Qh,reduceCtorEq,↓reduceIte,Na,Nb,Nc,Nk,Nf,Ng,Nh,Za,Zb,Zc,TT, e2, e11, bs_size, decide_eq_true (show ((16 * j : Nat) : Int) < (text.length : Int) by omega)]
      refine hK _ _ ?_;clear hK K
      refine wC fun X Y hX hY => ?_
      simp only [↓DN,UP,DF,Qa,Qb,Qc,Qd,Qe,Qf,Qg,Qh,reduceCtorEq,↓reduceIte,Na,Nb,Nc,Nk,Nf,Ng,Nh,Za,Zb,Zc,TT, DB]
      refine hX ?_;clear hX hY X Y
      refine awp_skip ?_
      refine hK2 _ _ ?_;clear hK2 K2
      refine wK fun K3 hK3 => ?_
      refine awp_block ?_
      have hcl := ctr_len nonce hn j
      have hadd := u64_add (Aes.first nonce) j (by omega)
      have hctr : List.take 12 nonce ++ be 4 ((Aes.first nonce + j) % 4294967296) = Aes.ctr nonce j := rfl
      have hbj := hblk j
      have hmj := hmB j
      have hbl := Aes.block_len (key.take 16) (Aes.ctr nonce j)
      refine awp_drw_seq T.mixed [8] (by kernel_rfl) ?_
      intro K hK
      simp only [↓AXq_nil,↓AXq_cons,pval,DX,Nat.reduceBEq,↓DN,UP,DF,Qa,Qb,Qc,Qd,Qe,Qf,Qg,Qh,reduceCtorEq,↓reduceIte,Na,Nb,Nc,Nk,Nf,Ng,Nh,Za,Zb,Zc,TT, e1, e9, e11, hn, quo16 j (by omega), sixteen_ne, show ¬ ((4294967296 : Int) = 0) from by decide, show (0 : Int) ≤ 12 from by decide, show (12 : Int) ≤ ((16 : Nat) : Int) from by decide]
      rw [iconv_u64_nat j (by omega), hadd, rem32]
      refine acallk (refNumber_calls ((Aes.first nonce + j) % 4294967296) 4 (by omega) (by omega) _) ?_
      rintro r s6 ⟨rfl, rfl⟩
      simp only [↓AXq_nil,↓AXq_cons,pval,DX,Nat.reduceBEq,↓DN,UP,DF,Qa,Qb,Qc,Qd,Qe,Qf,Qg,Qh,reduceCtorEq,↓reduceIte,Na,Nb,Nc,Nk,Nf,Ng,Nh,Za,Zb,Zc,TT, length_be, hctr, hn, List.length_take, i64_room (show 12 + 4 < 2 ^ 62 by decide), i64_room (show min 12 16 + 4 < 2 ^ 62 by decide)]
      refine hK _ _ ?_;clear hK K
      generalize Aes.ctr nonce j = cn at *
      generalize hBK : Aes.block (key.take 16) cn = bk at *
      have hIl2 : (intL cn).length = 16 := by rw [intL_len, hcl]
      refine wS fun K hK => ?_
      simp only [↓DN,UP,DF,Qa,Qb,Qc,Qd,Qe,Qf,Qg,Qh,reduceCtorEq,↓reduceIte,Na,Nb,Nc,Nk,Nf,Ng,Nh,Za,Zb,Zc,TT, e7, e8]
      refine acallk (refInts05_calls cn (by omega) _) ?_
      intro r s7 hout2
      have hle7 := hout2.1
      have hio : ∃ t e, r = .sl 1 16 (intL cn) (.own t e) := by
        rcases hout2.2 with ⟨h, _⟩ | ⟨t, e, _, _, rfl⟩
        · rw [h] at hIl2; cases hIl2
        · exact ⟨t, e, by rw [hIl2]⟩
      have houtU : OutS s4 ((Aes.mask key nonce text).take (16 * j)) (E1 10) s7 := hout.later hle7
      obtain ⟨t2, ee2, rfl⟩ := hio
      clear hout2
      simp only [↓AXq_nil,↓AXq_cons,pval,DX,Nat.reduceBEq,↓DN,UP,DF,Qa,Qb,Qc,Qd,Qe,Qf,Qg,Qh,reduceCtorEq,↓reduceIte,Na,Nb,Nc,Nk,Nf,Ng,Nh,Za,Zb,Zc,TT, e7, e8]
      refine acallk (ACalls.weaks (AVs.weak.cons (AV.weak.refl _) (AVs.weak.cons AV.weak_any (AVs.weak.cons AV.weak_any AVs.weak.nil))) (hbj _)) ?_
      rintro r s8 ⟨rfl, rfl⟩
      simp only [↓AXq_nil,↓AXq_cons,pval,DX,Nat.reduceBEq,↓DN,UP,DF,Qa,Qb,Qc,Qd,Qe,Qf,Qg,Qh,reduceCtorEq,↓reduceIte,Na,Nb,Nc,Nk,Nf,Ng,Nh,Za,Zb,Zc,TT]
      refine hK _ _ ?_;clear hK K
      clear hbj hctr
      refine wS fun K hK => ?_
      simp only [↓DN,UP,DF,Qa,Qb,Qc,Qd,Qe,Qf,Qg,Qh,reduceCtorEq,↓reduceIte,Na,Nb,Nc,Nk,Nf,Ng,Nh,Za,Zb,Zc,TT]
      refine hK _ _ ?_;clear hK K
      refine awp_block ?_
      refine awp_loop (fun E s9 => ∃ k : Nat, k ≤ 16 ∧ 16 * j + k ≤ text.length ∧ E 1 = .v (.string ⟨nonce.toArray⟩) ∧ E 2 = .v (.string ⟨text.toArray⟩) ∧ E 7 = .sl 1 256 (intL Aes.sb) .no ∧ E 8 = .sl 1 176 (intL (keysL (List.take 16 key))) .any ∧ E 9 = .v (.int .u64 (Aes.first nonce : Nat)) ∧ E 11 = nV (16 * j) ∧ E 13 = .sl 1 16 (intL bk) .no ∧ E 14 = nV k ∧ OutS s4 ((Aes.mask key nonce text).take (16 * j + k)) (E 10) s9)
        (fun E _ => match E 14 with | .v (.int _ i) => 16 - i.toNat | _ => 0) ?_ ?_
      · exact ⟨0, by omega, by omega, by simp only [upd, e1, Nc, ↓reduceIte], by simp only [upd, e2, Nc, ↓reduceIte], by simp only [upd, e7, Nc, ↓reduceIte], by simp only [upd, e8, Nc, ↓reduceIte], by simp only [upd, e9, Nc, ↓reduceIte], by simp only [upd, e11, Nc, ↓reduceIte], by simp only [upd, Nc, ↓reduceIte], by simp only [upd, ↓reduceIte]; rfl, by simp only [upd, Nc, ↓reduceIte]; exact houtU⟩
      · clear houtU hout
        rintro E2 s9 ⟨k, hk', hkt, g1, g2, g7, g8, g9, g11, g13, g14, gout⟩ -
        refine wK fun K6 hK6 => ?_
        by_cases hk16' : k < 16
        · have a1 := i64_add (16 * j) k (by omega)
          by_cases hkl : 16 * j + k < text.length
          · refine wS fun K hK => ?_
            simp only [↓DN,UP,DF,Qa,Qb,Qc,Qd,Qe,Qf,Qg,Qh,reduceCtorEq,↓reduceIte,Na,Nb,Nc,Nk,Nf,Ng,Nh,Za,Zb,Zc,TT, g2, g11, g14, a1, bs_size, decide_eq_true (show (k : Int) < 16 by omega), decide_eq_true (show ((16 * j + k : Nat) : Int) < (text.length : Int) by omega)]
            refine hK _ _ ?_;clear hK K
            refine wC fun X Y hX hY => ?_
            simp only [↓DN,UP,DF,Qa,Qb,Qc,Qd,Qe,Qf,Qg,Qh,reduceCtorEq,↓reduceIte,Na,Nb,Nc,Nk,Nf,Ng,Nh,Za,Zb,Zc,TT, DB]
            refine hX ?_;clear hX hY X Y
            refine awp_skip ?_
            refine hK6 _ _ ?_;clear hK6 K6
            refine wK fun K7 hK7 => ?_
            refine awp_block ?_
            have hms := mask_succ key nonce text (16 * j + k) hkl
            rw [hmj k hk16'] at hms
            have hx : (ByteArray.mk text.toArray)[16 * j + k]? = some (text.getD (16 * j + k) 0) := by rw [bs_get text _ hkl]; simp [List.getElem?_eq_getElem hkl]
            have db := intL_drop (l := bk) k (by omega)
            have hBl : (intL bk).length = 16 := by rw [intL_len, hbl]
            have hml : ((Aes.mask key nonce text).take (16 * j + k)).length ≤ 2 ^ 30 := by rw [List.length_take, Aes.mask_len]; omega
            generalize text.getD (16 * j + k) 0 = x at *
            generalize bk.getD k 0 = y at *
            generalize hBB : intL bk = BB at *
            have m0 : (0 : Int) ≤ ((16 * j + k : Nat) : Int) := by omega
            have m1 : (0 : Int) ≤ (k : Int) := by omega
            have m2 : (k : Int) < ((16 : Nat) : Int) := by omega
            refine awp_drw_end T.mixed [13] (by kernel_rfl) ?_
            intro K hK
            simp only [↓AXq_nil,↓AXq_cons,pval,DX,Nat.reduceBEq,↓DN,UP,DF,Qa,Qb,Qc,Qd,Qe,Qf,Qg,Qh,reduceCtorEq,↓reduceIte,Na,Nb,Nc,Nk,Nf,Ng,Nh,Za,Zb,Zc,TT, g2, g11, g13, g14, a1, m0, m1, m2, hx, db, byteV, b_self, b_xor, List.replicate_one]
            refine aappend_out (ds := [x ^^^ y]) gout rfl rfl T.c5 T.b5 (by simp only [List.length_cons, List.length_nil]; omega) ?_
            intro r2 s10 gout2
            refine hK _ _ ?_;clear hK K
            simp only [blockQ, thenQ, if_true, if_false]
            refine hK7 _ _ ?_;clear hK7 K7
            refine wE fun K hK => ?_
            simp only [↓DN,UP,DF,Qa,Qb,Qc,Qd,Qe,Qf,Qg,Qh,reduceCtorEq,↓reduceIte,Na,Nb,Nc,Nk,Nf,Ng,Nh,Za,Zb,Zc,TT, g14, w_succ k (by omega)]
            refine hK _ _ ?_;clear hK K
            refine ⟨⟨k + 1, by omega, by omega, by simp only [upd, g1, Nc, ↓reduceIte], by simp only [upd, g2, Nc, ↓reduceIte], by simp only [upd, g7, Nc, ↓reduceIte], by simp only [upd, g8, Nc, ↓reduceIte], by simp only [upd, g9, Nc, ↓reduceIte], by simp only [upd, g11, Nc, ↓reduceIte], by simp only [upd, g13, Nc, ↓reduceIte], by simp only [upd, ↓reduceIte], ?_⟩, ?_⟩
            · simp only [upd, Nc, ↓reduceIte]
              rw [show 16 * j + (k + 1) = 16 * j + k + 1 from rfl, hms]
              exact gout2
            · simp only [g14, upd, ↓reduceIte]
              omega
          · refine wS fun K hK => ?_
            simp only [↓DN,UP,DF,Qa,Qb,Qc,Qd,Qe,Qf,Qg,Qh,reduceCtorEq,↓reduceIte,Na,Nb,Nc,Nk,Nf,Ng,Nh,Za,Zb,Zc,TT, g2, g11, g14, a1, bs_size, decide_eq_true (show (k : Int) < 16 by omega), decide_eq_false (show ¬ ((16 * j + k : Nat) : Int) < (text.length : Int) by omega)]
            refine hK _ _ ?_;clear hK K
            refine wC fun X Y hX hY => ?_
            simp only [↓DN,UP,DF,Qa,Qb,Qc,Qd,Qe,Qf,Qg,Qh,reduceCtorEq,↓reduceIte,Na,Nb,Nc,Nk,Nf,Ng,Nh,Za,Zb,Zc,TT, DB]
            refine hY ?_;clear hX hY X Y
            refine awp_exit ?_
            simp only [thenQ, blockQ, if_true, if_false]
            clear hK6 K6
            refine hK3 _ _ ?_;clear hK3 K3
            refine wE fun K hK => ?_
            simp only [↓DN,UP,DF,Qa,Qb,Qc,Qd,Qe,Qf,Qg,Qh,reduceCtorEq,↓reduceIte,Na,Nb,Nc,Nk,Nf,Ng,Nh,Za,Zb,Zc,TT, g11, i64_add (16 * j) 16 (by omega), show iadd .i64 ((16 * j : Nat) : Int) 16 = ((16 * j + 16 : Nat) : Int) from i64_add (16 * j) 16 (by omega)]
            refine hK _ _ ?_;clear hK K
            refine ⟨⟨j + 1, by omega, by simp only [upd, g1, Nc, ↓reduceIte], by simp only [upd, g2, Nc, ↓reduceIte], by simp only [upd, g7, Nc, ↓reduceIte], by simp only [upd, g8, Nc, ↓reduceIte], by simp only [upd, g9, Nc, ↓reduceIte], by simp only [upd, ↓reduceIte]; rfl, ?_⟩, ?_⟩
            · simp only [upd, Nc, ↓reduceIte]
              rw [mask_takeM key nonce text _ (by omega)]
              rw [mask_takeM key nonce text _ (by omega)] at gout
              exact gout
            · simp only [e11, upd, ↓reduceIte]
              omega
        · obtain rfl : k = 16 := by omega
          · refine wS fun K hK => ?_
            simp only [↓DN,UP,DF,Qa,Qb,Qc,Qd,Qe,Qf,Qg,Qh,reduceCtorEq,↓reduceIte,Na,Nb,Nc,Nk,Nf,Ng,Nh,Za,Zb,Zc,TT, g2, g11, g14, decide_eq_false (show ¬ ((16 : Nat) : Int) < 16 by decide)]
            refine hK _ _ ?_;clear hK K
            refine wC fun X Y hX hY => ?_
            simp only [↓DN,UP,DF,Qa,Qb,Qc,Qd,Qe,Qf,Qg,Qh,reduceCtorEq,↓reduceIte,Na,Nb,Nc,Nk,Nf,Ng,Nh,Za,Zb,Zc,TT, DB]
            refine hY ?_;clear hX hY X Y
            refine awp_exit ?_
            simp only [thenQ, blockQ, if_true, if_false]
            clear hK6 K6
            refine hK3 _ _ ?_;clear hK3 K3
            refine wE fun K hK => ?_
            simp only [↓DN,UP,DF,Qa,Qb,Qc,Qd,Qe,Qf,Qg,Qh,reduceCtorEq,↓reduceIte,Na,Nb,Nc,Nk,Nf,Ng,Nh,Za,Zb,Zc,TT, g11, i64_add (16 * j) 16 (by omega), show iadd .i64 ((16 * j : Nat) : Int) 16 = ((16 * j + 16 : Nat) : Int) from i64_add (16 * j) 16 (by omega)]
            refine hK _ _ ?_;clear hK K
            refine ⟨⟨j + 1, by omega, by simp only [upd, g1, Nc, ↓reduceIte], by simp only [upd, g2, Nc, ↓reduceIte], by simp only [upd, g7, Nc, ↓reduceIte], by simp only [upd, g8, Nc, ↓reduceIte], by simp only [upd, g9, Nc, ↓reduceIte], by simp only [upd, ↓reduceIte]; rfl, ?_⟩, ?_⟩
            · simp only [upd, Nc, ↓reduceIte]
              exact gout
            · simp only [e11, upd, ↓reduceIte]
              omega
    · refine wS fun K hK => ?_
      simp only [↓DN,UP,DF,Qa,Qb,Qc,Qd,Qe,Qf,Qg,Qh,reduceCtorEq,↓reduceIte,Na,Nb,Nc,Nk,Nf,Ng,Nh,Za,Zb,Zc,TT, e2, e11, bs_size, decide_eq_false (show ¬ ((16 * j : Nat) : Int) < (text.length : Int) by omega)]
      refine hK _ _ ?_;clear hK K
      refine wC fun X Y hX hY => ?_
      simp only [↓DN,UP,DF,Qa,Qb,Qc,Qd,Qe,Qf,Qg,Qh,reduceCtorEq,↓reduceIte,Na,Nb,Nc,Nk,Nf,Ng,Nh,Za,Zb,Zc,TT, DB]
      refine hY ?_;clear hX hY X Y
      refine awp_exit ?_
      simp only [thenQ, blockQ, if_true]
      clear hK2 K2
      refine hK _ _ ?_;clear hK K
      rw [mask_takeM key nonce text _ (by omega)] at hout
      have hle5 := AS.le.trans hle2 hout.1
      rcases hout.2 with ⟨h1, h2⟩ | ⟨t3, e3, _, _, h2⟩
      · rw [h1]
        refine wS fun K hK => ?_
        simp only [↓DN,UP,DF,Qa,Qb,Qc,Qd,Qe,Qf,Qg,Qh,reduceCtorEq,↓reduceIte,Na,Nb,Nc,Nk,Nf,Ng,Nh,Za,Zb,Zc,TT, h2]
        refine hK _ _ ?_;clear hK K
        refine awp_ret ?_
        simp only [retQ, AEnds, aresL, ares, List.toList_toArray, ↓upd_same]; try simp only [UP,DF,Nc,↓reduceIte,DT]
        exact ⟨_, s1, AV.weak.refl _, hle5, rfl, rfl⟩
      · refine wS fun K hK => ?_
        simp only [↓DN,UP,DF,Qa,Qb,Qc,Qd,Qe,Qf,Qg,Qh,reduceCtorEq,↓reduceIte,Na,Nb,Nc,Nk,Nf,Ng,Nh,Za,Zb,Zc,TT, h2]
        refine hK _ _ ?_;clear hK K
        refine awp_ret ?_
        simp only [retQ, AEnds, aresL, ares, List.toList_toArray, ↓upd_same]; try simp only [UP,DF,Nc,↓reduceIte,DT]
        exact ⟨_, s1, AV.weak.refl _, hle5, rfl, rfl⟩

end Go.Proofs.YtoagkleecgngdaaGreatDoor


set_option autoImplicit false
namespace Go.Proofs.YtoagkleecgngdaaGreatDoor
open Go Go.AM Go.Proofs


variable {Γ : Nat → List AV}



theorem bneL_self (l : List UInt8) : (l == l) = true := by simp
theorem tag_eq (key nonce beside masked : List UInt8) : Aes.tag key nonce beside masked = (Mac.tag (key.drop 16) (be 4 beside.length ++ (beside ++ (nonce ++ masked)))).take 16 := rfl

set_option maxHeartbeats 4000000 in
theorem refSTag_calls (key nonce beside masked : List UInt8) (hk : key.length = 48) (hn : nonce.length = 16) (hb : beside.length ≤ 2 ^ 30) (hm : masked.length ≤ 2 ^ 30) (s : AS) :
    ACalls Tryz.prog Γ 236 [.v (.string ⟨key.toArray⟩), .v (.string ⟨nonce.toArray⟩), .v (.string ⟨beside.toArray⟩), .v (.string ⟨masked.toArray⟩)] s (fun r s' => r = .v (.string ⟨(Aes.tag key nonce beside masked).toArray⟩) ∧ s' = s) := by
  refine acalls_body Tryz.func236 rfl Tryz.ntmps236 Tryz.results236 (by simp) ?_
  have htk : List.take 48 key = key := List.take_of_length_le (by omega)
  have htag := fun s => refTag_calls (Γ := Γ) (key.drop 16) (be 4 beside.length ++ (beside ++ (nonce ++ masked))) (by simp [hk]) (by simp [hn]; omega) s
  have htl := Mac.tag_len (key.drop 16) (be 4 beside.length ++ (beside ++ (nonce ++ masked)))
  rw [tag_eq]
  generalize hT : Mac.tag (key.drop 16) (be 4 beside.length ++ (beside ++ (nonce ++ masked))) = T0 at *
  refine wS fun K hK => ?_
  simp only [↓DN,UP,DF,Qa,Qb,Qc,Qd,Qe,Qf,Qg,Qh,reduceCtorEq,↓reduceIte,Na,Nb,Nc,Nk,Nf,Ng,Nh,Za,Zb,Zc,TT]
  refine hK _ _ ?_;clear hK K
  refine awp_drw_seq T.mixed [5, 12] (by kernel_rfl) ?_
  intro K hK
  simp only [↓AXq_nil,↓AXq_cons,pval,DX,Nat.reduceBEq,↓DN,UP,DF,Qa,Qb,Qc,Qd,Qe,Qf,Qg,Qh,reduceCtorEq,↓reduceIte,Na,Nb,Nc,Nk,Nf,Ng,Nh,Za,Zb,Zc,TT, hk, htk, bs_size, show (0 : Int) ≤ 16 from by decide, show (16 : Int) ≤ ((48 : Nat) : Int) from by decide, show ((48 : Nat) : Int) ≤ ((48 : Nat) : Int) from by decide, iconv_u64_nat beside.length (show beside.length < 2 ^ 64 by omega)]
  refine acallk (refNumber_calls beside.length 4 (by omega) (by omega) _) ?_
  rintro r s1 ⟨rfl, rfl⟩
  simp only [↓AXq_nil,↓AXq_cons,pval,DX,Nat.reduceBEq,↓DN,UP,DF,Qa,Qb,Qc,Qd,Qe,Qf,Qg,Qh,reduceCtorEq,↓reduceIte,Na,Nb,Nc,Nk,Nf,Ng,Nh,Za,Zb,Zc,TT, length_be, hn, i64_room (show 4 + beside.length < 2 ^ 62 by omega), i64_room (show 4 + beside.length + 16 < 2 ^ 62 by omega), i64_room (show 4 + (beside.length + 16) + masked.length < 2 ^ 62 by omega), i64_room (show 4 + beside.length + 16 + masked.length < 2 ^ 62 by omega)]
  refine acallk (htag _) ?_
  rintro r s2 ⟨rfl, rfl⟩
  simp only [↓AXq_nil,↓AXq_cons,pval,DX,Nat.reduceBEq,↓DN,UP,DF,Qa,Qb,Qc,Qd,Qe,Qf,Qg,Qh,reduceCtorEq,↓reduceIte,Na,Nb,Nc,Nk,Nf,Ng,Nh,Za,Zb,Zc,TT, htl, show (0 : Int) ≤ 16 from by decide, show (16 : Int) ≤ ((32 : Nat) : Int) from by decide]
  refine hK _ _ ?_;clear hK K
  refine awp_ret ?_
  simp only [retQ, AEnds, aresL, ares, List.toList_toArray, ↓upd_same]; try simp only [UP,DF,Nc,↓reduceIte,DT]
  exact ⟨_, _, AV.weak.refl _, AS.le.refl _, rfl, rfl⟩

/-- What is opened: a text, and an error's number. -/
def openedT (key nonce beside z : List UInt8) : List UInt8 := if z.length < 16 then [] else if Aes.tag key nonce beside (z.take (z.length - 16)) = z.drop (z.length - 16) then Aes.mask key nonce (z.take (z.length - 16)) else []
def openedE (key nonce beside z : List UInt8) : Nat := if z.length < 16 then 10 else if Aes.tag key nonce beside (z.take (z.length - 16)) = z.drop (z.length - 16) then 0 else 14
theorem neq_list (a b : List UInt8) (h : a ≠ b) : (a == b) = false := by simpa using h

set_option maxHeartbeats 4000000 in
theorem refOpen_calls (key nonce beside z : List UInt8) (hk : key.length = 48) (hn : nonce.length = 16) (hb : beside.length ≤ 2 ^ 30) (hz : z.length ≤ 2 ^ 30) (s : AS) :
    ACalls Tryz.prog Γ 184 [.v (.string ⟨key.toArray⟩), .v (.string ⟨nonce.toArray⟩), .v (.string ⟨beside.toArray⟩), .v (.string ⟨z.toArray⟩)] s (fun r s' => r = .tup [.v (.string ⟨(openedT key nonce beside z).toArray⟩), .v (.int .i64 ((openedE key nonce beside z : Nat) : Int))] ∧ s' = s) := by
  refine acalls_body Tryz.func184 rfl Tryz.ntmps184 Tryz.results184 (by simp) ?_
  refine wS fun K hK => ?_
  simp only [↓DN,UP,DF,Qa,Qb,Qc,Qd,Qe,Qf,Qg,Qh,reduceCtorEq,↓reduceIte,Na,Nb,Nc,Nk,Nf,Ng,Nh,Za,Zb,Zc,TT]
  refine hK _ _ ?_;clear hK K
  refine wK fun K hK => ?_
  by_cases h16 : z.length < 16
  · have h1 : openedT key nonce beside z = [] := by unfold openedT; rw [if_pos h16]
    have h2 : openedE key nonce beside z = 10 := by unfold openedE; rw [if_pos h16]
    rw [h1, h2]
    refine wS fun K hK => ?_
    simp only [↓DN,UP,DF,Qa,Qb,Qc,Qd,Qe,Qf,Qg,Qh,reduceCtorEq,↓reduceIte,Na,Nb,Nc,Nk,Nf,Ng,Nh,Za,Zb,Zc,TT, bs_size, decide_eq_true (show (z.length : Int) < 16 by omega)]
    refine hK _ _ ?_;clear hK K
    refine wC fun X Y hX hY => ?_
    simp only [↓DN,UP,DF,Qa,Qb,Qc,Qd,Qe,Qf,Qg,Qh,reduceCtorEq,↓reduceIte,Na,Nb,Nc,Nk,Nf,Ng,Nh,Za,Zb,Zc,TT, DB]
    refine hX ?_;clear hX hY X Y
    refine wS fun K hK => ?_
    simp only [↓DN,UP,DF,Qa,Qb,Qc,Qd,Qe,Qf,Qg,Qh,reduceCtorEq,↓reduceIte,Na,Nb,Nc,Nk,Nf,Ng,Nh,Za,Zb,Zc,TT]
    refine hK _ _ ?_;clear hK K
    refine awp_ret ?_
    try simp only [thenQ, blockQ]
    simp only [retQ, AEnds, aresL, ares, List.toList_toArray, ↓upd_same]; try simp only [UP,DF,Nc,↓reduceIte,DT]
    exact ⟨_, _, AV.weak.refl _, AS.le.refl _, rfl, rfl⟩
  · have hsub : isub .i64 (z.length : Int) 16 = ((z.length - 16 : Nat) : Int) := i64_sub z.length 16 (by omega) (by omega)
    have htz : List.take z.length z = z := List.take_length
    have m0 : (0 : Int) ≤ ((z.length - 16 : Nat) : Int) := by omega
    have m1 : ((z.length - 16 : Nat) : Int) ≤ (z.length : Int) := by omega
    have m2 : (z.length : Int) ≤ (z.length : Int) := Int.le_refl _
    refine wS fun K hK => ?_
    simp only [↓DN,UP,DF,Qa,Qb,Qc,Qd,Qe,Qf,Qg,Qh,reduceCtorEq,↓reduceIte,Na,Nb,Nc,Nk,Nf,Ng,Nh,Za,Zb,Zc,TT, bs_size, decide_eq_false (show ¬ (z.length : Int) < 16 by omega)]
    refine hK _ _ ?_;clear hK K
    refine wC fun X Y hX hY => ?_
    simp only [↓DN,UP,DF,Qa,Qb,Qc,Qd,Qe,Qf,Qg,Qh,reduceCtorEq,↓reduceIte,Na,Nb,Nc,Nk,Nf,Ng,Nh,Za,Zb,Zc,TT, DB]
    refine hY ?_;clear hX hY X Y
    refine awp_skip ?_
    refine hK _ _ ?_;clear hK K
    refine wS fun K hK => ?_
    simp only [↓DN,UP,DF,Qa,Qb,Qc,Qd,Qe,Qf,Qg,Qh,reduceCtorEq,↓reduceIte,Na,Nb,Nc,Nk,Nf,Ng,Nh,Za,Zb,Zc,TT, bs_size, hsub]
    refine hK _ _ ?_;clear hK K
    refine wK fun K hK => ?_
    have c2 := fun s => refSTag_calls (Γ := Γ) key nonce beside (z.take (z.length - 16)) hk hn hb (by rw [List.length_take]; omega) s
    have c1 := fun s => refMask_calls (Γ := Γ) key nonce (z.take (z.length - 16)) hk hn (by rw [List.length_take]; omega) s
    refine awp_drw_seq T.mixed [6] (by kernel_rfl) ?_
    intro K hK
    simp only [↓AXq_nil,↓AXq_cons,pval,DX,Nat.reduceBEq,↓DN,UP,DF,Qa,Qb,Qc,Qd,Qe,Qf,Qg,Qh,reduceCtorEq,↓reduceIte,Na,Nb,Nc,Nk,Nf,Ng,Nh,Za,Zb,Zc,TT, bs_size, htz, m0, m1, m2]
    refine acallk (c2 _) ?_
    rintro r s2 ⟨rfl, rfl⟩
    by_cases ht : Aes.tag key nonce beside (z.take (z.length - 16)) = z.drop (z.length - 16)
    · have h1 : openedT key nonce beside z = Aes.mask key nonce (z.take (z.length - 16)) := by unfold openedT; rw [if_neg h16, if_pos ht]
      have h2 : openedE key nonce beside z = 0 := by unfold openedE; rw [if_neg h16, if_pos ht]
      rw [ht]
      simp only [↓AXq_nil,↓AXq_cons,pval,DX,Nat.reduceBEq,↓DN,UP,DF,Qa,Qb,Qc,Qd,Qe,Qf,Qg,Qh,reduceCtorEq,↓reduceIte,Na,Nb,Nc,Nk,Nf,Ng,Nh,Za,Zb,Zc,TT, bs_size, htz, m0, m1, m2, bneL_self]
      refine hK _ _ ?_;clear hK K
      refine wC fun X Y hX hY => ?_
      simp only [↓DN,UP,DF,Qa,Qb,Qc,Qd,Qe,Qf,Qg,Qh,reduceCtorEq,↓reduceIte,Na,Nb,Nc,Nk,Nf,Ng,Nh,Za,Zb,Zc,TT, DB]
      refine hY ?_;clear hX hY X Y
      refine awp_skip ?_
      refine hK _ _ ?_;clear hK K
      refine wS fun K hK => ?_
      simp only [↓DN,UP,DF,Qa,Qb,Qc,Qd,Qe,Qf,Qg,Qh,reduceCtorEq,↓reduceIte,Na,Nb,Nc,Nk,Nf,Ng,Nh,Za,Zb,Zc,TT, bs_size, htz, m0, m1, m2]
      refine acallk (c1 _) ?_
      rintro r s3 ⟨rfl, rfl⟩
      simp only [↓AXq_nil,↓AXq_cons,pval,DX,Nat.reduceBEq,↓DN,UP,DF,Qa,Qb,Qc,Qd,Qe,Qf,Qg,Qh,reduceCtorEq,↓reduceIte,Na,Nb,Nc,Nk,Nf,Ng,Nh,Za,Zb,Zc,TT]
      refine hK _ _ ?_;clear hK K
      refine awp_ret ?_
      simp only [retQ, AEnds, aresL, ares, List.toList_toArray, ↓upd_same]; try simp only [UP,DF,Nc,↓reduceIte,DT]
      rw [h1, h2]
      exact ⟨_, _, AV.weak.refl _, AS.le.refl _, rfl, rfl⟩
    · have h1 : openedT key nonce beside z = [] := by unfold openedT; rw [if_neg h16, if_neg ht]
      have h2 : openedE key nonce beside z = 14 := by unfold openedE; rw [if_neg h16, if_neg ht]
      simp only [↓AXq_nil,↓AXq_cons,pval,DX,Nat.reduceBEq,↓DN,UP,DF,Qa,Qb,Qc,Qd,Qe,Qf,Qg,Qh,reduceCtorEq,↓reduceIte,Na,Nb,Nc,Nk,Nf,Ng,Nh,Za,Zb,Zc,TT, bs_size, htz, m0, m1, m2, neq_list _ _ ht]
      refine hK _ _ ?_;clear hK K
      refine wC fun X Y hX hY => ?_
      simp only [↓DN,UP,DF,Qa,Qb,Qc,Qd,Qe,Qf,Qg,Qh,reduceCtorEq,↓reduceIte,Na,Nb,Nc,Nk,Nf,Ng,Nh,Za,Zb,Zc,TT, DB]
      refine hX ?_;clear hX hY X Y
      refine wS fun K hK => ?_
      simp only [↓DN,UP,DF,Qa,Qb,Qc,Qd,Qe,Qf,Qg,Qh,reduceCtorEq,↓reduceIte,Na,Nb,Nc,Nk,Nf,Ng,Nh,Za,Zb,Zc,TT]
      refine hK _ _ ?_;clear hK K
      refine awp_ret ?_
      try simp only [thenQ, blockQ]
      simp only [retQ, AEnds, aresL, ares, List.toList_toArray, ↓upd_same]; try simp only [UP,DF,Nc,↓reduceIte,DT]
      rw [h1, h2]
      exact ⟨_, _, AV.weak.refl _, AS.le.refl _, rfl, rfl⟩

end Go.Proofs.YtoagkleecgngdaaGreatDoor


