/- Contracts of the program's functions, each walked once; the conditions stand in each theorem. -/
import Derived.Test.YtoagkleecgngdaaGreatDoorAMp6
import Derived.Test.YtoagkleecgngdaaGreatDoorW1
import Derived.Test.YtoagkleecgngdaaGreatDoorW8
set_option linter.unusedSimpArgs false
set_option linter.unusedVariables false
open Nat renaming reduceLT → Na, reduceLeDiff → Nb, reduceEqDiff → Nc, reduceAdd → Nk, reduceMul → Nf, reducePow → Ng, reduceSub → Nh
open Int renaming reduceLT → Za, reduceLE → Zb, reduceToNat → Zc
open Go.AM renaming ashift → Qa, aconv → Qb, aindexAddr → Qc, aindex → Qd, aslice → Qe, abuiltin → Qf, awp_reg_seq → wS, awp_reg_end → wE, awp_seq_k → wK, awp_cond_k → wC
open Go.AM.AV renaming cells → Qg, one → Qh
set_option autoImplicit false
namespace Go.Proofs.YtoagkleecgngdaaGreatDoor
open Go Go.AM Go.Proofs


variable {Γ : Nat → List AV}

def spinI (v : Nat) : Nat → Nat
  | 0 => v
  | k + 1 => Aes.spin (spinI v k)
def yI (v : Nat) : Nat → Nat
  | 0 => 99 ^^^ v
  | k + 1 => yI v k ^^^ spinI v (k + 1)
theorem spin_lt (v : Nat) : Aes.spin v < 256 := Nat.mod_lt _ (by decide)
theorem spinI_lt (v : Nat) (h : v < 256) : ∀ k, spinI v k < 256
  | 0 => h
  | k + 1 => spin_lt _
theorem yI_lt (v : Nat) (h : v < 256) : ∀ k, yI v k < 256
  | 0 => Nat.xor_lt_two_pow (n := 8) (by decide) h
  | k + 1 => Nat.xor_lt_two_pow (n := 8) (yI_lt v h k) (spinI_lt v h (k + 1))
theorem spin_walk (v : Nat) (h : v < 256) : irem (iadd .i64 (imul .i64 (v : Int) 2) (iquo .i64 (v : Int) 128)) 256 = ((Aes.spin v : Nat) : Int) := by
  have h1 : imul .i64 (v : Int) 2 = ((v * 2 : Nat) : Int) := by rw [imul_i64 (by omega)]; omega
  have h2 : iquo .i64 (v : Int) 128 = ((v / 128 : Nat) : Int) := by
    have : iquo .i64 (v : Int) ((128 : Nat) : Int) = ((v / 128 : Nat) : Int) := by
      rw [iquo]
      have e : Int.tdiv (v : Int) ((128 : Nat) : Int) = ((v / 128 : Nat) : Int) := (Int.ofNat_tdiv v 128).symm
      rw [e, IntWalk.i64_in _ (by omega)]
    exact this
  rw [h1, h2, i64_add _ _ (by omega)]
  exact irem_u (v * 2 + v / 128) 256

theorem expS_len : ∀ n, (Aes.expS n).length = 256
  | 0 => List.length_replicate
  | n + 1 => by rw [Aes.expS, List.length_set, expS_len n]
theorem logS_len : ∀ n, (Aes.logS n).length = 256
  | 0 => List.length_replicate
  | n + 1 => by rw [Aes.logS, List.length_set, logS_len n]
theorem expS_set (i : Nat) : ((Aes.expS i).map fun n => nV n).set i (nV (Aes.xp i)) = (Aes.expS (i + 1)).map fun n => nV n := by
  rw [← List.map_set, Aes.expS]
theorem logS_set (i : Nat) : ((Aes.logS i).map fun n => nV n).set (Aes.xp i) (nV i) = (Aes.logS (i + 1)).map fun n => nV n := by
  rw [← List.map_set, Aes.logS]
theorem nV_drop {l : List Nat} (j : Nat) (h : j < l.length) : List.drop j (l.map fun n => nV n) = nV (l.getD j 0) :: List.drop (j + 1) (l.map fun n => nV n) := by
  apply drop_cons
  simp [List.getElem?_eq_getElem h]
theorem expT_lt : ∀ j, j < 256 → Aes.expT.getD j 0 < 256 := by decide +kernel
theorem expT_len : Aes.expT.length = 256 := by decide +kernel
theorem logT_len : Aes.logT.length = 256 := by decide +kernel
/-- Octets, as ints. -/
def intL (l : List UInt8) : List AV := l.map fun x => nV x.toNat
theorem intL_len (l : List UInt8) : (intL l).length = l.length := by simp [intL]
theorem intL_drop {l : List UInt8} (j : Nat) (h : j < l.length) : List.drop j (intL l) = nV (l.getD j 0).toNat :: List.drop (j + 1) (intL l) := by
  apply drop_cons
  simp [intL, List.getElem?_eq_getElem h]
/-- A row of octets as ints, the first i of them new. -/
def fillI (F G : Nat → UInt8) (N i : Nat) : List AV := (List.range N).map fun n => nV (if n < i then F n else G n).toNat
theorem fillI_len (F G : Nat → UInt8) (N i : Nat) : (fillI F G N i).length = N := by simp [fillI]
theorem fillI_set (F G : Nat → UInt8) (N i : Nat) (x : Nat) (hx : x = (F i).toNat) : (fillI F G N i).set i (nV x) = fillI F G N (i + 1) := by
  subst hx
  apply List.ext_getElem?
  intro k
  by_cases e : k = i
  · subst e
    by_cases hk : k < N
    · rw [List.getElem?_set_self (by rw [fillI_len]; exact hk)]
      simp [fillI, hk]
    · rw [List.getElem?_eq_none (by simp [fillI]; omega), List.getElem?_eq_none (by simp [fillI]; omega)]
  · rw [List.getElem?_set_ne (by omega)]
    by_cases hk : k < N
    · simp only [fillI, List.getElem?_map, List.getElem?_range hk, Option.map_some]
      by_cases h2 : k < i
      · rw [if_pos h2, if_pos (by omega)]
      · rw [if_neg h2, if_neg (by omega)]
    · rw [List.getElem?_eq_none (by simp [fillI]; omega), List.getElem?_eq_none (by simp [fillI]; omega)]
theorem fillI_full (F G : Nat → UInt8) (N : Nat) : fillI F G N N = intL ((List.range N).map F) := by
  rw [fillI, intL, List.map_map]
  apply List.map_congr_left
  intro n hn
  rw [if_pos (List.mem_range.1 hn)]
  rfl
theorem fillI_nought (F : Nat → UInt8) (N : Nat) : fillI F (fun _ => 0) N 0 = List.replicate N (nV 0) := by
  apply List.ext_getElem
  · simp [fillI]
  · intro k h1 h2
    simp [fillI]
set_option maxHeartbeats 8000000 in
set_option maxRecDepth 100000 in
theorem refBoxes_calls (s : AS) : ACalls Tryz.prog Γ 269 [] s (fun r s' => r = .sl 1 256 (intL Aes.sb) .no ∧ s' = s) := by
  refine gcalls_body Tryz.func269 rfl Tryz.ntmps269 Tryz.results269 (by simp) ?_
  refine gwp_seq_k ?_
  intro K1 hK1
  refine wE fun K hK => ?_
  simp only [↓DN,UP,DF,Qa,Qb,Qc,Qd,Qe,Qf,Qg,Qh,reduceCtorEq,↓reduceIte,Na,Nb,Nc,Nk,Nf,Ng,Nh,Za,Zb,Zc,TT]
  refine hK _ _ ?_;clear hK K
  simp only [thenQ]
  refine hK1 _ _ ?_;clear hK1 K1
  refine gwp_seq_k ?_
  intro K1 hK1
  refine wE fun K hK => ?_
  simp only [↓DN,UP,DF,Qa,Qb,Qc,Qd,Qe,Qf,Qg,Qh,reduceCtorEq,↓reduceIte,Na,Nb,Nc,Nk,Nf,Ng,Nh,Za,Zb,Zc,TT]
  refine ⟨by decide, by decide, fun o1 ho1 => ?_⟩
  refine hK _ _ ?_;clear hK K
  simp only [thenQ]
  refine hK1 _ _ ?_;clear hK1 K1
  refine gwp_seq_k ?_
  intro K1 hK1
  refine wE fun K hK => ?_
  simp only [↓DN,UP,DF,Qa,Qb,Qc,Qd,Qe,Qf,Qg,Qh,reduceCtorEq,↓reduceIte,Na,Nb,Nc,Nk,Nf,Ng,Nh,Za,Zb,Zc,TT]
  refine ⟨by decide, by decide, fun o2 ho2 => ?_⟩
  refine hK _ _ ?_;clear hK K
  simp only [thenQ]
  refine hK1 _ _ ?_;clear hK1 K1
  obtain ⟨h21, ho2'⟩ := AS.fresh_set ho2
  refine gwp_seq_k ?_
  intro K1 hK1
  refine wE fun K hK => ?_
  simp only [↓DN,UP,DF,Qa,Qb,Qc,Qd,Qe,Qf,Qg,Qh,reduceCtorEq,↓reduceIte,Na,Nb,Nc,Nk,Nf,Ng,Nh,Za,Zb,Zc,TT]
  refine hK _ _ ?_;clear hK K
  simp only [thenQ]
  refine hK1 _ _ ?_;clear hK1 K1
  rw [show List.replicate 256 (AV.v (.int .i64 0)) = (Aes.expS 0).map fun n => nV n from by rw [Aes.expS, List.map_replicate]; rfl]
  generalize hs0 : (s.set o1 ((Aes.expS 0).map fun n => nV n)).set o2 ((Aes.expS 0).map fun n => nV n) = s0 at *
  have j1 : s0.objs o1 = some ((Aes.expS 0).map fun n => nV n) := by rw [← hs0, AS.set_objs_ne _ h21.symm, AS.set_objs_same]
  have j2 : s0.objs o2 = some ((Aes.logS 0).map fun n => nV n) := by rw [← hs0]; exact AS.set_objs_same _ _ _
  have hle : s.le s0 := by rw [← hs0]; exact AS.le_set (AS.le_set (AS.le.refl s) ho1 _) ho2' _
  clear hs0 ho2
  refine gwp_seq_k ?_
  intro K1 hK1
  refine wS fun K hK => ?_
  simp only [↓DN,UP,DF,Qa,Qb,Qc,Qd,Qe,Qf,Qg,Qh,reduceCtorEq,↓reduceIte,Na,Nb,Nc,Nk,Nf,Ng,Nh,Za,Zb,Zc,TT]
  refine hK _ _ ?_;clear hK K
  refine awp_block ?_
  refine awp_loop (fun E s1 => ∃ i : Nat, i ≤ 255 ∧ E 1 = .osl o1 0 1 256 256 ∧ E 2 = .osl o2 0 1 256 256 ∧ E 3 = nV (Aes.xp i) ∧ E 4 = nV i ∧ s1.objs o1 = some ((Aes.expS i).map fun n => nV n) ∧ s1.objs o2 = some ((Aes.logS i).map fun n => nV n) ∧ s.le s1)
    (fun E _ => match E 4 with | .v (.int _ i) => 255 - i.toNat | _ => 0) ?_ ?_
  · exact ⟨0, by omega, by simp only [upd, Nc, ↓reduceIte], by simp only [upd, Nc, ↓reduceIte], by simp only [upd, Nc, ↓reduceIte]; rfl, by simp only [upd, ↓reduceIte]; rfl, j1, j2, hle⟩
  · clear j1 j2 hle
    rintro E1 s1 ⟨i, hi, e1, e2, e3, e4, j1, j2, hle⟩ -
    refine wK fun K2 hK2 => ?_
    by_cases hi' : i < 255
    · refine wS fun K hK => ?_
      simp only [↓DN,UP,DF,Qa,Qb,Qc,Qd,Qe,Qf,Qg,Qh,reduceCtorEq,↓reduceIte,Na,Nb,Nc,Nk,Nf,Ng,Nh,Za,Zb,Zc,TT, e4, decide_eq_true (show (i : Int) < 255 by omega)]
      refine hK _ _ ?_;clear hK K
      refine wC fun X Y hX hY => ?_
      simp only [↓DN,UP,DF,Qa,Qb,Qc,Qd,Qe,Qf,Qg,Qh,reduceCtorEq,↓reduceIte,Na,Nb,Nc,Nk,Nf,Ng,Nh,Za,Zb,Zc,TT, DB]
      refine hX ?_;clear hX hY X Y
      refine awp_skip ?_
      refine hK2 _ _ ?_;clear hK2 K2
      refine wK fun K3 hK3 => ?_
      refine awp_block ?_
      have hx := Aes.xp_lt i
      have hset1 := expS_set i
      have hset2 := logS_set i
      have hl1 : ((Aes.expS i).map fun n => nV n).length = 256 := by rw [List.length_map, expS_len]
      have hl2 : ((Aes.logS i).map fun n => nV n).length = 256 := by rw [List.length_map, logS_len]
      have hmul := fun s => refMul05_calls (Γ := Γ) (Aes.xp i) 3 hx (by decide) s
      rw [show Aes.rmul (Aes.xp i) 3 = Aes.xp (i + 1) from rfl] at hmul
      generalize hA' : ((Aes.expS (i + 1)).map fun n => nV n) = A' at *
      generalize hB' : ((Aes.logS (i + 1)).map fun n => nV n) = B' at *
      generalize ((Aes.expS i).map fun n => nV n) = A at *
      generalize ((Aes.logS i).map fun n => nV n) = B at *
      generalize hxn : Aes.xp (i + 1) = xn at *
      generalize Aes.xp i = x at *
      have m0 : (0 : Int) ≤ (i : Int) := by omega
      have m1 : (i : Int) < ((256 : Nat) : Int) := by omega
      have m2 : (0 : Int) ≤ (x : Int) := by omega
      have m3 : (x : Int) < ((256 : Nat) : Int) := by omega
      have m4 : i < 256 := by omega
      refine wS fun K hK => ?_
      simp only [↓DN,UP,DF,Qa,Qb,Qc,Qd,Qe,Qf,Qg,Qh,reduceCtorEq,↓reduceIte,Na,Nb,Nc,Nk,Nf,Ng,Nh,Za,Zb,Zc,TT, e1, e3, e4, j1, m0, m1, m4, hset1, hl1]
      refine ⟨by omega, hK _ _ ?_⟩
      clear hK K
      generalize hs2 : s1.set o1 A' = s2 at *
      have q1 : s2.objs o1 = some A' := by rw [← hs2]; exact AS.set_objs_same _ _ _
      have q2 : s2.objs o2 = some B := by rw [← hs2, AS.set_objs_ne _ h21]; exact j2
      have hle2 : s.le s2 := by rw [← hs2]; exact AS.le_set hle ho1 _
      clear hs2 j1 j2 hle
      have m5 : x + 1 ≤ 256 := by omega
      refine wS fun K hK => ?_
      simp only [↓DN,UP,DF,Qa,Qb,Qc,Qd,Qe,Qf,Qg,Qh,reduceCtorEq,↓reduceIte,Na,Nb,Nc,Nk,Nf,Ng,Nh,Za,Zb,Zc,TT, e2, e3, e4, q2, m2, m3, m5, hx, hset2, hl2]
      refine hK _ _ ?_;clear hK K
      refine wE fun K hK => ?_
      simp only [↓DN,UP,DF,Qa,Qb,Qc,Qd,Qe,Qf,Qg,Qh,reduceCtorEq,↓reduceIte,Na,Nb,Nc,Nk,Nf,Ng,Nh,Za,Zb,Zc,TT, e3]
      refine acallk (hmul _) ?_
      rintro r s3 ⟨rfl, rfl⟩
      simp only [↓AXq_nil,↓AXq_cons,pval,DX,Nat.reduceBEq,↓DN,UP,DF,Qa,Qb,Qc,Qd,Qe,Qf,Qg,Qh,reduceCtorEq,↓reduceIte,Na,Nb,Nc,Nk,Nf,Ng,Nh,Za,Zb,Zc,TT]
      refine hK _ _ ?_;clear hK K
      simp only [blockQ, thenQ, if_true, if_false]
      refine hK3 _ _ ?_;clear hK3 K3
      refine wE fun K hK => ?_
      simp only [↓DN,UP,DF,Qa,Qb,Qc,Qd,Qe,Qf,Qg,Qh,reduceCtorEq,↓reduceIte,Na,Nb,Nc,Nk,Nf,Ng,Nh,Za,Zb,Zc,TT, e4, w_succ i (by omega)]
      refine hK _ _ ?_;clear hK K
      refine ⟨⟨i + 1, by omega, by simp only [upd, e1, Nc, ↓reduceIte], by simp only [upd, e2, Nc, ↓reduceIte], by simp only [upd, Nc, ↓reduceIte]; rw [hxn], by simp only [upd, ↓reduceIte], by rw [AS.set_objs_ne _ h21.symm, hA']; exact q1, by rw [hB']; exact AS.set_objs_same _ _ _, AS.le_set hle2 ho2' _⟩, ?_⟩
      simp only [e4, upd, ↓reduceIte]
      omega
    · obtain rfl : i = 255 := by omega
      refine wS fun K hK => ?_
      simp only [↓DN,UP,DF,Qa,Qb,Qc,Qd,Qe,Qf,Qg,Qh,reduceCtorEq,↓reduceIte,Na,Nb,Nc,Nk,Nf,Ng,Nh,Za,Zb,Zc,TT, e4, decide_eq_false (show ¬ ((255 : Nat) : Int) < 255 by decide)]
      refine hK _ _ ?_;clear hK K
      refine wC fun X Y hX hY => ?_
      simp only [↓DN,UP,DF,Qa,Qb,Qc,Qd,Qe,Qf,Qg,Qh,reduceCtorEq,↓reduceIte,Na,Nb,Nc,Nk,Nf,Ng,Nh,Za,Zb,Zc,TT, DB]
      refine hY ?_;clear hX hY X Y
      refine awp_exit ?_
      simp only [thenQ, blockQ, if_true]
      clear hK2 K2
      refine hK1 _ _ ?_;clear hK1 K1
      rw [Aes.exp_T] at j1
      rw [Aes.log_T] at j2
      clear e3 e4
      refine gwp_seq_k ?_
      intro K1 hK1
      refine wE fun K hK => ?_
      simp only [↓DN,UP,DF,Qa,Qb,Qc,Qd,Qe,Qf,Qg,Qh,reduceCtorEq,↓reduceIte,Na,Nb,Nc,Nk,Nf,Ng,Nh,Za,Zb,Zc,TT]
      refine ⟨by decide, by decide, fun o5 ho5 => ?_⟩
      refine hK _ _ ?_;clear hK K
      simp only [thenQ]
      refine hK1 _ _ ?_;clear hK1 K1
      have n51 : o5 ≠ o1 := fun e => by rw [e, j1] at ho5; cases ho5
      have n52 : o5 ≠ o2 := fun e => by rw [e, j2] at ho5; cases ho5
      have hs5 : s.objs o5 = none := by
        cases h : s.objs o5 with
        | none => rfl
        | some cs => rw [hle.objs _ _ h] at ho5; cases ho5
      rw [show List.replicate 256 (AV.v (.int .i64 0)) = List.replicate 256 (nV 0) from rfl, ← fillI_nought (fun n => Aes.sb.getD n 0) 256]
      generalize hs2 : s1.set o5 (fillI (fun n => Aes.sb.getD n 0) (fun _ => 0) 256 0) = s2 at *
      have q1 : s2.objs o1 = some (Aes.expT.map fun n => nV n) := by rw [← hs2, AS.set_objs_ne _ n51.symm]; exact j1
      have q2 : s2.objs o2 = some (Aes.logT.map fun n => nV n) := by rw [← hs2, AS.set_objs_ne _ n52.symm]; exact j2
      have q5 : s2.objs o5 = some (fillI (fun n => Aes.sb.getD n 0) (fun _ => 0) 256 0) := by rw [← hs2]; exact AS.set_objs_same _ _ _
      have hle2 : s.le s2 := by rw [← hs2]; exact AS.le_set hle hs5 _
      clear hs2 j1 j2 hle ho5
      refine gwp_seq_k ?_
      intro K1 hK1
      refine wS fun K hK => ?_
      simp only [↓DN,UP,DF,Qa,Qb,Qc,Qd,Qe,Qf,Qg,Qh,reduceCtorEq,↓reduceIte,Na,Nb,Nc,Nk,Nf,Ng,Nh,Za,Zb,Zc,TT]
      refine hK _ _ ?_;clear hK K
      refine awp_block ?_
      refine awp_loop (fun E s3 => ∃ c : Nat, c ≤ 256 ∧ E 1 = .osl o1 0 1 256 256 ∧ E 2 = .osl o2 0 1 256 256 ∧ E 5 = .osl o5 0 1 256 256 ∧ E 6 = nV c ∧ s3.objs o1 = some (Aes.expT.map fun n => nV n) ∧ s3.objs o2 = some (Aes.logT.map fun n => nV n) ∧ s3.objs o5 = some (fillI (fun n => Aes.sb.getD n 0) (fun _ => 0) 256 c) ∧ s.le s3)
        (fun E _ => match E 6 with | .v (.int _ i) => 256 - i.toNat | _ => 0) ?_ ?_
      · exact ⟨0, by omega, by simp only [upd, e1, Nc, ↓reduceIte], by simp only [upd, e2, Nc, ↓reduceIte], by simp only [upd, Nc, ↓reduceIte], by simp only [upd, ↓reduceIte]; rfl, q1, q2, q5, hle2⟩
      · clear q1 q2 q5 hle2 e1 e2
        rintro E2 s3 ⟨c, hc, f1, f2, f5, f6, q1, q2, q5, hle2⟩ -
        refine wK fun K2 hK2 => ?_
        by_cases hc' : c < 256
        · refine wS fun K hK => ?_
          simp only [↓DN,UP,DF,Qa,Qb,Qc,Qd,Qe,Qf,Qg,Qh,reduceCtorEq,↓reduceIte,Na,Nb,Nc,Nk,Nf,Ng,Nh,Za,Zb,Zc,TT, f6, decide_eq_true (show (c : Int) < 256 by omega)]
          refine hK _ _ ?_;clear hK K
          refine wC fun X Y hX hY => ?_
          simp only [↓DN,UP,DF,Qa,Qb,Qc,Qd,Qe,Qf,Qg,Qh,reduceCtorEq,↓reduceIte,Na,Nb,Nc,Nk,Nf,Ng,Nh,Za,Zb,Zc,TT, DB]
          refine hX ?_;clear hX hY X Y
          refine awp_skip ?_
          refine hK2 _ _ ?_;clear hK2 K2
          refine wK fun K3 hK3 => ?_
          refine awp_block ?_
          refine wS fun K hK => ?_
          simp only [↓DN,UP,DF,Qa,Qb,Qc,Qd,Qe,Qf,Qg,Qh,reduceCtorEq,↓reduceIte,Na,Nb,Nc,Nk,Nf,Ng,Nh,Za,Zb,Zc,TT]
          refine hK _ _ ?_;clear hK K
          refine wK fun K4 hK4 => ?_
          have hout := Aes.outV_sb c hc'
          have hgo : ∀ (E3 : Env) (v : Nat), v < 256 → Aes.outV Aes.expT Aes.logT c = yI v 4 → E3 1 = .osl o1 0 1 256 256 → E3 2 = .osl o2 0 1 256 256 → E3 5 = .osl o5 0 1 256 256 → E3 6 = nV c → E3 7 = nV v → K4 E3 s3 := by
            intro E3 v hv hov g1 g2 g5 g6 g7
            refine hK4 _ _ ?_;clear hK4 K4
            have h99 : ixor .i64 (99 : Int) (v : Int) = ((99 ^^^ v : Nat) : Int) := n_xor 99 v (by omega) (by omega)
            refine wS fun K hK => ?_
            simp only [↓DN,UP,DF,Qa,Qb,Qc,Qd,Qe,Qf,Qg,Qh,reduceCtorEq,↓reduceIte,Na,Nb,Nc,Nk,Nf,Ng,Nh,Za,Zb,Zc,TT, g7, h99]
            refine hK _ _ ?_;clear hK K
            refine wK fun K5 hK5 => ?_
            refine wS fun K hK => ?_
            simp only [↓DN,UP,DF,Qa,Qb,Qc,Qd,Qe,Qf,Qg,Qh,reduceCtorEq,↓reduceIte,Na,Nb,Nc,Nk,Nf,Ng,Nh,Za,Zb,Zc,TT]
            refine hK _ _ ?_;clear hK K
            refine awp_block ?_
            refine awp_loop (fun E s4 => ∃ k : Nat, k ≤ 4 ∧ E 1 = .osl o1 0 1 256 256 ∧ E 2 = .osl o2 0 1 256 256 ∧ E 5 = .osl o5 0 1 256 256 ∧ E 6 = nV c ∧ E 7 = nV (spinI v k) ∧ E 8 = nV (yI v k) ∧ E 9 = nV k ∧ s4 = s3)
              (fun E _ => match E 9 with | .v (.int _ i) => 4 - i.toNat | _ => 0) ?_ ?_
            · exact ⟨0, by omega, by simp only [upd, g1, Nc, ↓reduceIte], by simp only [upd, g2, Nc, ↓reduceIte], by simp only [upd, g5, Nc, ↓reduceIte], by simp only [upd, g6, Nc, ↓reduceIte], by simp only [upd, g7, Nc, ↓reduceIte]; rfl, by simp only [upd, Nc, ↓reduceIte]; rfl, by simp only [upd, ↓reduceIte]; rfl, rfl⟩
            · clear g1 g2 g5 g6 g7
              rintro E4 s4 ⟨k, hk, g1, g2, g5, g6, g7, g8, g9, rfl⟩ -
              refine wK fun K6 hK6 => ?_
              by_cases hk' : k < 4
              · refine wS fun K hK => ?_
                simp only [↓DN,UP,DF,Qa,Qb,Qc,Qd,Qe,Qf,Qg,Qh,reduceCtorEq,↓reduceIte,Na,Nb,Nc,Nk,Nf,Ng,Nh,Za,Zb,Zc,TT, g9, decide_eq_true (show (k : Int) < 4 by omega)]
                refine hK _ _ ?_;clear hK K
                refine wC fun X Y hX hY => ?_
                simp only [↓DN,UP,DF,Qa,Qb,Qc,Qd,Qe,Qf,Qg,Qh,reduceCtorEq,↓reduceIte,Na,Nb,Nc,Nk,Nf,Ng,Nh,Za,Zb,Zc,TT, DB]
                refine hX ?_;clear hX hY X Y
                refine awp_skip ?_
                refine hK6 _ _ ?_;clear hK6 K6
                refine wK fun K7 hK7 => ?_
                refine awp_block ?_
                have hsv := spinI_lt v hv k
                have hyv := yI_lt v hv k
                have hsw := spin_walk (spinI v k) hsv
                have hs2 := spin_lt (spinI v k)
                have hs3 : spinI v (k + 1) = Aes.spin (spinI v k) := rfl
                have hy3 : yI v (k + 1) = yI v k ^^^ Aes.spin (spinI v k) := rfl
                have hxr := n_xor (yI v k) (Aes.spin (spinI v k)) (by omega) (by omega)
                rw [← hs3] at hsw hs2 hxr hy3
                rw [← hy3] at hxr
                generalize hsn : spinI v (k + 1) = sn at *
                generalize hyn : yI v (k + 1) = yn at *
                generalize spinI v k = sk at *
                generalize yI v k = yk at *
                refine wS fun K hK => ?_
                simp only [↓DN,UP,DF,Qa,Qb,Qc,Qd,Qe,Qf,Qg,Qh,reduceCtorEq,↓reduceIte,Na,Nb,Nc,Nk,Nf,Ng,Nh,Za,Zb,Zc,TT, g7, hsw, show ¬ ((128 : Int) = 0) from by decide, show ¬ ((256 : Int) = 0) from by decide]
                refine hK _ _ ?_;clear hK K
                refine wE fun K hK => ?_
                simp only [↓DN,UP,DF,Qa,Qb,Qc,Qd,Qe,Qf,Qg,Qh,reduceCtorEq,↓reduceIte,Na,Nb,Nc,Nk,Nf,Ng,Nh,Za,Zb,Zc,TT, g8, hxr]
                refine hK _ _ ?_;clear hK K
                simp only [blockQ, thenQ, if_true, if_false]
                refine hK7 _ _ ?_;clear hK7 K7
                refine wE fun K hK => ?_
                simp only [↓DN,UP,DF,Qa,Qb,Qc,Qd,Qe,Qf,Qg,Qh,reduceCtorEq,↓reduceIte,Na,Nb,Nc,Nk,Nf,Ng,Nh,Za,Zb,Zc,TT, g9, w_succ k (by omega)]
                refine hK _ _ ?_;clear hK K
                refine ⟨⟨k + 1, by omega, by simp only [upd, g1, Nc, ↓reduceIte], by simp only [upd, g2, Nc, ↓reduceIte], by simp only [upd, g5, Nc, ↓reduceIte], by simp only [upd, g6, Nc, ↓reduceIte], by simp only [upd, Nc, ↓reduceIte]; rw [hsn], by simp only [upd, Nc, ↓reduceIte]; rw [hyn], by simp only [upd, ↓reduceIte], rfl⟩, ?_⟩
                simp only [g9, upd, ↓reduceIte]
                omega
              · obtain rfl : k = 4 := by omega
                refine wS fun K hK => ?_
                simp only [↓DN,UP,DF,Qa,Qb,Qc,Qd,Qe,Qf,Qg,Qh,reduceCtorEq,↓reduceIte,Na,Nb,Nc,Nk,Nf,Ng,Nh,Za,Zb,Zc,TT, g9, decide_eq_false (show ¬ ((4 : Nat) : Int) < 4 by decide)]
                refine hK _ _ ?_;clear hK K
                refine wC fun X Y hX hY => ?_
                simp only [↓DN,UP,DF,Qa,Qb,Qc,Qd,Qe,Qf,Qg,Qh,reduceCtorEq,↓reduceIte,Na,Nb,Nc,Nk,Nf,Ng,Nh,Za,Zb,Zc,TT, DB]
                refine hY ?_;clear hX hY X Y
                refine awp_exit ?_
                simp only [thenQ, blockQ, if_true]
                clear hK6 K6
                refine hK5 _ _ ?_;clear hK5 K5
                rw [← hov, hout] at g8
                have hset := fillI_set (fun n => Aes.sb.getD n 0) (fun _ => 0) 256 c _ rfl
                have hlen := fillI_len (fun n => Aes.sb.getD n 0) (fun _ => 0) 256 c
                generalize hR' : fillI (fun n => Aes.sb.getD n 0) (fun _ => 0) 256 (c + 1) = R' at *
                generalize fillI (fun n => Aes.sb.getD n 0) (fun _ => 0) 256 c = R at *
                generalize (Aes.sb.getD c 0).toNat = y at *
                have m0 : (0 : Int) ≤ (c : Int) := by omega
                have m1 : (c : Int) < ((256 : Nat) : Int) := by omega
                have m2 : c + 1 ≤ 256 := by omega
                refine wE fun K hK => ?_
                simp only [↓DN,UP,DF,Qa,Qb,Qc,Qd,Qe,Qf,Qg,Qh,reduceCtorEq,↓reduceIte,Na,Nb,Nc,Nk,Nf,Ng,Nh,Za,Zb,Zc,TT, g5, g6, g8, m0, m1, m2, hc', q5, hset, hlen]
                refine hK _ _ ?_;clear hK K
                simp only [blockQ, thenQ, if_true, if_false]
                refine hK3 _ _ ?_;clear hK3 K3
                refine wE fun K hK => ?_
                simp only [↓DN,UP,DF,Qa,Qb,Qc,Qd,Qe,Qf,Qg,Qh,reduceCtorEq,↓reduceIte,Na,Nb,Nc,Nk,Nf,Ng,Nh,Za,Zb,Zc,TT, g6, w_succ c (by omega)]
                refine hK _ _ ?_;clear hK K
                refine ⟨⟨c + 1, by omega, by simp only [upd, g1, Nc, ↓reduceIte], by simp only [upd, g2, Nc, ↓reduceIte], by simp only [upd, g5, Nc, ↓reduceIte], by simp only [upd, ↓reduceIte], by rw [AS.set_objs_ne _ n51.symm]; exact q1, by rw [AS.set_objs_ne _ n52.symm]; exact q2, by rw [hR']; exact AS.set_objs_same _ _ _, AS.le_set hle2 hs5 _⟩, ?_⟩
                simp only [f6, upd, ↓reduceIte]
                omega
          clear hK3
          by_cases hc0 : c = 0
          · subst hc0
            refine wS fun K hK => ?_
            simp only [↓DN,UP,DF,Qa,Qb,Qc,Qd,Qe,Qf,Qg,Qh,reduceCtorEq,↓reduceIte,Na,Nb,Nc,Nk,Nf,Ng,Nh,Za,Zb,Zc,TT, f6, decide_eq_false (show ¬ (0 : Int) < ((0 : Nat) : Int) by decide)]
            refine hK _ _ ?_;clear hK K
            refine wC fun X Y hX hY => ?_
            simp only [↓DN,UP,DF,Qa,Qb,Qc,Qd,Qe,Qf,Qg,Qh,reduceCtorEq,↓reduceIte,Na,Nb,Nc,Nk,Nf,Ng,Nh,Za,Zb,Zc,TT, DB]
            refine hY ?_;clear hX hY X Y
            refine awp_skip ?_
            exact hgo _ 0 (by decide) rfl (by simp only [upd, f1, Nc, ↓reduceIte]) (by simp only [upd, f2, Nc, ↓reduceIte]) (by simp only [upd, f5, Nc, ↓reduceIte]) (by simp only [upd, f6, Nc, ↓reduceIte]) (by simp only [upd, Nc, ↓reduceIte]; rfl)
          · have hg := Aes.log_le c hc'
            have hd1 := nV_drop (l := Aes.logT) c (by rw [logT_len]; exact hc')
            have hov : Aes.outV Aes.expT Aes.logT c = yI (Aes.expT.getD ((255 - Aes.logT.getD c 0) % 255) 0) 4 := by
              unfold Aes.outV
              rw [if_pos (by omega)]
              rfl
            generalize Aes.logT.getD c 0 = g at *
            have hd2 := nV_drop (l := Aes.expT) ((255 - g) % 255) (by rw [expT_len]; omega)
            have hv := expT_lt ((255 - g) % 255) (by omega)
            have hsub : isub .i64 255 ((g : Nat) : Int) = ((255 - g : Nat) : Int) := i64_sub 255 g (by omega) (by omega)
            have hrem : irem ((255 - g : Nat) : Int) 255 = (((255 - g) % 255 : Nat) : Int) := irem_u (255 - g) 255
            generalize hm : (255 - g) % 255 = m at *
            have hm2 : m < 255 := by omega
            generalize Aes.expT.getD m 0 = v at *
            have hl1 : (Aes.expT.map fun n => nV n).length = 256 := by rw [List.length_map, expT_len]
            have hl2 : (Aes.logT.map fun n => nV n).length = 256 := by rw [List.length_map, logT_len]
            generalize hA : (Aes.expT.map fun n => nV n) = A at *
            generalize hB : (Aes.logT.map fun n => nV n) = B at *
            have m0 : (0 : Int) ≤ (c : Int) := by omega
            have m1 : (c : Int) < ((256 : Nat) : Int) := by omega
            have m2 : (0 : Int) ≤ (m : Int) := by omega
            have m3 : (m : Int) < ((256 : Nat) : Int) := by omega
            have m4 : m < 256 := by omega
            refine wS fun K hK => ?_
            simp only [↓DN,UP,DF,Qa,Qb,Qc,Qd,Qe,Qf,Qg,Qh,reduceCtorEq,↓reduceIte,Na,Nb,Nc,Nk,Nf,Ng,Nh,Za,Zb,Zc,TT, f6, decide_eq_true (show (0 : Int) < (c : Int) by omega)]
            refine hK _ _ ?_;clear hK K
            refine wC fun X Y hX hY => ?_
            simp only [↓DN,UP,DF,Qa,Qb,Qc,Qd,Qe,Qf,Qg,Qh,reduceCtorEq,↓reduceIte,Na,Nb,Nc,Nk,Nf,Ng,Nh,Za,Zb,Zc,TT, DB]
            refine hX ?_;clear hX hY X Y
            refine wE fun K hK => ?_
            simp only [↓DN,UP,DF,Qa,Qb,Qc,Qd,Qe,Qf,Qg,Qh,reduceCtorEq,↓reduceIte,Na,Nb,Nc,Nk,Nf,Ng,Nh,Za,Zb,Zc,TT, f1, f2, f6, m0, m1, m2, m3, m4, hc', q1, q2, hd1, hd2, hsub, hrem, hl1, hl2, show ¬ ((255 : Int) = 0) from by decide]
            refine hK _ _ ?_;clear hK K
            exact hgo _ v hv hov (by simp only [upd, f1, Nc, ↓reduceIte]) (by simp only [upd, f2, Nc, ↓reduceIte]) (by simp only [upd, f5, Nc, ↓reduceIte]) (by simp only [upd, f6, Nc, ↓reduceIte]) (by simp only [upd, ↓reduceIte])
        · obtain rfl : c = 256 := by omega
          refine wS fun K hK => ?_
          simp only [↓DN,UP,DF,Qa,Qb,Qc,Qd,Qe,Qf,Qg,Qh,reduceCtorEq,↓reduceIte,Na,Nb,Nc,Nk,Nf,Ng,Nh,Za,Zb,Zc,TT, f6, decide_eq_false (show ¬ ((256 : Nat) : Int) < 256 by decide)]
          refine hK _ _ ?_;clear hK K
          refine wC fun X Y hX hY => ?_
          simp only [↓DN,UP,DF,Qa,Qb,Qc,Qd,Qe,Qf,Qg,Qh,reduceCtorEq,↓reduceIte,Na,Nb,Nc,Nk,Nf,Ng,Nh,Za,Zb,Zc,TT, DB]
          refine hY ?_;clear hX hY X Y
          refine awp_exit ?_
          simp only [thenQ, blockQ, if_true]
          clear hK2 K2
          refine hK1 _ _ ?_;clear hK1 K1
          rw [fillI_full, show (List.range 256).map (fun n => Aes.sb.getD n 0) = Aes.sb from sb_range] at q5
          have hl5 : (intL Aes.sb).length = 256 := by rw [intL_len, Aes.sb_len]
          refine gwp_ghost (Ghost.freeze (d := 5) (o := o5) (off := 0) (sz := 1) (n := 256) (cap := 256) (by simp only [upd, Nc, ↓reduceIte]; exact f5) q5 (by omega)) (AWp.g ?_)
          have hle3 : s.le (s3.drop o5) := AS.le_drop hle2 hs5
          generalize s3.drop o5 = s4 at *
          rw [show ((intL Aes.sb).drop 0).take (256 * 1) = intL Aes.sb from by rw [List.drop_zero, List.take_of_length_le (by omega)]]
          generalize intL Aes.sb = X at *
          refine wS fun K hK => ?_
          simp only [↓DN,UP,DF,Qa,Qb,Qc,Qd,Qe,Qf,Qg,Qh,reduceCtorEq,↓reduceIte,Na,Nb,Nc,Nk,Nf,Ng,Nh,Za,Zb,Zc,TT]
          refine hK _ _ ?_;clear hK K
          refine awp_ret ?_
          simp only [retQ, AEnds, aresL, ares, List.toList_toArray, ↓upd_same]; try simp only [UP,DF,Nc,↓reduceIte,DT]
          exact ⟨_, s, AV.weak.refl _, hle3, rfl, rfl⟩

end Go.Proofs.YtoagkleecgngdaaGreatDoor


set_option autoImplicit false
namespace Go.Proofs.YtoagkleecgngdaaGreatDoor
open Go Go.AM Go.Proofs


variable {Γ : Nat → List AV}

/-- Cells gathered in a slice of one's own. -/
def IOut (s : AS) (cs : List AV) (r : AV) (s' : AS) : Prop :=
  s.le s' ∧ ((cs = [] ∧ r = .v (.slice none 0 0)) ∨ ∃ t e, s.own t = none ∧ s'.own t = some e ∧ r = .sl 1 cs.length cs (.own t e))
theorem IOut.nil (s : AS) : IOut s [] (.v (.slice none 0 0)) s := ⟨AS.le.refl s, .inl ⟨rfl, rfl⟩⟩
theorem aappend_iout {P : Program} {e : TypeId} {K : AV → AS → Prop} {s s1 : AS} {cs : List AV} {x : AV} {r : AV} (h : IOut s cs r s1) (h1 : x.one = true) (he : P.cellsOf e = 1) (hb : P.bytesOf e = 8) (hlen : cs.length ≤ 2 ^ 40)
    (hk : ∀ r2 s2, IOut s (cs ++ [x]) r2 s2 → K r2 s2) : aappend P e r 1 [x] s1 K := by
  rcases h.2 with ⟨rfl, rfl⟩ | ⟨t, g, k1, k2, rfl⟩
  · rw [aappend_nil, if_neg (by decide), he, hb]
    refine ⟨by omega, by omega, fun t ht => hk _ _ ?_⟩
    refine ⟨AS.le_gain h.1 ?_ 0, .inr ⟨t, 0, ?_, AS.gain_own_same _ _ _, by simp⟩⟩
    all_goals
      cases hs : s.own t with
      | none => rfl
      | some g => rw [h.1.own t g hs] at ht; cases ht
  · rw [aappend_own, if_neg (by decide), he, hb]
    refine ⟨rfl, by omega, by omega, by simp [h1], k2, hk _ _ ?_⟩
    exact ⟨AS.le_gain h.1 k1 _, .inr ⟨t, g + 1, k1, AS.gain_own_same _ _ _, by simp⟩⟩

set_option maxHeartbeats 2000000 in
theorem refInts05_calls (l : List UInt8) (hl : l.length ≤ 1000) (s : AS) :
    ACalls Tryz.prog Γ 271 [.v (.string ⟨l.toArray⟩)] s (fun r s' => IOut s (intL l) r s') := by
  refine acalls_body Tryz.func271 rfl Tryz.ntmps271 Tryz.results271 (by simp) ?_
  refine wS fun K hK => ?_
  simp only [↓DN,UP,DF,Qa,Qb,Qc,Qd,Qe,Qf,Qg,Qh,reduceCtorEq,↓reduceIte,Na,Nb,Nc,Nk,Nf,Ng,Nh,Za,Zb,Zc,TT]
  refine hK _ _ ?_;clear hK K
  refine wS fun K hK => ?_
  simp only [↓DN,UP,DF,Qa,Qb,Qc,Qd,Qe,Qf,Qg,Qh,reduceCtorEq,↓reduceIte,Na,Nb,Nc,Nk,Nf,Ng,Nh,Za,Zb,Zc,TT]
  refine hK _ _ ?_;clear hK K
  refine wK fun K hK => ?_
  refine wS fun K hK => ?_
  simp only [↓DN,UP,DF,Qa,Qb,Qc,Qd,Qe,Qf,Qg,Qh,reduceCtorEq,↓reduceIte,Na,Nb,Nc,Nk,Nf,Ng,Nh,Za,Zb,Zc,TT]
  refine hK _ _ ?_;clear hK K
  refine awp_block ?_
  refine awp_loop (fun E s1 => ∃ i : Nat, i ≤ l.length ∧ E 0 = .v (.string ⟨l.toArray⟩) ∧ E 4 = nV i ∧ IOut s (intL (l.take i)) (E 3) s1)
    (fun E _ => match E 4 with | .v (.int _ i) => l.length - i.toNat | _ => 0) ?_ ?_
  · exact ⟨0, by omega, by simp only [upd, initE, Nc, ↓reduceIte]; rfl, by simp only [upd, ↓reduceIte]; rfl, by simp only [upd, Nc, ↓reduceIte, List.take_zero]; exact IOut.nil s⟩
  · rintro E1 s1 ⟨i, hi, e0, e4, hout⟩ -
    refine wK fun K2 hK2 => ?_
    by_cases hi' : i < l.length
    · refine wS fun K hK => ?_
      simp only [↓DN,UP,DF,Qa,Qb,Qc,Qd,Qe,Qf,Qg,Qh,reduceCtorEq,↓reduceIte,Na,Nb,Nc,Nk,Nf,Ng,Nh,Za,Zb,Zc,TT, e0, e4, bs_size, decide_eq_true (show (i : Int) < (l.length : Int) by omega)]
      refine hK _ _ ?_;clear hK K
      refine wC fun X Y hX hY => ?_
      simp only [↓DN,UP,DF,Qa,Qb,Qc,Qd,Qe,Qf,Qg,Qh,reduceCtorEq,↓reduceIte,Na,Nb,Nc,Nk,Nf,Ng,Nh,Za,Zb,Zc,TT, DB]
      refine hX ?_;clear hX hY X Y
      refine awp_skip ?_
      refine hK2 _ _ ?_;clear hK2 K2
      refine wK fun K3 hK3 => ?_
      refine awp_block ?_
      have hx : (ByteArray.mk l.toArray)[i]? = some (l.getD i 0) := by rw [bs_get l i hi']; simp [List.getElem?_eq_getElem hi']
      have htk : intL (l.take (i + 1)) = intL (l.take i) ++ [nV (l.getD i 0).toNat] := by
        rw [List.take_succ_eq_append_getElem hi', intL, List.map_append, show l.getD i 0 = l[i] by simp [List.getElem?_eq_getElem hi']]
        rfl
      have hcl : (intL (l.take i)).length ≤ 2 ^ 40 := by rw [intL_len, List.length_take]; omega
      generalize l.getD i 0 = x at *
      generalize hA' : intL (l.take (i + 1)) = A' at *
      generalize intL (l.take i) = A at *
      have m0 : (0 : Int) ≤ (i : Int) := by omega
      have hxi : iconv .i64 (x.toNat : Int) = ((x.toNat : Nat) : Int) := i64_conv (by have := x.toNat_lt; omega)
      refine wE fun K hK => ?_
      simp only [↓DN,UP,DF,Qa,Qb,Qc,Qd,Qe,Qf,Qg,Qh,reduceCtorEq,↓reduceIte,Na,Nb,Nc,Nk,Nf,Ng,Nh,Za,Zb,Zc,TT, e0, e4, m0, hx, byteV, hxi, List.replicate_one]
      refine aappend_iout hout rfl T.c3 T.b3 hcl ?_
      intro r2 s2 hout2
      refine hK _ _ ?_;clear hK K
      simp only [blockQ, thenQ, if_true, if_false]
      refine hK3 _ _ ?_;clear hK3 K3
      refine wE fun K hK => ?_
      simp only [↓DN,UP,DF,Qa,Qb,Qc,Qd,Qe,Qf,Qg,Qh,reduceCtorEq,↓reduceIte,Na,Nb,Nc,Nk,Nf,Ng,Nh,Za,Zb,Zc,TT, e4, w_succ i (by omega)]
      refine hK _ _ ?_;clear hK K
      refine ⟨⟨i + 1, by omega, by simp only [upd, e0, Nc, ↓reduceIte], by simp only [upd, ↓reduceIte], ?_⟩, ?_⟩
      · simp only [upd, Nc, ↓reduceIte]
        rw [hA', htk]
        exact hout2
      · simp only [e4, upd, ↓reduceIte]
        omega
    · obtain rfl : i = l.length := by omega
      refine wS fun K hK => ?_
      simp only [↓DN,UP,DF,Qa,Qb,Qc,Qd,Qe,Qf,Qg,Qh,reduceCtorEq,↓reduceIte,Na,Nb,Nc,Nk,Nf,Ng,Nh,Za,Zb,Zc,TT, e0, e4, bs_size, decide_eq_false (show ¬ (l.length : Int) < (l.length : Int) by omega)]
      refine hK _ _ ?_;clear hK K
      refine wC fun X Y hX hY => ?_
      simp only [↓DN,UP,DF,Qa,Qb,Qc,Qd,Qe,Qf,Qg,Qh,reduceCtorEq,↓reduceIte,Na,Nb,Nc,Nk,Nf,Ng,Nh,Za,Zb,Zc,TT, DB]
      refine hY ?_;clear hX hY X Y
      refine awp_exit ?_
      simp only [thenQ, blockQ, if_true]
      clear hK2 K2
      refine hK _ _ ?_;clear hK K
      rw [List.take_length] at hout
      refine wS fun K hK => ?_
      simp only [↓DN,UP,DF,Qa,Qb,Qc,Qd,Qe,Qf,Qg,Qh,reduceCtorEq,↓reduceIte,Na,Nb,Nc,Nk,Nf,Ng,Nh,Za,Zb,Zc,TT]
      refine hK _ _ ?_;clear hK K
      refine awp_ret ?_
      simp only [retQ, AEnds, aresL, ares, List.toList_toArray, ↓upd_same]; try simp only [UP,DF,Nc,↓reduceIte,DT]
      exact ⟨_, _, AV.weak.refl _, AS.le.refl _, hout⟩

end Go.Proofs.YtoagkleecgngdaaGreatDoor


set_option autoImplicit false
namespace Go.Proofs.YtoagkleecgngdaaGreatDoor
open Go Go.AM Go.Proofs


variable {Γ : Nat → List AV}

/-- What is turned into the word i's octet k. -/
def kc (key : List UInt8) (i k : Nat) : UInt8 :=
  if i % 4 = 0 then (if k = 0 then Aes.S (Aes.ak key (4 * i - 4 + 1)) ^^^ Aes.pwr (i / 4 - 1) else Aes.S (Aes.ak key (4 * i - 4 + (k + 1) % 4)))
  else Aes.ak key (4 * i - 4 + k)
theorem ak_word (key : List UInt8) (hk : key.length = 16) (i k : Nat) (h4 : 4 ≤ i) (hk4 : k < 4) : Aes.ak key (4 * i - 16 + k) ^^^ kc key i k = Aes.ak key (4 * i + k) := by
  obtain ⟨r, m, rfl, hm⟩ : ∃ r m, i = 4 * (r + 1) + m ∧ m < 4 := ⟨i / 4 - 1, i % 4, by omega, by omega⟩
  by_cases h0 : m = 0
  · subst h0
    have hl := Aes.ak_low hk r k hk4
    unfold kc
    rw [if_pos (by omega)]
    rw [show 4 * (4 * (r + 1) + 0) - 16 + k = 16 * r + k by omega, show 4 * (4 * (r + 1) + 0) + k = 16 * (r + 1) + k by omega, hl]
    by_cases hk0 : k = 0
    · subst hk0
      rw [if_pos rfl, if_pos rfl, show 4 * (4 * (r + 1) + 0) - 4 + 1 = 16 * r + (12 + (0 + 1) % 4) by omega, show (4 * (r + 1) + 0) / 4 - 1 = r by omega, UInt8.xor_assoc]
    · rw [if_neg hk0, if_neg hk0, show 4 * (4 * (r + 1) + 0) - 4 + (k + 1) % 4 = 16 * r + (12 + (k + 1) % 4) by omega]
  · have hl := Aes.ak_high hk r (4 * m + k) (by omega) (by omega)
    unfold kc
    rw [if_neg (by omega), show 4 * (4 * (r + 1) + m) - 16 + k = 16 * r + (4 * m + k) by omega, show 4 * (4 * (r + 1) + m) + k = 16 * (r + 1) + (4 * m + k) by omega, hl,
      show 4 * (4 * (r + 1) + m) - 4 + k = 16 * (r + 1) + (4 * m + k - 4) by omega]
theorem keys_get (key : List UInt8) (n : Nat) (h : n < 176) : (keysL key).getD n 0 = Aes.ak key n := Aes.range_get _ _ _ _ h
theorem keys_take_succ (key : List UInt8) (n : Nat) (h : n < 176) : intL ((keysL key).take (n + 1)) = intL ((keysL key).take n) ++ [nV (Aes.ak key n).toNat] := by
  have hl : n < (keysL key).length := by rw [keysL_len]; exact h
  have e := keys_get key n h
  rw [List.getD_eq_getElem?_getD, List.getElem?_eq_getElem hl] at e
  simp only [Option.getD_some] at e
  rw [List.take_succ_eq_append_getElem hl, e, intL, List.map_append]
  rfl
theorem keys_first (key : List UInt8) (hk : key.length = 16) : (keysL key).take 16 = key := by
  apply List.ext_getElem
  · simp [keysL_len, hk]
  · intro n h1 h2
    have hn : n < 16 := by omega
    rw [List.getElem_take]
    have e := keys_get key n (by omega)
    rw [Aes.ak_key n hn] at e
    simpa [List.getD_eq_getElem?_getD, List.getElem?_eq_getElem h2, List.getElem?_eq_getElem (show n < (keysL key).length by rw [keysL_len]; omega)] using e
theorem keys_word (key : List UInt8) (i : Nat) (h4 : 4 ≤ i) (hi : i < 44) : List.drop (4 * i - 4) (List.take (4 * i) (intL ((keysL key).take (4 * i)))) = [nV (Aes.ak key (4 * i - 4 + 0)).toNat, nV (Aes.ak key (4 * i - 4 + 1)).toNat, nV (Aes.ak key (4 * i - 4 + 2)).toNat, nV (Aes.ak key (4 * i - 4 + 3)).toNat] := by
  have hl : (intL ((keysL key).take (4 * i))).length = 4 * i := by rw [intL_len, List.length_take, keysL_len]; omega
  rw [List.take_of_length_le (by omega)]
  apply List.ext_getElem?
  intro n
  rw [List.getElem?_drop]
  by_cases hn : n < 4
  · have e : (intL ((keysL key).take (4 * i)))[4 * i - 4 + n]? = some (nV (Aes.ak key (4 * i - 4 + n)).toNat) := by
      have h1 : 4 * i - 4 + n < (keysL key).length := by rw [keysL_len]; omega
      have e := keys_get key (4 * i - 4 + n) (by omega)
      rw [List.getD_eq_getElem?_getD, List.getElem?_eq_getElem h1] at e
      simp only [Option.getD_some] at e
      rw [intL, List.getElem?_map, List.getElem?_take, if_pos (by omega), List.getElem?_eq_getElem h1, Option.map_some, e]
    rw [e]
    rcases (show n = 0 ∨ n = 1 ∨ n = 2 ∨ n = 3 by omega) with rfl | rfl | rfl | rfl <;> rfl
  · rw [List.getElem?_eq_none (by omega), List.getElem?_eq_none (by simp; omega)]
theorem rmul2_at (x : UInt8) : Aes.rmul x.toNat 2 = (Aes.dbl x).toNat := by
  have := Aes.rmul2 x.toNat x.toNat_lt
  rwa [UInt8.ofNat_toNat] at this
theorem nb_xor (a b : UInt8) : ixor .i64 (a.toNat : Int) (b.toNat : Int) = (((a ^^^ b).toNat : Nat) : Int) := by
  have ha := a.toNat_lt
  have hb := b.toNat_lt
  rw [n_xor _ _ (by omega) (by omega), UInt8.toNat_xor]

set_option maxHeartbeats 8000000 in
set_option maxRecDepth 100000 in
theorem refKeys_calls (key : List UInt8) (hk : key.length = 16) (s : AS) :
    ACalls Tryz.prog Γ 270 [.sl 1 16 (intL key) .any, .sl 1 256 (intL Aes.sb) .any] s (fun r s' => r = .sl 1 176 (intL (keysL key)) .any ∧ s' = s) := by
  refine acalls_body Tryz.func270 rfl Tryz.ntmps270 Tryz.results270 (by simp) ?_
  have hkl : (intL key).length = 16 := by rw [intL_len, hk]
  have hkone : (intL key).all AV.one = true := by rw [List.all_eq_true]; intro x hx; obtain ⟨n, _, rfl⟩ := List.mem_map.1 hx; rfl
  have hktk : List.take 16 (intL key) = intL key := List.take_of_length_le (by omega)
  have hk16 : intL ((keysL key).take (4 * 4)) = intL key := by rw [show 4 * 4 = 16 from rfl, keys_first key hk]
  rw [← hk16]
  rw [← hk16] at hkl hkone hktk
  generalize hW0 : intL ((keysL key).take (4 * 4)) = W0 at *
  refine wS fun K hK => ?_
  simp only [↓DN,UP,DF,Qa,Qb,Qc,Qd,Qe,Qf,Qg,Qh,reduceCtorEq,↓reduceIte,Na,Nb,Nc,Nk,Nf,Ng,Nh,Za,Zb,Zc,TT]
  refine hK _ _ ?_;clear hK K
  refine wS fun K hK => ?_
  simp only [↓DN,UP,DF,Qa,Qb,Qc,Qd,Qe,Qf,Qg,Qh,reduceCtorEq,↓reduceIte,Na,Nb,Nc,Nk,Nf,Ng,Nh,Za,Zb,Zc,TT, hkl, hkone, hktk]
  intro t ht
  refine hK _ _ ?_;clear hK K
  have hle0 : s.le (s.gain t 0) := AS.le_gain (AS.le.refl s) ht 0
  have hown0 : (s.gain t 0).own t = some 0 := AS.gain_own_same _ _ _
  generalize s.gain t 0 = s0 at *
  refine wS fun K hK => ?_
  simp only [↓DN,UP,DF,Qa,Qb,Qc,Qd,Qe,Qf,Qg,Qh,reduceCtorEq,↓reduceIte,Na,Nb,Nc,Nk,Nf,Ng,Nh,Za,Zb,Zc,TT]
  refine hK _ _ ?_;clear hK K
  refine wK fun K hK => ?_
  refine wS fun K hK => ?_
  simp only [↓DN,UP,DF,Qa,Qb,Qc,Qd,Qe,Qf,Qg,Qh,reduceCtorEq,↓reduceIte,Na,Nb,Nc,Nk,Nf,Ng,Nh,Za,Zb,Zc,TT]
  refine hK _ _ ?_;clear hK K
  refine awp_block ?_
  rw [← hW0]
  clear hW0 hkl hkone hktk hk16 W0
  refine awp_loop (fun E s1 => ∃ i g : Nat, 4 ≤ i ∧ i ≤ 44 ∧ E 1 = .sl 1 256 (intL Aes.sb) .any ∧ E 5 = .sl 1 (4 * i) (intL ((keysL key).take (4 * i))) (.own t g) ∧ E 6 = nV (Aes.pwr ((i + 3) / 4 - 1)).toNat ∧ E 7 = nV i ∧ s1.own t = some g ∧ s.le s1)
    (fun E _ => match E 7 with | .v (.int _ i) => 44 - i.toNat | _ => 0) ?_ ?_
  · exact ⟨4, 0, by omega, by omega, by simp only [upd, initE, Nc, ↓reduceIte]; rfl, by simp only [upd, Nc, ↓reduceIte], by simp only [upd, Nc, ↓reduceIte]; rfl, by simp only [upd, ↓reduceIte]; rfl, hown0, hle0⟩
  · clear hown0 hle0
    rintro E1 s1 ⟨i, g, h4, hi, e1, e5, e6, e7, hown, hle⟩ -
    refine wK fun K2 hK2 => ?_
    by_cases hi' : i < 44
    · refine wS fun K hK => ?_
      simp only [↓DN,UP,DF,Qa,Qb,Qc,Qd,Qe,Qf,Qg,Qh,reduceCtorEq,↓reduceIte,Na,Nb,Nc,Nk,Nf,Ng,Nh,Za,Zb,Zc,TT, e7, decide_eq_true (show (i : Int) < 44 by omega)]
      refine hK _ _ ?_;clear hK K
      refine wC fun X Y hX hY => ?_
      simp only [↓DN,UP,DF,Qa,Qb,Qc,Qd,Qe,Qf,Qg,Qh,reduceCtorEq,↓reduceIte,Na,Nb,Nc,Nk,Nf,Ng,Nh,Za,Zb,Zc,TT, DB]
      refine hX ?_;clear hX hY X Y
      refine awp_skip ?_
      refine hK2 _ _ ?_;clear hK2 K2
      refine wK fun K3 hK3 => ?_
      refine awp_block ?_
      have hword := keys_word key i h4 hi'
      have hWl : (intL ((keysL key).take (4 * i))).length = 4 * i := by rw [intL_len, List.length_take, keysL_len]; omega
      generalize hW : intL ((keysL key).take (4 * i)) = W at *
      have a1 := i64_mul4n i (by omega)
      have a2 : isub .i64 ((4 * i : Nat) : Int) 4 = ((4 * i - 4 : Nat) : Int) := i64_sub (4 * i) 4 (by omega) (by omega)
      have m0 : (0 : Int) ≤ ((4 * i - 4 : Nat) : Int) := by omega
      have m1 : ((4 * i - 4 : Nat) : Int) ≤ ((4 * i : Nat) : Int) := by omega
      have m2 : ((4 * i : Nat) : Int) ≤ ((4 * i : Nat) : Int) := by omega
      have m3 : ¬ (((4 * i - 4 : Nat) : Int) = 0) := by omega
      have m4 : 4 * i - (4 * i - 4) = 4 := by omega
      refine wS fun K hK => ?_
      simp only [↓DN,UP,DF,Qa,Qb,Qc,Qd,Qe,Qf,Qg,Qh,reduceCtorEq,↓reduceIte,Na,Nb,Nc,Nk,Nf,Ng,Nh,Za,Zb,Zc,TT, e5, e7, a1, a2, m0, m1, m2, m3, m4, hword]
      intro t8 ht8
      refine hK _ _ ?_;clear hK K
      have n8 : t ≠ t8 := fun e => by rw [e, ht8] at hown; cases hown
      have hs8 : s.own t8 = none := by
        cases h : s.own t8 with
        | none => rfl
        | some cs => rw [hle.own _ _ h] at ht8; cases ht8
      have hown2 : (s1.gain t8 0).own t = some g := by rw [AS.gain_own_eq]; simp only [upd, if_neg n8]; exact hown
      have hle2 : s.le (s1.gain t8 0) := AS.le_gain hle hs8 0
      generalize s1.gain t8 0 = s2 at *
      clear hown hle ht8
      refine wK fun K4 hK4 => ?_
      have hgo : ∀ (E2 : Env) (sp : Sp), E2 1 = .sl 1 256 (intL Aes.sb) .any → E2 5 = .sl 1 (4 * i) W (.own t g) → E2 6 = nV (Aes.pwr ((i + 1 + 3) / 4 - 1)).toNat → E2 7 = nV i →
          E2 8 = .sl 1 4 [nV (kc key i 0).toNat, nV (kc key i 1).toNat, nV (kc key i 2).toNat, nV (kc key i 3).toNat] sp → K4 E2 s2 := by
        intro E2 sp f1 f5 f6 f7 f8
        refine hK4 _ _ ?_;clear hK4 K4
        refine wS fun K hK => ?_
        simp only [↓DN,UP,DF,Qa,Qb,Qc,Qd,Qe,Qf,Qg,Qh,reduceCtorEq,↓reduceIte,Na,Nb,Nc,Nk,Nf,Ng,Nh,Za,Zb,Zc,TT]
        refine hK _ _ ?_;clear hK K
        refine awp_block ?_
        rw [← hW] at f5
        clear hword hWl hW m4
        refine awp_loop (fun E s3 => ∃ k h : Nat, k ≤ 4 ∧ E 1 = .sl 1 256 (intL Aes.sb) .any ∧ E 5 = .sl 1 (4 * i + k) (intL ((keysL key).take (4 * i + k))) (.own t h) ∧ E 6 = nV (Aes.pwr ((i + 1 + 3) / 4 - 1)).toNat ∧ E 7 = nV i ∧ E 8 = .sl 1 4 [nV (kc key i 0).toNat, nV (kc key i 1).toNat, nV (kc key i 2).toNat, nV (kc key i 3).toNat] sp ∧ E 9 = nV k ∧ s3.own t = some h ∧ s.le s3)
          (fun E _ => match E 9 with | .v (.int _ i) => 4 - i.toNat | _ => 0) ?_ ?_
        · exact ⟨0, g, by omega, by simp only [upd, f1, Nc, ↓reduceIte], by simp only [upd, f5, Nc, ↓reduceIte]; rfl, by simp only [upd, f6, Nc, ↓reduceIte], by simp only [upd, f7, Nc, ↓reduceIte], by simp only [upd, f8, Nc, ↓reduceIte], by simp only [upd, ↓reduceIte]; rfl, hown2, hle2⟩
        · clear hown2 hle2 f1 f5 f6 f7 f8
          rintro E3 s3 ⟨k, h, hk', f1, f5, f6, f7, f8, f9, hown2, hle2⟩ -
          refine wK fun K6 hK6 => ?_
          by_cases hk4 : k < 4
          · refine wS fun K hK => ?_
            simp only [↓DN,UP,DF,Qa,Qb,Qc,Qd,Qe,Qf,Qg,Qh,reduceCtorEq,↓reduceIte,Na,Nb,Nc,Nk,Nf,Ng,Nh,Za,Zb,Zc,TT, f9, decide_eq_true (show (k : Int) < 4 by omega)]
            refine hK _ _ ?_;clear hK K
            refine wC fun X Y hX hY => ?_
            simp only [↓DN,UP,DF,Qa,Qb,Qc,Qd,Qe,Qf,Qg,Qh,reduceCtorEq,↓reduceIte,Na,Nb,Nc,Nk,Nf,Ng,Nh,Za,Zb,Zc,TT, DB]
            refine hX ?_;clear hX hY X Y
            refine awp_skip ?_
            refine hK6 _ _ ?_;clear hK6 K6
            refine wK fun K7 hK7 => ?_
            refine awp_block ?_
            have hak := ak_word key hk i k h4 hk4
            have hsucc := keys_take_succ key (4 * i + k) (by omega)
            have b2 : isub .i64 ((4 * i : Nat) : Int) 16 = ((4 * i - 16 : Nat) : Int) := i64_sub (4 * i) 16 (by omega) (by omega)
            have b3 := i64_add (4 * i - 16) k (by omega)
            have hWl2 : (intL ((keysL key).take (4 * i + k))).length = 4 * i + k := by rw [intL_len, List.length_take, keysL_len]; omega
            have hgl : 4 * i - 16 + k < ((keysL key).take (4 * i + k)).length := by rw [List.length_take, keysL_len]; omega
            have hdw := intL_drop (l := (keysL key).take (4 * i + k)) (4 * i - 16 + k) hgl
            have hgk : ((keysL key).take (4 * i + k)).getD (4 * i - 16 + k) 0 = Aes.ak key (4 * i - 16 + k) := by
              rw [← keys_get key (4 * i - 16 + k) (by omega), List.getD_eq_getElem?_getD, List.getD_eq_getElem?_getD, List.getElem?_take, if_pos (by omega)]
            rw [hgk] at hdw
            have hdc : List.drop k [nV (kc key i 0).toNat, nV (kc key i 1).toNat, nV (kc key i 2).toNat, nV (kc key i 3).toNat] = nV (kc key i k).toNat :: List.drop (k + 1) [nV (kc key i 0).toNat, nV (kc key i 1).toNat, nV (kc key i 2).toNat, nV (kc key i 3).toNat] := by
              rcases (show k = 0 ∨ k = 1 ∨ k = 2 ∨ k = 3 by omega) with rfl | rfl | rfl | rfl <;> rfl
            have hone : (intL ((keysL key).take (4 * i + k))).all AV.one = true := by rw [List.all_eq_true]; intro x hx; obtain ⟨n, _, rfl⟩ := List.mem_map.1 hx; rfl
            generalize hD : [nV (kc key i 0).toNat, nV (kc key i 1).toNat, nV (kc key i 2).toNat, nV (kc key i 3).toNat] = D at *
            rw [← hak] at hsucc
            generalize hV' : intL ((keysL key).take (4 * i + k + 1)) = V' at *
            generalize hV : intL ((keysL key).take (4 * i + k)) = V at *
            generalize Aes.ak key (4 * i - 16 + k) = x at *
            generalize kc key i k = y at *
            have l0 : (0 : Int) ≤ ((4 * i - 16 + k : Nat) : Int) := by omega
            have l1 : ((4 * i - 16 + k : Nat) : Int) < ((4 * i + k : Nat) : Int) := by omega
            have l2 : (0 : Int) ≤ (k : Int) := by omega
            have l3 : (k : Int) < ((4 : Nat) : Int) := by omega
            have l4 : (4 * i + k + 1) * 8 ≤ 2 ^ 46 := by omega
            have l5 : 4 * i + k + 1 ≤ 2 ^ 46 := by omega
            refine awp_drw_end T.mixed [15] (by kernel_rfl) ?_
            intro K hK
            simp only [↓AXq_nil,↓AXq_cons,pval,DX,Nat.reduceBEq,↓DN,UP,DF,Qa,Qb,Qc,Qd,Qe,Qf,Qg,Qh,reduceCtorEq,↓reduceIte,Na,Nb,Nc,Nk,Nf,Ng,Nh,Za,Zb,Zc,TT, f5, f7, f8, f9, a1, b2, b3, l0, l1, l2, l3, hdw, hdc, nb_xor, List.replicate_one]
            refine ⟨by omega, by omega, hown2, hK _ _ ?_⟩
            clear hK K
            rw [← hsucc]
            simp only [blockQ, thenQ, if_true, if_false]
            refine hK7 _ _ ?_;clear hK7 K7
            refine wE fun K hK => ?_
            simp only [↓DN,UP,DF,Qa,Qb,Qc,Qd,Qe,Qf,Qg,Qh,reduceCtorEq,↓reduceIte,Na,Nb,Nc,Nk,Nf,Ng,Nh,Za,Zb,Zc,TT, f9, w_succ k (by omega)]
            refine hK _ _ ?_;clear hK K
            refine ⟨⟨k + 1, h + 1, by omega, by simp only [upd, f1, Nc, ↓reduceIte], by simp only [upd, Nc, ↓reduceIte]; rw [← hV']; rfl, by simp only [upd, f6, Nc, ↓reduceIte], by simp only [upd, f7, Nc, ↓reduceIte], by simp only [upd, f8, Nc, ↓reduceIte], by simp only [upd, ↓reduceIte], AS.gain_own_same _ _ _, AS.le_gain hle2 ht _⟩, ?_⟩
            simp only [f9, upd, ↓reduceIte]
            omega
          · obtain rfl : k = 4 := by omega
            refine wS fun K hK => ?_
            simp only [↓DN,UP,DF,Qa,Qb,Qc,Qd,Qe,Qf,Qg,Qh,reduceCtorEq,↓reduceIte,Na,Nb,Nc,Nk,Nf,Ng,Nh,Za,Zb,Zc,TT, f9, decide_eq_false (show ¬ ((4 : Nat) : Int) < 4 by decide)]
            refine hK _ _ ?_;clear hK K
            refine wC fun X Y hX hY => ?_
            simp only [↓DN,UP,DF,Qa,Qb,Qc,Qd,Qe,Qf,Qg,Qh,reduceCtorEq,↓reduceIte,Na,Nb,Nc,Nk,Nf,Ng,Nh,Za,Zb,Zc,TT, DB]
            refine hY ?_;clear hX hY X Y
            refine awp_exit ?_
            simp only [thenQ, blockQ, if_true, if_false]
            clear hK6 K6
            refine hK3 _ _ ?_;clear hK3 K3
            refine wE fun K hK => ?_
            simp only [↓DN,UP,DF,Qa,Qb,Qc,Qd,Qe,Qf,Qg,Qh,reduceCtorEq,↓reduceIte,Na,Nb,Nc,Nk,Nf,Ng,Nh,Za,Zb,Zc,TT, f7, w_succ i (by omega)]
            refine hK _ _ ?_;clear hK K
            refine ⟨⟨i + 1, h, by omega, by omega, by simp only [upd, f1, Nc, ↓reduceIte], by simp only [upd, f5, Nc, ↓reduceIte]; rfl, by simp only [upd, f6, Nc, ↓reduceIte], by simp only [upd, ↓reduceIte], hown2, hle2⟩, ?_⟩
            simp only [e7, upd, ↓reduceIte]
            omega
      clear hK3 hK4 hWl hword
      have r4 := rem4 i
      by_cases hm : i % 4 = 0
      · have h0 : kc key i 0 = Aes.S (Aes.ak key (4 * i - 4 + 1)) ^^^ Aes.pwr (i / 4 - 1) := by unfold kc; rw [if_pos hm, if_pos rfl]
        have h1 : kc key i 1 = Aes.S (Aes.ak key (4 * i - 4 + 2)) := by unfold kc; rw [if_pos hm, if_neg (by decide)]
        have h2 : kc key i 2 = Aes.S (Aes.ak key (4 * i - 4 + 3)) := by unfold kc; rw [if_pos hm, if_neg (by decide)]
        have h3 : kc key i 3 = Aes.S (Aes.ak key (4 * i - 4)) := by unfold kc; rw [if_pos hm, if_neg (by decide)]; rfl
        have hp : (i + 3) / 4 - 1 = i / 4 - 1 := by omega
        have hp2 : (i + 1 + 3) / 4 - 1 = i / 4 - 1 + 1 := by omega
        rw [hp] at e6
        rw [hp2, h0, h1, h2, h3] at hgo
        have hpw : Aes.pwr (i / 4 - 1 + 1) = Aes.dbl (Aes.pwr (i / 4 - 1)) := rfl
        rw [hpw] at hgo
        clear h0 h1 h2 h3 hpw
        generalize Aes.pwr (i / 4 - 1) = pw at *
        generalize Aes.ak key (4 * i - 4) = x0 at *
        generalize Aes.ak key (4 * i - 4 + 1) = x1 at *
        generalize Aes.ak key (4 * i - 4 + 2) = x2 at *
        generalize Aes.ak key (4 * i - 4 + 3) = x3 at *
        have d0 := intL_drop (l := Aes.sb) x0.toNat (by rw [Aes.sb_len]; have := x0.toNat_lt; omega)
        rw [S_at] at d0
        have u0 : (0 : Int) ≤ ((x0.toNat : Nat) : Int) := by omega
        have w0 : ((x0.toNat : Nat) : Int) < ((256 : Nat) : Int) := by have := x0.toNat_lt; omega
        have d1 := intL_drop (l := Aes.sb) x1.toNat (by rw [Aes.sb_len]; have := x1.toNat_lt; omega)
        rw [S_at] at d1
        have u1 : (0 : Int) ≤ ((x1.toNat : Nat) : Int) := by omega
        have w1 : ((x1.toNat : Nat) : Int) < ((256 : Nat) : Int) := by have := x1.toNat_lt; omega
        have d2 := intL_drop (l := Aes.sb) x2.toNat (by rw [Aes.sb_len]; have := x2.toNat_lt; omega)
        rw [S_at] at d2
        have u2 : (0 : Int) ≤ ((x2.toNat : Nat) : Int) := by omega
        have w2 : ((x2.toNat : Nat) : Int) < ((256 : Nat) : Int) := by have := x2.toNat_lt; omega
        have d3 := intL_drop (l := Aes.sb) x3.toNat (by rw [Aes.sb_len]; have := x3.toNat_lt; omega)
        rw [S_at] at d3
        have u3 : (0 : Int) ≤ ((x3.toNat : Nat) : Int) := by omega
        have w3 : ((x3.toNat : Nat) : Int) < ((256 : Nat) : Int) := by have := x3.toNat_lt; omega
        have rep4 : ∀ x : AV, List.replicate 4 x = [x, x, x, x] := fun _ => rfl
        rw [hm] at r4
        refine wS fun K hK => ?_
        simp only [↓DN,UP,DF,Qa,Qb,Qc,Qd,Qe,Qf,Qg,Qh,reduceCtorEq,↓reduceIte,Na,Nb,Nc,Nk,Nf,Ng,Nh,Za,Zb,Zc,TT, e7, r4, four_ne, show (((0 : Nat) : Int) == 0) = true from rfl]
        refine hK _ _ ?_;clear hK K
        refine wC fun X Y hX hY => ?_
        simp only [↓DN,UP,DF,Qa,Qb,Qc,Qd,Qe,Qf,Qg,Qh,reduceCtorEq,↓reduceIte,Na,Nb,Nc,Nk,Nf,Ng,Nh,Za,Zb,Zc,TT, DB]
        refine hX ?_;clear hX hY X Y
        generalize hY : intL Aes.sb = Y at *
        refine awp_drw_seq T.mixed [] (by kernel_rfl) ?_
        intro K hK
        simp only [↓AXq_nil,↓AXq_cons,pval,DX,Nat.reduceBEq,↓DN,UP,DF,Qa,Qb,Qc,Qd,Qe,Qf,Qg,Qh,reduceCtorEq,↓reduceIte,Na,Nb,Nc,Nk,Nf,Ng,Nh,Za,Zb,Zc,TT, e1, e6, d0, d1, d2, d3, u0, u1, u2, u3, w0, w1, w2, w3, nb_xor, rep4, show (0 : Int) < ((4 : Nat) : Int) from by decide, show (1 : Int) < ((4 : Nat) : Int) from by decide, show (2 : Int) < ((4 : Nat) : Int) from by decide, show (3 : Int) < ((4 : Nat) : Int) from by decide]
        refine hK _ _ ?_;clear hK K
        refine wE fun K hK => ?_
        simp only [↓DN,UP,DF,Qa,Qb,Qc,Qd,Qe,Qf,Qg,Qh,reduceCtorEq,↓reduceIte,Na,Nb,Nc,Nk,Nf,Ng,Nh,Za,Zb,Zc,TT, e6]
        refine acallk (refMul05_calls pw.toNat 2 pw.toNat_lt (by decide) _) ?_
        rintro r s3 ⟨rfl, rfl⟩
        rw [rmul2_at]
        simp only [↓AXq_nil,↓AXq_cons,pval,DX,Nat.reduceBEq,↓DN,UP,DF,Qa,Qb,Qc,Qd,Qe,Qf,Qg,Qh,reduceCtorEq,↓reduceIte,Na,Nb,Nc,Nk,Nf,Ng,Nh,Za,Zb,Zc,TT]
        refine hK _ _ ?_;clear hK K
        simp only [blockQ, thenQ, if_true, if_false]
        exact hgo _ .new (by simp only [upd, e1, Nc, ↓reduceIte]) (by simp only [upd, e5, Nc, ↓reduceIte]) (by simp only [upd, ↓reduceIte]) (by simp only [upd, e7, Nc, ↓reduceIte]) (by simp only [upd, Nc, ↓reduceIte])
      · have h0 : kc key i 0 = Aes.ak key (4 * i - 4) := by unfold kc; rw [if_neg hm]; rfl
        have h1 : kc key i 1 = Aes.ak key (4 * i - 4 + 1) := by unfold kc; rw [if_neg hm]
        have h2 : kc key i 2 = Aes.ak key (4 * i - 4 + 2) := by unfold kc; rw [if_neg hm]
        have h3 : kc key i 3 = Aes.ak key (4 * i - 4 + 3) := by unfold kc; rw [if_neg hm]
        have hp : (i + 1 + 3) / 4 - 1 = (i + 3) / 4 - 1 := by omega
        rw [hp, h0, h1, h2, h3] at hgo
        have hmz : ((((i % 4 : Nat) : Int)) == 0) = false := by simp; omega
        refine wS fun K hK => ?_
        simp only [↓DN,UP,DF,Qa,Qb,Qc,Qd,Qe,Qf,Qg,Qh,reduceCtorEq,↓reduceIte,Na,Nb,Nc,Nk,Nf,Ng,Nh,Za,Zb,Zc,TT, e7, r4, four_ne, hmz]
        refine hK _ _ ?_;clear hK K
        refine wC fun X Y hX hY => ?_
        simp only [↓DN,UP,DF,Qa,Qb,Qc,Qd,Qe,Qf,Qg,Qh,reduceCtorEq,↓reduceIte,Na,Nb,Nc,Nk,Nf,Ng,Nh,Za,Zb,Zc,TT, DB]
        refine hY ?_;clear hX hY X Y
        refine awp_skip ?_
        exact hgo _ (.own t8 0) (by simp only [upd, e1, Nc, ↓reduceIte]) (by simp only [upd, e5, Nc, ↓reduceIte]) (by simp only [upd, e6, Nc, ↓reduceIte]) (by simp only [upd, e7, Nc, ↓reduceIte]) (by simp only [upd, Nc, ↓reduceIte])
    · obtain rfl : i = 44 := by omega
      refine wS fun K hK => ?_
      simp only [↓DN,UP,DF,Qa,Qb,Qc,Qd,Qe,Qf,Qg,Qh,reduceCtorEq,↓reduceIte,Na,Nb,Nc,Nk,Nf,Ng,Nh,Za,Zb,Zc,TT, e7, decide_eq_false (show ¬ ((44 : Nat) : Int) < 44 by decide)]
      refine hK _ _ ?_;clear hK K
      refine wC fun X Y hX hY => ?_
      simp only [↓DN,UP,DF,Qa,Qb,Qc,Qd,Qe,Qf,Qg,Qh,reduceCtorEq,↓reduceIte,Na,Nb,Nc,Nk,Nf,Ng,Nh,Za,Zb,Zc,TT, DB]
      refine hY ?_;clear hX hY X Y
      refine awp_exit ?_
      simp only [thenQ, blockQ, if_true]
      clear hK2 K2
      refine hK _ _ ?_;clear hK K
      rw [show 4 * 44 = 176 from rfl, List.take_of_length_le (by rw [keysL_len]; omega)] at e5
      generalize intL (keysL key) = X at *
      refine wS fun K hK => ?_
      simp only [↓DN,UP,DF,Qa,Qb,Qc,Qd,Qe,Qf,Qg,Qh,reduceCtorEq,↓reduceIte,Na,Nb,Nc,Nk,Nf,Ng,Nh,Za,Zb,Zc,TT, e5]
      refine hK _ _ ?_;clear hK K
      refine awp_ret ?_
      simp only [retQ, AEnds, aresL, ares, List.toList_toArray, ↓upd_same]; try simp only [UP,DF,Nc,↓reduceIte,DT]
      exact ⟨_, s, AV.weak_any, hle, rfl, rfl⟩

end Go.Proofs.YtoagkleecgngdaaGreatDoor


